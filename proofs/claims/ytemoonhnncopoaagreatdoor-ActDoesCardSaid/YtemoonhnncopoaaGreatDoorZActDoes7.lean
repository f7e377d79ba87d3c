/- Texts of this claim, merged (PAllEnd). -/
import Derived.Test.YtemoonhnncopoaaGreatDoorZActDoes2
import Derived.Test.YtemoonhnncopoaaGreatDoorZActDoes6
section
namespace Go.Proofs.YtemoonhnncopoaaGreatDoor.PAll
open Go.RowKit Go.Proofs.YtemoonhnncopoaaGreatDoorW.PrintWords Go.Proofs.YtemoonhnncopoaaGreatDoorW.PrintLast Go.Proofs.YtemoonhnncopoaaGreatDoorW.PrintMore
attribute [local go_sem] max2_int min2_int max_two min_two max_three min_three max_four min_four   -- for this text's walks alone
set_option linter.unusedVariables false
set_option linter.unusedSimpArgs false
mutual
def spinetref04_End.j0 : Nat → Int → List Int → Bool → Bool → Int → Int → Int → Option (Int × Int × Int × Int)
  | 0, _, _, _, _, _, _, _ => none
  | k + 1, x1, x2, x4, x40, x273000, x273001, x273002 => if x40 = true then ((spinetref04_whole.f 0).bind fun bt276 => (some (bt276.1, bt276.2.1, bt276.2.2, x1))) else (if x4 = true then (some (0, 0, 4, x1)) else (if x273001 < (x2.length : Int) then (if 0 ≤ x273001 then ((spinetref04_whole.f (rd x2 x273001)).bind fun bt280 => (some (bt280.1, bt280.2.1, bt280.2.2, x1))) else (none)) else (some (0, 0, 4, x1))))
def spinetref04_End.j1 : Nat → List (S91) → Int → List Int → Int → Bool → Int → Bool → Int → Int → Int → Option (Int × Int × Int × Int)
  | 0, _, _, _, _, _, _, _, _, _, _ => none
  | k + 1, x0, x1, x2, x3, x4, x25, x61, x273000, x273001, x273002 => if x61 = true then ((spinetref04_truth.f (x273000 == 15)).bind fun bt283 => (some (bt283.1, bt283.2.1, bt283.2.2, x1))) else (if x25 = 14 then (spinetref04_End.j2 k x0 x1 x2 x3 x4 (x25 == 14) x273000 x273001 x273002) else (spinetref04_End.j2 k x0 x1 x2 x3 x4 (x25 == 19) x273000 x273001 x273002))
def spinetref04_End.j2 : Nat → List (S91) → Int → List Int → Int → Bool → Bool → Int → Int → Int → Option (Int × Int × Int × Int)
  | 0, _, _, _, _, _, _, _, _, _ => none
  | k + 1, x0, x1, x2, x3, x4, x69, x273000, x273001, x273002 => if x69 = true then ((spinetref04_End.f k x0 (wrap64 (x1 - 1)) x2 x3 x4).bind fun bt286 => (if bt286.2.2.1 = 0 then (if x273000 = 14 then (spinetref04_End.j3 k bt286.2.2.2 (bt286.1 == 2) x273000 x273001 x273002 bt286.1 bt286.2.1 bt286.2.2.1) else (spinetref04_End.j3 k bt286.2.2.2 false x273000 x273001 x273002 bt286.1 bt286.2.1 bt286.2.2.1)) else (some (bt286.1, bt286.2.1, bt286.2.2.1, bt286.2.2.2)))) else ((spinetref04_End.f k x0 (wrap64 (x1 - 1)) x2 x3 x4).bind fun bt298 => ((spinetref04_End.f k x0 (wrap64 (bt298.2.2.2 - 1)) x2 x3 x4).bind fun bt303 => (if bt303.2.2.1 = 0 then (if bt298.2.2.1 = 0 then ((spinetref04_two.f k x273000 bt303.1 bt303.2.1 bt298.1 bt298.2.1).bind fun bt308 => (if bt308.2.2 = 9 then (if x4 = true then ((spinetref04_whole.f 0).bind fun bt312 => (some (bt312.1, bt312.2.1, bt312.2.2, bt303.2.2.2))) else (some (bt308.1, bt308.2.1, bt308.2.2, bt303.2.2.2))) else (some (bt308.1, bt308.2.1, bt308.2.2, bt303.2.2.2)))) else (some (bt298.1, bt298.2.1, bt298.2.2.1, bt303.2.2.2))) else (some (bt303.1, bt303.2.1, bt303.2.2.1, bt303.2.2.2)))))
def spinetref04_End.j3 : Nat → Int → Bool → Int → Int → Int → Int → Int → Int → Option (Int × Int × Int × Int)
  | 0, _, _, _, _, _, _, _, _ => none
  | k + 1, x14, x95, x273000, x273001, x273002, x291000, x291001, x291002 => if x95 = true then ((spinetref04_truth.f (x291001 == 0)).bind fun bt291 => (some (bt291.1, bt291.2.1, bt291.2.2, x14))) else (if x273000 = 19 then (spinetref04_End.j4 k x14 (x291000 == 1) x291000 x291001 x291002) else (spinetref04_End.j4 k x14 false x291000 x291001 x291002))
def spinetref04_End.j4 : Nat → Int → Bool → Int → Int → Int → Option (Int × Int × Int × Int)
  | 0, _, _, _, _, _ => none
  | k + 1, x14, x110, x291000, x291001, x291002 => if x110 = true then ((spinetref01_Sub.f 0 x291001).bind fun t294 => ((spinetref04_whole.f t294).bind fun bt295 => (some (bt295.1, bt295.2.1, bt295.2.2, x14)))) else (some (0, 0, 8, x14))
def spinetref04_End.f : Nat → List (S91) → Int → List Int → Int → Bool → Option (Int × Int × Int × Int)
  | 0, _, _, _, _, _ => none
  | k + 1, l0, a1, l2, a3, a4 => if 0 ≤ a1 then (if a1 < (l0.length : Int) then (if ((rd_T91 l0 a1).f0) = 1 then ((spinetref04_whole.f ((rd_T91 l0 a1).f1)).bind fun bt273 => (some (bt273.1, bt273.2.1, bt273.2.2, a1))) else (if ((rd_T91 l0 a1).f0) = 2 then (if a4 = true then (spinetref04_End.j0 k a1 l2 a4 (decide (((rd_T91 l0 a1).f1) < a3)) ((rd_T91 l0 a1).f0) ((rd_T91 l0 a1).f1) ((rd_T91 l0 a1).f2)) else (spinetref04_End.j0 k a1 l2 a4 false ((rd_T91 l0 a1).f0) ((rd_T91 l0 a1).f1) ((rd_T91 l0 a1).f2))) else (if ((rd_T91 l0 a1).f0) = 15 then (spinetref04_End.j1 k l0 a1 l2 a3 a4 ((rd_T91 l0 a1).f0) (((rd_T91 l0 a1).f0) == 15) ((rd_T91 l0 a1).f0) ((rd_T91 l0 a1).f1) ((rd_T91 l0 a1).f2)) else (spinetref04_End.j1 k l0 a1 l2 a3 a4 ((rd_T91 l0 a1).f0) (((rd_T91 l0 a1).f0) == 16) ((rd_T91 l0 a1).f0) ((rd_T91 l0 a1).f1) ((rd_T91 l0 a1).f2))))) else (none)) else (none)
end
set_option maxHeartbeats 8000000 in
set_option maxRecDepth 100000 in
theorem spinetref04_End.calls (k : Nat) : ∀ (A0 : Option Addr) (c0 : Nat) (l0 : List (S91)) (a1 : Int) (A2 : Option Addr) (c2 : Nat) (l2 : List Int) (a3 : Int) (a4 : Bool) (r1 : Int) (r2 : Int) (r3 : Int) (r4 : Int) (w : World) (hr0 : Kd.C k91 w A0 l0.length l0) (hc0 : l0.length ≤ c0) (hr2 : Kd.C (Kd.int .i64) w A2 l2.length l2) (hc2 : l2.length ≤ c2) (h : spinetref04_End.f k l0 a1 l2 a3 a4 = some (r1, r2, r3, r4)),
    Calls Tryz.prog 88 #[.slice A0 l0.length c0, .int .i64 a1, .slice A2 l2.length c2, .int .i64 a3, .bool a4] w fun e w' => e = .returned (.tuple #[.agg #[.int .i64 r1, .int .i64 r2, .int .i64 r3], .int .i64 r4]) ∧ Below w.heap.size w w' := by
  induction k using Nat.strongRecOn with
  | _ k ih =>
  intro A0 c0 l0 a1 A2 c2 l2 a3 a4 r1 r2 r3 r4 w hr0 hc0 hr2 hc2 h
  cases k with
  | zero => exact absurd h (by simp [spinetref04_End.f])
  | succ k =>
  simp only [spinetref04_End.f] at h
  have hu144 := Tryz.underlying144
  have hu91 := Tryz.underlying91
  have hu35 := Tryz.underlying35
  have HR0 := Aside0.mk hr0
  have HC0 := Aside0.mk hc0
  clear hr0 hc0
  have HR2 := Aside0.mk hr2
  have HC2 := Aside0.mk hc2
  clear hr2 hc2
  have HB := Aside0.mk (Below.refl w.heap.size w)
  have H : (if 0 ≤ a1 then (if a1 < (l0.length : Int) then (if ((rd_T91 l0 a1).f0) = 1 then ((spinetref04_whole.f ((rd_T91 l0 a1).f1)).bind fun bt273 => (some (bt273.1, bt273.2.1, bt273.2.2, a1))) else (if ((rd_T91 l0 a1).f0) = 2 then (if a4 = true then (spinetref04_End.j0 k a1 l2 a4 (decide (((rd_T91 l0 a1).f1) < a3)) ((rd_T91 l0 a1).f0) ((rd_T91 l0 a1).f1) ((rd_T91 l0 a1).f2)) else (spinetref04_End.j0 k a1 l2 a4 false ((rd_T91 l0 a1).f0) ((rd_T91 l0 a1).f1) ((rd_T91 l0 a1).f2))) else (if ((rd_T91 l0 a1).f0) = 15 then (spinetref04_End.j1 k l0 a1 l2 a3 a4 ((rd_T91 l0 a1).f0) (((rd_T91 l0 a1).f0) == 15) ((rd_T91 l0 a1).f0) ((rd_T91 l0 a1).f1) ((rd_T91 l0 a1).f2)) else (spinetref04_End.j1 k l0 a1 l2 a3 a4 ((rd_T91 l0 a1).f0) (((rd_T91 l0 a1).f0) == 16) ((rd_T91 l0 a1).f0) ((rd_T91 l0 a1).f1) ((rd_T91 l0 a1).f2))))) else (none)) else (none)) = some (r1, r2, r3, r4) := h
  clear h
  by_cases c6 : 0 ≤ a1
  · rw [if_pos c6] at H
    have c6b0 : decide (0 ≤ a1) = true := decide_eq_true c6
    clear c6
    by_cases c7 : a1 < (l0.length : Int)
    · rw [if_pos c7] at H
      have c7b0 : decide (a1 < (l0.length : Int)) = true := decide_eq_true c7
      clear c7
      by_cases c8 : ((rd_T91 l0 a1).f0) = 1
      · rw [if_pos c8] at H
        have c8b0 : (((rd_T91 l0 a1).f0) == 1) = true := beq_iff_eq.mpr c8
        have c8b1 : (((rd_T91 l0 a1).f0) != 1) = false := bne_eq_false_iff_eq.mpr c8
        clear c8
        replace H := Option.bind_eq_some_iff.mp H
        obtain ⟨⟨t273, t274, t275⟩, A90, H⟩ := H
        replace H : (some (t273, t274, t275, a1)) = some (r1, r2, r3, r4) := H
        have A9 := Aside0.mk A90
        clear A90
        simp only [Option.some.injEq, Prod.mk.injEq] at H
        obtain ⟨rfl, rfl, rfl, rfl⟩ := H
        go_enter Tryz.func88, Tryz.ntmps88
        go_wp2_with (first | ((with_reducible refine gate_dst (N := 10) rfl ?_); (try (refine gate_guard (by rfl) ?_; dsimp only)); refine box_event ?hg (N := 10) ?hd (cs := #[.int .i64 0, .int .i64 0, .int .i64 0]) (t := 144) ?hr ?_; (case hd => rfl); (case hg => rfl); (case hr => first | (go_simp; done) | (go_simp; rfl)); intro gb270 hg w10 hbox hb; have n0_ := Aside0.mk (below_step (by repeat (first | (with_reducible first | exact HB.out | apply below_alloc | apply pw_below_drewN | apply below_drew1) | exact HB.out)) hb); have n1_ := Aside0.mk (hbox); have n2_ := Aside0.mk ((by rw [hg]; exact (below_size (by repeat (first | (with_reducible first | exact HB.out | apply below_alloc | apply pw_below_drewN | apply below_drew1) | exact HB.out))) : w.heap.size ≤ gb270)); have n3_ := Aside0.mk ((by rw [hg]; exact (below_size (by repeat (first | (with_reducible first | exact HB.out | apply below_alloc | apply pw_below_drewN | apply below_drew1) | exact HB.out))) : w.heap.size ≤ gb270)); clear HB; have HB := n0_; have BK270 := n1_; have GW270 := n2_; have GE270 := n3_; clear n0_ n1_ n2_ n3_; clear hb hbox hg; have p271 : 0 ≤ (a1 : Int) := of_decide_eq_true (by first | (with_reducible assumption) | assumption); have q271 : a1 < (l0.length : Int) := of_decide_eq_true (by first | (with_reducible assumption) | assumption); obtain ⟨ad271, e271, hx271_0, hx271_1, hx271_2⟩ := at_T91 HR0.out a1 p271 q271; cases e271; replace hx271_0 := (HB.out.cell (World.block_lt_of_cell? w _ hx271_0)).trans hx271_0; replace hx271_1 := (HB.out.cell (World.block_lt_of_cell? w _ hx271_1)).trans hx271_1; replace hx271_2 := (HB.out.cell (World.block_lt_of_cell? w _ hx271_2)).trans hx271_2; replace p271 := eq_true p271; replace q271 := eq_true q271) | ((with_reducible refine gate_dst (N := 12) rfl ?_); (try (refine gate_guard (by rfl) ?_; dsimp only)); refine box_event ?hg (N := 12) ?hd (cs := #[.int .i64 0, .int .i64 0, .int .i64 0]) (t := 91) ?hr ?_; (case hd => rfl); (case hg => rfl); (case hr => first | (go_simp; done) | (go_simp; rfl)); intro gb272 hg w11 hbox hb; have n0_ := Aside0.mk (blk_below (g := gb270) (o := .cells #[.int .i64 0, .int .i64 0, .int .i64 0] 144 (0, 0)) (by (with_reducible repeat (first | refine blk_drewN ?_ _ | refine blk_drew ?_ | refine blk_alloc ?_ _)); exact BK270.out) hb); have n1_ := Aside0.mk (below_step (by repeat (first | (with_reducible first | exact HB.out | apply below_alloc | apply pw_below_drewN | apply below_drew1 | refine below_set ?_ GE270.out) | exact HB.out)) hb); have n2_ := Aside0.mk (hbox); have n3_ := Aside0.mk ((by rw [hg]; exact (below_size (by repeat (first | (with_reducible first | exact HB.out | apply below_alloc | apply pw_below_drewN | apply below_drew1 | refine below_set ?_ GE270.out) | exact HB.out))) : w.heap.size ≤ gb272)); have n4_ := Aside0.mk ((by rw [hg]; exact (below_size (by repeat (first | (with_reducible first | exact HB.out | apply below_alloc | apply pw_below_drewN | apply below_drew1 | refine below_set ?_ GE270.out) | exact HB.out))) : w.heap.size ≤ gb272)); have n5_ := Aside0.mk ((by rw [hg]; exact Nat.ne_of_lt (blk_lt (g := gb270) (o := .cells #[.int .i64 0, .int .i64 0, .int .i64 0] 144 (0, 0)) (by (with_reducible repeat (first | refine blk_drewN ?_ _ | refine blk_drew ?_ | refine blk_alloc ?_ _)); exact BK270.out)) : gb270 ≠ gb272)); have n6_ := Aside0.mk ((by rw [hg]; exact Nat.ne_of_gt (blk_lt (g := gb270) (o := .cells #[.int .i64 0, .int .i64 0, .int .i64 0] 144 (0, 0)) (by (with_reducible repeat (first | refine blk_drewN ?_ _ | refine blk_drew ?_ | refine blk_alloc ?_ _)); exact BK270.out)) : gb272 ≠ gb270)); clear BK270; clear HB; have BK270 := n0_; have HB := n1_; have BK272 := n2_; have GW272 := n3_; have GE272 := n4_; have NB270_272 := n5_; have NB272_270 := n6_; clear n0_ n1_ n2_ n3_ n4_ n5_ n6_; clear hb hbox hg; have hnb12 := NB272_270.out; have hnc12 := NB270_272.out; have hcz13_0 : w11.cell? ⟨gb272, 0, none⟩ = some (.int .i64 0) := (blk_cell BK272.out 0).trans rfl; have hcz13_1 : w11.cell? ⟨gb272, 1, none⟩ = some (.int .i64 0) := (blk_cell BK272.out 1).trans rfl; have hcz13_2 : w11.cell? ⟨gb272, 2, none⟩ = some (.int .i64 0) := (blk_cell BK272.out 2).trans rfl; have hfz13_0 := blk_frozen BK272.out 0; have hfz13_1 := blk_frozen BK272.out 1; have hfz13_2 := blk_frozen BK272.out 2) | ((with_reducible refine gate_callee (f := 123) rfl ?_); refine goesL_ (some 30) rfl rfl Tryz.func123 (by kernel_rfl) rfl #[.int .i64 ((rd_T91 l0 a1).f1)] rfl (by (try simp only [List.map_toArray, List.map_cons, List.map_nil]); first | done | rfl | (simp only [List.length_drop, List.length_take]; rfl)) ?_; (with_reducible refine (spinetref04_whole.calls ((rd_T91 l0 a1).f1) t273 t274 t275 _ A9.out).mono ?_); rintro e w14 ⟨rfl, hb⟩; refine ⟨_, rfl, ?_⟩; have n0_ := Aside0.mk (blk_below (g := gb270) (o := .cells #[.int .i64 0, .int .i64 0, .int .i64 0] 144 (0, 0)) (by (with_reducible repeat (first | refine blk_drewN ?_ _ | refine blk_drew ?_ | refine blk_alloc ?_ _)); refine blk_far ?_ NB270_272.out _; (with_reducible repeat (first | refine blk_drewN ?_ _ | refine blk_drew ?_ | refine blk_alloc ?_ _)); refine blk_far ?_ NB270_272.out _; (with_reducible repeat (first | refine blk_drewN ?_ _ | refine blk_drew ?_ | refine blk_alloc ?_ _)); refine blk_far ?_ NB270_272.out _; (with_reducible repeat (first | refine blk_drewN ?_ _ | refine blk_drew ?_ | refine blk_alloc ?_ _)); exact BK270.out) hb); have n1_ := Aside0.mk (blk_below (g := gb272) (o := .cells #[.int .i64 ((rd_T91 l0 a1).f0), .int .i64 ((rd_T91 l0 a1).f1), .int .i64 ((rd_T91 l0 a1).f2)] 91 (0, 0)) (by (with_reducible repeat (first | refine blk_drewN ?_ _ | refine blk_drew ?_ | refine blk_alloc ?_ _)); refine blk_put (cs := #[.int .i64 ((rd_T91 l0 a1).f0), .int .i64 ((rd_T91 l0 a1).f1), .int .i64 0]) ?_ 2 _ rfl; (with_reducible repeat (first | refine blk_drewN ?_ _ | refine blk_drew ?_ | refine blk_alloc ?_ _)); refine blk_put (cs := #[.int .i64 ((rd_T91 l0 a1).f0), .int .i64 0, .int .i64 0]) ?_ 1 _ rfl; (with_reducible repeat (first | refine blk_drewN ?_ _ | refine blk_drew ?_ | refine blk_alloc ?_ _)); refine blk_put (cs := #[.int .i64 0, .int .i64 0, .int .i64 0]) ?_ 0 _ rfl; (with_reducible repeat (first | refine blk_drewN ?_ _ | refine blk_drew ?_ | refine blk_alloc ?_ _)); exact BK272.out) hb); have n2_ := Aside0.mk (below_step (by repeat (first | (with_reducible first | exact HB.out | apply below_alloc | apply pw_below_drewN | apply below_drew1 | refine below_set ?_ GE270.out | refine below_set ?_ GE272.out) | exact HB.out)) hb); clear BK270; clear BK272; clear HB; have BK270 := n0_; have BK272 := n1_; have HB := n2_; clear n0_ n1_ n2_; (try clear hb); (try clear hb2); (try clear hk); (try clear hi); have hcz15_0 : w14.cell? ⟨gb270, 0, none⟩ = some (.int .i64 0) := (blk_cell BK270.out 0).trans rfl; have hcz15_1 : w14.cell? ⟨gb270, 1, none⟩ = some (.int .i64 0) := (blk_cell BK270.out 1).trans rfl; have hcz15_2 : w14.cell? ⟨gb270, 2, none⟩ = some (.int .i64 0) := (blk_cell BK270.out 2).trans rfl; have hfz15_0 := blk_frozen BK270.out 0; have hfz15_1 := blk_frozen BK270.out 1; have hfz15_2 := blk_frozen BK270.out 2))
        refine bodyPost_ret (results_ct rfl _ _ gb270 144 #[.int .i64 t273, .int .i64 t274, .int .i64 t275] (0, 0) _ rfl (by (with_reducible repeat (first | refine blk_drewN ?_ _ | refine blk_drew ?_ | refine blk_alloc ?_ _)); refine blk_put (cs := #[.int .i64 t273, .int .i64 t274, .int .i64 0]) ?_ 2 _ rfl; (with_reducible repeat (first | refine blk_drewN ?_ _ | refine blk_drew ?_ | refine blk_alloc ?_ _)); refine blk_put (cs := #[.int .i64 t273, .int .i64 0, .int .i64 0]) ?_ 1 _ rfl; (with_reducible repeat (first | refine blk_drewN ?_ _ | refine blk_drew ?_ | refine blk_alloc ?_ _)); refine blk_put (cs := #[.int .i64 0, .int .i64 0, .int .i64 0]) ?_ 0 _ rfl; (with_reducible repeat (first | refine blk_drewN ?_ _ | refine blk_drew ?_ | refine blk_alloc ?_ _)); exact BK270.out) Tryz.underlying144 rfl (by kernel_rfl)) rfl ?_
        exact ⟨by first | rfl | (simp [errW_none, errW_some] <;> rfl) | (simp [*, errW_none, errW_some] <;> rfl), by repeat (first | (with_reducible first | exact HB.out | apply below_alloc | apply pw_below_drewN | apply below_drew1 | refine below_set ?_ GE270.out | refine below_set ?_ GE272.out) | exact HB.out)⟩
      · rw [if_neg c8] at H
        have c8b0 : (((rd_T91 l0 a1).f0) == 1) = false := beq_eq_false_iff_ne.mpr c8
        have c8b1 : (((rd_T91 l0 a1).f0) != 1) = true := bne_iff_ne.mpr c8
        by_cases c16 : ((rd_T91 l0 a1).f0) = 2
        · rw [if_pos c16] at H
          have c16b0 : (((rd_T91 l0 a1).f0) == 2) = true := beq_iff_eq.mpr c16
          have c16b1 : (((rd_T91 l0 a1).f0) != 2) = false := bne_eq_false_iff_eq.mpr c16
          clear c16
          have HC17 := Aside0.mk H
          clear H
          go_enter Tryz.func88, Tryz.ntmps88
          go_upto_region 6 with (first | ((with_reducible refine gate_dst (N := 10) rfl ?_); (try (refine gate_guard (by rfl) ?_; dsimp only)); refine box_event ?hg (N := 10) ?hd (cs := #[.int .i64 0, .int .i64 0, .int .i64 0]) (t := 144) ?hr ?_; (case hd => rfl); (case hg => rfl); (case hr => first | (go_simp; done) | (go_simp; rfl)); intro gb270 hg w18 hbox hb; have n0_ := Aside0.mk (below_step (by repeat (first | (with_reducible first | exact HB.out | apply below_alloc | apply pw_below_drewN | apply below_drew1) | exact HB.out)) hb); have n1_ := Aside0.mk (hbox); have n2_ := Aside0.mk ((by rw [hg]; exact (below_size (by repeat (first | (with_reducible first | exact HB.out | apply below_alloc | apply pw_below_drewN | apply below_drew1) | exact HB.out))) : w.heap.size ≤ gb270)); have n3_ := Aside0.mk ((by rw [hg]; exact (below_size (by repeat (first | (with_reducible first | exact HB.out | apply below_alloc | apply pw_below_drewN | apply below_drew1) | exact HB.out))) : w.heap.size ≤ gb270)); clear HB; have HB := n0_; have BK270 := n1_; have GW270 := n2_; have GE270 := n3_; clear n0_ n1_ n2_ n3_; clear hb hbox hg; have p271 : 0 ≤ (a1 : Int) := of_decide_eq_true (by first | (with_reducible assumption) | assumption); have q271 : a1 < (l0.length : Int) := of_decide_eq_true (by first | (with_reducible assumption) | assumption); obtain ⟨ad271, e271, hx271_0, hx271_1, hx271_2⟩ := at_T91 HR0.out a1 p271 q271; cases e271; replace hx271_0 := (HB.out.cell (World.block_lt_of_cell? w _ hx271_0)).trans hx271_0; replace hx271_1 := (HB.out.cell (World.block_lt_of_cell? w _ hx271_1)).trans hx271_1; replace hx271_2 := (HB.out.cell (World.block_lt_of_cell? w _ hx271_2)).trans hx271_2; replace p271 := eq_true p271; replace q271 := eq_true q271) | ((with_reducible refine gate_dst (N := 12) rfl ?_); (try (refine gate_guard (by rfl) ?_; dsimp only)); refine box_event ?hg (N := 12) ?hd (cs := #[.int .i64 0, .int .i64 0, .int .i64 0]) (t := 91) ?hr ?_; (case hd => rfl); (case hg => rfl); (case hr => first | (go_simp; done) | (go_simp; rfl)); intro gb272 hg w19 hbox hb; have n0_ := Aside0.mk (blk_below (g := gb270) (o := .cells #[.int .i64 0, .int .i64 0, .int .i64 0] 144 (0, 0)) (by (with_reducible repeat (first | refine blk_drewN ?_ _ | refine blk_drew ?_ | refine blk_alloc ?_ _)); exact BK270.out) hb); have n1_ := Aside0.mk (below_step (by repeat (first | (with_reducible first | exact HB.out | apply below_alloc | apply pw_below_drewN | apply below_drew1 | refine below_set ?_ GE270.out) | exact HB.out)) hb); have n2_ := Aside0.mk (hbox); have n3_ := Aside0.mk ((by rw [hg]; exact (below_size (by repeat (first | (with_reducible first | exact HB.out | apply below_alloc | apply pw_below_drewN | apply below_drew1 | refine below_set ?_ GE270.out) | exact HB.out))) : w.heap.size ≤ gb272)); have n4_ := Aside0.mk ((by rw [hg]; exact (below_size (by repeat (first | (with_reducible first | exact HB.out | apply below_alloc | apply pw_below_drewN | apply below_drew1 | refine below_set ?_ GE270.out) | exact HB.out))) : w.heap.size ≤ gb272)); have n5_ := Aside0.mk ((by rw [hg]; exact Nat.ne_of_lt (blk_lt (g := gb270) (o := .cells #[.int .i64 0, .int .i64 0, .int .i64 0] 144 (0, 0)) (by (with_reducible repeat (first | refine blk_drewN ?_ _ | refine blk_drew ?_ | refine blk_alloc ?_ _)); exact BK270.out)) : gb270 ≠ gb272)); have n6_ := Aside0.mk ((by rw [hg]; exact Nat.ne_of_gt (blk_lt (g := gb270) (o := .cells #[.int .i64 0, .int .i64 0, .int .i64 0] 144 (0, 0)) (by (with_reducible repeat (first | refine blk_drewN ?_ _ | refine blk_drew ?_ | refine blk_alloc ?_ _)); exact BK270.out)) : gb272 ≠ gb270)); clear BK270; clear HB; have BK270 := n0_; have HB := n1_; have BK272 := n2_; have GW272 := n3_; have GE272 := n4_; have NB270_272 := n5_; have NB272_270 := n6_; clear n0_ n1_ n2_ n3_ n4_ n5_ n6_; clear hb hbox hg; have hnb20 := NB272_270.out; have hnc20 := NB270_272.out; have hcz21_0 : w19.cell? ⟨gb272, 0, none⟩ = some (.int .i64 0) := (blk_cell BK272.out 0).trans rfl; have hcz21_1 : w19.cell? ⟨gb272, 1, none⟩ = some (.int .i64 0) := (blk_cell BK272.out 1).trans rfl; have hcz21_2 : w19.cell? ⟨gb272, 2, none⟩ = some (.int .i64 0) := (blk_cell BK272.out 2).trans rfl; have hfz21_0 := blk_frozen BK272.out 0; have hfz21_1 := blk_frozen BK272.out 1; have hfz21_2 := blk_frozen BK272.out 2))
          (try simp only [Act.put, List.setIfInBounds_toArray, List.set_cons_zero, List.set_cons_succ])
          go_cut [40] (fun v40 wc => ∃ (kq : Nat) (x40_16 : Bool), v40 = .bool x40_16 ∧ Aside0 (spinetref04_End.j0 kq a1 l2 a4 x40_16 ((rd_T91 l0 a1).f0) ((rd_T91 l0 a1).f1) ((rd_T91 l0 a1).f2) = some (r1, r2, r3, r4)) ∧ Aside0 (kq ≤ k) ∧ Aside0 (wc.heap[gb270]? = some (.cells #[.int .i64 0, .int .i64 0, .int .i64 0] 144 (0, 0))) ∧ Aside0 (wc.heap[gb272]? = some (.cells #[.int .i64 ((rd_T91 l0 a1).f0), .int .i64 ((rd_T91 l0 a1).f1), .int .i64 ((rd_T91 l0 a1).f2)] 91 (0, 0))) ∧ Aside0 (Below w.heap.size w wc))
          case first =>
            have H := HC17.out
            clear HC17
            by_cases c22 : a4 = true
            · subst c22
              have H1 : (spinetref04_End.j0 k a1 l2 true (decide (((rd_T91 l0 a1).f1) < a3)) ((rd_T91 l0 a1).f0) ((rd_T91 l0 a1).f1) ((rd_T91 l0 a1).f2)) = some (r1, r2, r3, r4) := by rw [if_pos rfl] at H; exact H
              clear H
              have H := H1
              clear H1
              have H' := Aside0.mk H
              clear H
              have hnb23 := NB272_270.out
              have hnc23 := NB270_272.out
              have hcz24_0 : w19.cell? ⟨gb272, 0, none⟩ = some (.int .i64 0) := (blk_cell BK272.out 0).trans rfl
              have hcz24_1 : w19.cell? ⟨gb272, 1, none⟩ = some (.int .i64 0) := (blk_cell BK272.out 1).trans rfl
              have hcz24_2 : w19.cell? ⟨gb272, 2, none⟩ = some (.int .i64 0) := (blk_cell BK272.out 2).trans rfl
              have hfz24_0 := blk_frozen BK272.out 0
              have hfz24_1 := blk_frozen BK272.out 1
              have hfz24_2 := blk_frozen BK272.out 2
              go_wp2
              go_meet
              case rel => exact ⟨_, (decide (((rd_T91 l0 a1).f1) < a3)), (by first | rfl | (simp; done) | (simp [*]; done)), H', ⟨by first | omega | exact Nat.le_refl _⟩, ⟨by (with_reducible repeat (first | refine blk_drewN ?_ _ | refine blk_drew ?_ | refine blk_alloc ?_ _)); refine blk_far ?_ NB270_272.out _; (with_reducible repeat (first | refine blk_drewN ?_ _ | refine blk_drew ?_ | refine blk_alloc ?_ _)); refine blk_far ?_ NB270_272.out _; (with_reducible repeat (first | refine blk_drewN ?_ _ | refine blk_drew ?_ | refine blk_alloc ?_ _)); refine blk_far ?_ NB270_272.out _; (with_reducible repeat (first | refine blk_drewN ?_ _ | refine blk_drew ?_ | refine blk_alloc ?_ _)); exact BK270.out⟩, ⟨by (with_reducible repeat (first | refine blk_drewN ?_ _ | refine blk_drew ?_ | refine blk_alloc ?_ _)); refine blk_put (cs := #[.int .i64 ((rd_T91 l0 a1).f0), .int .i64 ((rd_T91 l0 a1).f1), .int .i64 0]) ?_ 2 _ rfl; (with_reducible repeat (first | refine blk_drewN ?_ _ | refine blk_drew ?_ | refine blk_alloc ?_ _)); refine blk_put (cs := #[.int .i64 ((rd_T91 l0 a1).f0), .int .i64 0, .int .i64 0]) ?_ 1 _ rfl; (with_reducible repeat (first | refine blk_drewN ?_ _ | refine blk_drew ?_ | refine blk_alloc ?_ _)); refine blk_put (cs := #[.int .i64 0, .int .i64 0, .int .i64 0]) ?_ 0 _ rfl; (with_reducible repeat (first | refine blk_drewN ?_ _ | refine blk_drew ?_ | refine blk_alloc ?_ _)); exact BK272.out⟩, ⟨by repeat (first | (with_reducible first | exact HB.out | apply below_alloc | apply pw_below_drewN | apply below_drew1 | refine below_set ?_ GE270.out | refine below_set ?_ GE272.out) | exact HB.out)⟩⟩
            · replace c22 := Bool.eq_false_iff.mpr c22
              subst c22
              have H1 : (spinetref04_End.j0 k a1 l2 false false ((rd_T91 l0 a1).f0) ((rd_T91 l0 a1).f1) ((rd_T91 l0 a1).f2)) = some (r1, r2, r3, r4) := by rw [if_neg (show ¬ (false = true) by decide)] at H; exact H
              clear H
              have H := H1
              clear H1
              have H' := Aside0.mk H
              clear H
              go_wp2
              go_meet
              case rel => exact ⟨_, (false), (by first | rfl | (simp; done) | (simp [*]; done)), H', ⟨by first | omega | exact Nat.le_refl _⟩, ⟨by (with_reducible repeat (first | refine blk_drewN ?_ _ | refine blk_drew ?_ | refine blk_alloc ?_ _)); refine blk_far ?_ NB270_272.out _; (with_reducible repeat (first | refine blk_drewN ?_ _ | refine blk_drew ?_ | refine blk_alloc ?_ _)); refine blk_far ?_ NB270_272.out _; (with_reducible repeat (first | refine blk_drewN ?_ _ | refine blk_drew ?_ | refine blk_alloc ?_ _)); refine blk_far ?_ NB270_272.out _; (with_reducible repeat (first | refine blk_drewN ?_ _ | refine blk_drew ?_ | refine blk_alloc ?_ _)); exact BK270.out⟩, ⟨by (with_reducible repeat (first | refine blk_drewN ?_ _ | refine blk_drew ?_ | refine blk_alloc ?_ _)); refine blk_put (cs := #[.int .i64 ((rd_T91 l0 a1).f0), .int .i64 ((rd_T91 l0 a1).f1), .int .i64 0]) ?_ 2 _ rfl; (with_reducible repeat (first | refine blk_drewN ?_ _ | refine blk_drew ?_ | refine blk_alloc ?_ _)); refine blk_put (cs := #[.int .i64 ((rd_T91 l0 a1).f0), .int .i64 0, .int .i64 0]) ?_ 1 _ rfl; (with_reducible repeat (first | refine blk_drewN ?_ _ | refine blk_drew ?_ | refine blk_alloc ?_ _)); refine blk_put (cs := #[.int .i64 0, .int .i64 0, .int .i64 0]) ?_ 0 _ rfl; (with_reducible repeat (first | refine blk_drewN ?_ _ | refine blk_drew ?_ | refine blk_alloc ?_ _)); exact BK272.out⟩, ⟨by repeat (first | (with_reducible first | exact HB.out | apply below_alloc | apply pw_below_drewN | apply below_drew1 | refine below_set ?_ GE270.out | refine below_set ?_ GE272.out) | exact HB.out)⟩⟩
          case rest =>
            clear HC17
            try clear c1
            try clear c2
            try clear p2
            try clear q2
            try clear hx2
            try clear c6
            try clear c6b0
            try clear c7
            try clear c7b0
            try clear c8
            try clear c8b0
            try clear c8b1
            try clear c12
            try clear c16
            try clear c16b0
            try clear c16b1
            try clear c20
            try clear c22
            try clear c23
            try clear hcz13_0
            try clear hcz13_1
            try clear hcz13_2
            try clear hcz15_0
            try clear hcz15_1
            try clear hcz15_2
            try clear hcz21_0
            try clear hcz21_1
            try clear hcz21_2
            try clear hcz24_0
            try clear hcz24_1
            try clear hcz24_2
            try clear hfz13_0
            try clear hfz13_1
            try clear hfz13_2
            try clear hfz15_0
            try clear hfz15_1
            try clear hfz15_2
            try clear hfz21_0
            try clear hfz21_1
            try clear hfz21_2
            try clear hfz24_0
            try clear hfz24_1
            try clear hfz24_2
            try clear hx271_0
            try clear hx271_1
            try clear hx271_2
            try clear p271
            try clear q271
            obtain ⟨kq, x40_16, rfl, HA, HJ16, BK270, BK272, HB⟩ := hcut
            cases kq with
            | zero => exact absurd HA.out (by simp [spinetref04_End.j0])
            | succ kj16 =>
              have H := HA.out
              clear HA
              simp only [spinetref04_End.j0] at H
              by_cases c25 : x40_16 = true
              · subst c25
                have H1 : ((spinetref04_whole.f 0).bind fun bt276 => (some (bt276.1, bt276.2.1, bt276.2.2, a1))) = some (r1, r2, r3, r4) := by rw [if_pos rfl] at H; exact H
                clear H
                have H := H1
                clear H1
                replace H := Option.bind_eq_some_iff.mp H
                obtain ⟨⟨t276, t277, t278⟩, A260, H⟩ := H
                replace H : (some (t276, t277, t278, a1)) = some (r1, r2, r3, r4) := H
                have A26 := Aside0.mk A260
                clear A260
                simp only [Option.some.injEq, Prod.mk.injEq] at H
                obtain ⟨rfl, rfl, rfl, rfl⟩ := H
                go_wp2_with (first | ((with_reducible refine gate_callee (f := 123) rfl ?_); refine goesL_ (some 41) rfl rfl Tryz.func123 (by kernel_rfl) rfl #[.int .i64 0] rfl (by (try simp only [List.map_toArray, List.map_cons, List.map_nil]); first | done | rfl | (simp only [List.length_drop, List.length_take]; rfl)) ?_; (with_reducible refine (spinetref04_whole.calls 0 t276 t277 t278 _ A26.out).mono ?_); rintro e w27 ⟨rfl, hb⟩; refine ⟨_, rfl, ?_⟩; have n0_ := Aside0.mk (blk_below (g := gb270) (o := .cells #[.int .i64 0, .int .i64 0, .int .i64 0] 144 (0, 0)) (by (with_reducible repeat (first | refine blk_drewN ?_ _ | refine blk_drew ?_ | refine blk_alloc ?_ _)); exact BK270.out) hb); have n1_ := Aside0.mk (blk_below (g := gb272) (o := .cells #[.int .i64 ((rd_T91 l0 a1).f0), .int .i64 ((rd_T91 l0 a1).f1), .int .i64 ((rd_T91 l0 a1).f2)] 91 (0, 0)) (by (with_reducible repeat (first | refine blk_drewN ?_ _ | refine blk_drew ?_ | refine blk_alloc ?_ _)); exact BK272.out) hb); have n2_ := Aside0.mk (below_step (by repeat (first | (with_reducible first | exact HB.out | apply below_alloc | apply pw_below_drewN | apply below_drew1 | refine below_set ?_ GE270.out | refine below_set ?_ GE272.out) | exact HB.out)) hb); clear BK270; clear BK272; clear HB; have BK270 := n0_; have BK272 := n1_; have HB := n2_; clear n0_ n1_ n2_; (try clear hb); (try clear hb2); (try clear hk); (try clear hi); have hnb28 := NB270_272.out; have hnc28 := NB272_270.out; have hcz29_0 : w27.cell? ⟨gb270, 0, none⟩ = some (.int .i64 0) := (blk_cell BK270.out 0).trans rfl; have hcz29_1 : w27.cell? ⟨gb270, 1, none⟩ = some (.int .i64 0) := (blk_cell BK270.out 1).trans rfl; have hcz29_2 : w27.cell? ⟨gb270, 2, none⟩ = some (.int .i64 0) := (blk_cell BK270.out 2).trans rfl; have hfz29_0 := blk_frozen BK270.out 0; have hfz29_1 := blk_frozen BK270.out 1; have hfz29_2 := blk_frozen BK270.out 2))
                refine bodyPost_ret (results_ct rfl _ _ gb270 144 #[.int .i64 t276, .int .i64 t277, .int .i64 t278] (0, 0) _ rfl (by (with_reducible repeat (first | refine blk_drewN ?_ _ | refine blk_drew ?_ | refine blk_alloc ?_ _)); refine blk_put (cs := #[.int .i64 t276, .int .i64 t277, .int .i64 0]) ?_ 2 _ rfl; (with_reducible repeat (first | refine blk_drewN ?_ _ | refine blk_drew ?_ | refine blk_alloc ?_ _)); refine blk_put (cs := #[.int .i64 t276, .int .i64 0, .int .i64 0]) ?_ 1 _ rfl; (with_reducible repeat (first | refine blk_drewN ?_ _ | refine blk_drew ?_ | refine blk_alloc ?_ _)); refine blk_put (cs := #[.int .i64 0, .int .i64 0, .int .i64 0]) ?_ 0 _ rfl; (with_reducible repeat (first | refine blk_drewN ?_ _ | refine blk_drew ?_ | refine blk_alloc ?_ _)); exact BK270.out) Tryz.underlying144 rfl (by kernel_rfl)) rfl ?_
                exact ⟨by first | rfl | (simp [errW_none, errW_some] <;> rfl) | (simp [*, errW_none, errW_some] <;> rfl), by repeat (first | (with_reducible first | exact HB.out | apply below_alloc | apply pw_below_drewN | apply below_drew1 | refine below_set ?_ GE270.out | refine below_set ?_ GE272.out) | exact HB.out)⟩
              · replace c25 := Bool.eq_false_iff.mpr c25
                subst c25
                have H1 : (if a4 = true then (some (0, 0, 4, a1)) else (if ((rd_T91 l0 a1).f1) < (l2.length : Int) then (if 0 ≤ ((rd_T91 l0 a1).f1) then ((spinetref04_whole.f (rd l2 ((rd_T91 l0 a1).f1))).bind fun bt280 => (some (bt280.1, bt280.2.1, bt280.2.2, a1))) else (none)) else (some (0, 0, 4, a1)))) = some (r1, r2, r3, r4) := by rw [if_neg (show ¬ (false = true) by decide)] at H; exact H
                clear H
                have H := H1
                clear H1
                by_cases c30 : a4 = true
                · subst c30
                  have H1 : (some (0, 0, 4, a1)) = some (r1, r2, r3, r4) := by rw [if_pos rfl] at H; exact H
                  clear H
                  have H := H1
                  clear H1
                  simp only [Option.some.injEq, Prod.mk.injEq] at H
                  obtain ⟨rfl, rfl, rfl, rfl⟩ := H
                  have hnb31 := NB270_272.out
                  have hnc31 := NB272_270.out
                  have hcz32_0 : wc.cell? ⟨gb270, 0, none⟩ = some (.int .i64 0) := (blk_cell BK270.out 0).trans rfl
                  have hcz32_1 : wc.cell? ⟨gb270, 1, none⟩ = some (.int .i64 0) := (blk_cell BK270.out 1).trans rfl
                  have hcz32_2 : wc.cell? ⟨gb270, 2, none⟩ = some (.int .i64 0) := (blk_cell BK270.out 2).trans rfl
                  have hfz32_0 := blk_frozen BK270.out 0
                  have hfz32_1 := blk_frozen BK270.out 1
                  have hfz32_2 := blk_frozen BK270.out 2
                  go_wp2
                  refine bodyPost_ret (results_ct rfl _ _ gb270 144 #[.int .i64 0, .int .i64 0, .int .i64 4] (0, 0) _ rfl (by (with_reducible repeat (first | refine blk_drewN ?_ _ | refine blk_drew ?_ | refine blk_alloc ?_ _)); refine blk_put (cs := #[.int .i64 0, .int .i64 0, .int .i64 0]) ?_ 2 _ rfl; (with_reducible repeat (first | refine blk_drewN ?_ _ | refine blk_drew ?_ | refine blk_alloc ?_ _)); refine blk_put (cs := #[.int .i64 0, .int .i64 0, .int .i64 0]) ?_ 1 _ rfl; (with_reducible repeat (first | refine blk_drewN ?_ _ | refine blk_drew ?_ | refine blk_alloc ?_ _)); refine blk_put (cs := #[.int .i64 0, .int .i64 0, .int .i64 0]) ?_ 0 _ rfl; (with_reducible repeat (first | refine blk_drewN ?_ _ | refine blk_drew ?_ | refine blk_alloc ?_ _)); exact BK270.out) Tryz.underlying144 rfl (by kernel_rfl)) rfl ?_
                  exact ⟨by first | rfl | (simp [errW_none, errW_some] <;> rfl) | (simp [*, errW_none, errW_some] <;> rfl), by repeat (first | (with_reducible first | exact HB.out | apply below_alloc | apply pw_below_drewN | apply below_drew1 | refine below_set ?_ GE270.out | refine below_set ?_ GE272.out) | exact HB.out)⟩
                · replace c30 := Bool.eq_false_iff.mpr c30
                  subst c30
                  have H1 : (if ((rd_T91 l0 a1).f1) < (l2.length : Int) then (if 0 ≤ ((rd_T91 l0 a1).f1) then ((spinetref04_whole.f (rd l2 ((rd_T91 l0 a1).f1))).bind fun bt280 => (some (bt280.1, bt280.2.1, bt280.2.2, a1))) else (none)) else (some (0, 0, 4, a1))) = some (r1, r2, r3, r4) := by rw [if_neg (show ¬ (false = true) by decide)] at H; exact H
                  clear H
                  have H := H1
                  clear H1
                  by_cases c33 : ((rd_T91 l0 a1).f1) < (l2.length : Int)
                  · rw [if_pos c33] at H
                    have c33b0 : decide (((rd_T91 l0 a1).f1) < (l2.length : Int)) = true := decide_eq_true c33
                    clear c33
                    by_cases c34 : 0 ≤ ((rd_T91 l0 a1).f1)
                    · rw [if_pos c34] at H
                      have c34b0 : decide (0 ≤ ((rd_T91 l0 a1).f1)) = true := decide_eq_true c34
                      clear c34
                      replace H := Option.bind_eq_some_iff.mp H
                      obtain ⟨⟨t280, t281, t282⟩, A350, H⟩ := H
                      replace H : (some (t280, t281, t282, a1)) = some (r1, r2, r3, r4) := H
                      have A35 := Aside0.mk A350
                      clear A350
                      simp only [Option.some.injEq, Prod.mk.injEq] at H
                      obtain ⟨rfl, rfl, rfl, rfl⟩ := H
                      have hnb36 := NB272_270.out
                      have hnc36 := NB270_272.out
                      have hcz37_0 : wc.cell? ⟨gb272, 0, none⟩ = some (.int .i64 ((rd_T91 l0 a1).f0)) := (blk_cell BK272.out 0).trans rfl
                      have hcz37_1 : wc.cell? ⟨gb272, 1, none⟩ = some (.int .i64 ((rd_T91 l0 a1).f1)) := (blk_cell BK272.out 1).trans rfl
                      have hcz37_2 : wc.cell? ⟨gb272, 2, none⟩ = some (.int .i64 ((rd_T91 l0 a1).f2)) := (blk_cell BK272.out 2).trans rfl
                      have hfz37_0 := blk_frozen BK272.out 0
                      have hfz37_1 := blk_frozen BK272.out 1
                      have hfz37_2 := blk_frozen BK272.out 2
                      have p279 : 0 ≤ (((rd_T91 l0 a1).f1) : Int) := of_decide_eq_true (by first | (with_reducible assumption) | assumption)
                      have q279 : ((rd_T91 l0 a1).f1) < (l2.length : Int) := of_decide_eq_true (by first | (with_reducible assumption) | assumption)
                      obtain ⟨ad279, e279, hx279_0⟩ := Kd.at_int HR2.out ((rd_T91 l0 a1).f1) p279 q279
                      cases e279
                      replace hx279_0 := (HB.out.cell (World.block_lt_of_cell? w _ hx279_0)).trans hx279_0
                      replace p279 := eq_true p279
                      replace q279 := eq_true q279
                      go_wp2_with (first | ((with_reducible refine gate_callee (f := 123) rfl ?_); refine goesL_ (some 57) rfl rfl Tryz.func123 (by kernel_rfl) rfl #[.int .i64 (rd l2 ((rd_T91 l0 a1).f1))] rfl (by (try simp only [List.map_toArray, List.map_cons, List.map_nil]); first | done | rfl | (simp only [List.length_drop, List.length_take]; rfl)) ?_; (with_reducible refine (spinetref04_whole.calls (rd l2 ((rd_T91 l0 a1).f1)) t280 t281 t282 _ A35.out).mono ?_); rintro e w38 ⟨rfl, hb⟩; refine ⟨_, rfl, ?_⟩; have n0_ := Aside0.mk (blk_below (g := gb270) (o := .cells #[.int .i64 0, .int .i64 0, .int .i64 0] 144 (0, 0)) (by (with_reducible repeat (first | refine blk_drewN ?_ _ | refine blk_drew ?_ | refine blk_alloc ?_ _)); exact BK270.out) hb); have n1_ := Aside0.mk (blk_below (g := gb272) (o := .cells #[.int .i64 ((rd_T91 l0 a1).f0), .int .i64 ((rd_T91 l0 a1).f1), .int .i64 ((rd_T91 l0 a1).f2)] 91 (0, 0)) (by (with_reducible repeat (first | refine blk_drewN ?_ _ | refine blk_drew ?_ | refine blk_alloc ?_ _)); exact BK272.out) hb); have n2_ := Aside0.mk (below_step (by repeat (first | (with_reducible first | exact HB.out | apply below_alloc | apply pw_below_drewN | apply below_drew1 | refine below_set ?_ GE270.out | refine below_set ?_ GE272.out) | exact HB.out)) hb); clear BK270; clear BK272; clear HB; have BK270 := n0_; have BK272 := n1_; have HB := n2_; clear n0_ n1_ n2_; (try clear hb); (try clear hb2); (try clear hk); (try clear hi); have hcz39_0 : w38.cell? ⟨gb270, 0, none⟩ = some (.int .i64 0) := (blk_cell BK270.out 0).trans rfl; have hcz39_1 : w38.cell? ⟨gb270, 1, none⟩ = some (.int .i64 0) := (blk_cell BK270.out 1).trans rfl; have hcz39_2 : w38.cell? ⟨gb270, 2, none⟩ = some (.int .i64 0) := (blk_cell BK270.out 2).trans rfl; have hfz39_0 := blk_frozen BK270.out 0; have hfz39_1 := blk_frozen BK270.out 1; have hfz39_2 := blk_frozen BK270.out 2))
                      refine bodyPost_ret (results_ct rfl _ _ gb270 144 #[.int .i64 t280, .int .i64 t281, .int .i64 t282] (0, 0) _ rfl (by (with_reducible repeat (first | refine blk_drewN ?_ _ | refine blk_drew ?_ | refine blk_alloc ?_ _)); refine blk_put (cs := #[.int .i64 t280, .int .i64 t281, .int .i64 0]) ?_ 2 _ rfl; (with_reducible repeat (first | refine blk_drewN ?_ _ | refine blk_drew ?_ | refine blk_alloc ?_ _)); refine blk_put (cs := #[.int .i64 t280, .int .i64 0, .int .i64 0]) ?_ 1 _ rfl; (with_reducible repeat (first | refine blk_drewN ?_ _ | refine blk_drew ?_ | refine blk_alloc ?_ _)); refine blk_put (cs := #[.int .i64 0, .int .i64 0, .int .i64 0]) ?_ 0 _ rfl; (with_reducible repeat (first | refine blk_drewN ?_ _ | refine blk_drew ?_ | refine blk_alloc ?_ _)); exact BK270.out) Tryz.underlying144 rfl (by kernel_rfl)) rfl ?_
                      exact ⟨by first | rfl | (simp [errW_none, errW_some] <;> rfl) | (simp [*, errW_none, errW_some] <;> rfl), by repeat (first | (with_reducible first | exact HB.out | apply below_alloc | apply pw_below_drewN | apply below_drew1 | refine below_set ?_ GE270.out | refine below_set ?_ GE272.out) | exact HB.out)⟩
                    · rw [if_neg c34] at H
                      exact absurd H (by simp)
                  · rw [if_neg c33] at H
                    have c33b0 : decide (((rd_T91 l0 a1).f1) < (l2.length : Int)) = false := decide_eq_false c33
                    clear c33
                    simp only [Option.some.injEq, Prod.mk.injEq] at H
                    obtain ⟨rfl, rfl, rfl, rfl⟩ := H
                    have hnb40 := NB272_270.out
                    have hnc40 := NB270_272.out
                    have hcz41_0 : wc.cell? ⟨gb272, 0, none⟩ = some (.int .i64 ((rd_T91 l0 a1).f0)) := (blk_cell BK272.out 0).trans rfl
                    have hcz41_1 : wc.cell? ⟨gb272, 1, none⟩ = some (.int .i64 ((rd_T91 l0 a1).f1)) := (blk_cell BK272.out 1).trans rfl
                    have hcz41_2 : wc.cell? ⟨gb272, 2, none⟩ = some (.int .i64 ((rd_T91 l0 a1).f2)) := (blk_cell BK272.out 2).trans rfl
                    have hfz41_0 := blk_frozen BK272.out 0
                    have hfz41_1 := blk_frozen BK272.out 1
                    have hfz41_2 := blk_frozen BK272.out 2
                    have hcz42_0 : wc.cell? ⟨gb270, 0, none⟩ = some (.int .i64 0) := (blk_cell BK270.out 0).trans rfl
                    have hcz42_1 : wc.cell? ⟨gb270, 1, none⟩ = some (.int .i64 0) := (blk_cell BK270.out 1).trans rfl
                    have hcz42_2 : wc.cell? ⟨gb270, 2, none⟩ = some (.int .i64 0) := (blk_cell BK270.out 2).trans rfl
                    have hfz42_0 := blk_frozen BK270.out 0
                    have hfz42_1 := blk_frozen BK270.out 1
                    have hfz42_2 := blk_frozen BK270.out 2
                    go_wp2
                    refine bodyPost_ret (results_ct rfl _ _ gb270 144 #[.int .i64 0, .int .i64 0, .int .i64 4] (0, 0) _ rfl (by (with_reducible repeat (first | refine blk_drewN ?_ _ | refine blk_drew ?_ | refine blk_alloc ?_ _)); refine blk_put (cs := #[.int .i64 0, .int .i64 0, .int .i64 0]) ?_ 2 _ rfl; (with_reducible repeat (first | refine blk_drewN ?_ _ | refine blk_drew ?_ | refine blk_alloc ?_ _)); refine blk_put (cs := #[.int .i64 0, .int .i64 0, .int .i64 0]) ?_ 1 _ rfl; (with_reducible repeat (first | refine blk_drewN ?_ _ | refine blk_drew ?_ | refine blk_alloc ?_ _)); refine blk_put (cs := #[.int .i64 0, .int .i64 0, .int .i64 0]) ?_ 0 _ rfl; (with_reducible repeat (first | refine blk_drewN ?_ _ | refine blk_drew ?_ | refine blk_alloc ?_ _)); exact BK270.out) Tryz.underlying144 rfl (by kernel_rfl)) rfl ?_
                    exact ⟨by first | rfl | (simp [errW_none, errW_some] <;> rfl) | (simp [*, errW_none, errW_some] <;> rfl), by repeat (first | (with_reducible first | exact HB.out | apply below_alloc | apply pw_below_drewN | apply below_drew1 | refine below_set ?_ GE270.out | refine below_set ?_ GE272.out) | exact HB.out)⟩
        · rw [if_neg c16] at H
          have c16b0 : (((rd_T91 l0 a1).f0) == 2) = false := beq_eq_false_iff_ne.mpr c16
          have c16b1 : (((rd_T91 l0 a1).f0) != 2) = true := bne_iff_ne.mpr c16
          have HC43 := Aside0.mk H
          clear H
          go_enter Tryz.func88, Tryz.ntmps88
          go_upto_if 61 with (first | ((with_reducible refine gate_dst (N := 10) rfl ?_); (try (refine gate_guard (by rfl) ?_; dsimp only)); refine box_event ?hg (N := 10) ?hd (cs := #[.int .i64 0, .int .i64 0, .int .i64 0]) (t := 144) ?hr ?_; (case hd => rfl); (case hg => rfl); (case hr => first | (go_simp; done) | (go_simp; rfl)); intro gb270 hg w44 hbox hb; have n0_ := Aside0.mk (below_step (by repeat (first | (with_reducible first | exact HB.out | apply below_alloc | apply pw_below_drewN | apply below_drew1) | exact HB.out)) hb); have n1_ := Aside0.mk (hbox); have n2_ := Aside0.mk ((by rw [hg]; exact (below_size (by repeat (first | (with_reducible first | exact HB.out | apply below_alloc | apply pw_below_drewN | apply below_drew1) | exact HB.out))) : w.heap.size ≤ gb270)); have n3_ := Aside0.mk ((by rw [hg]; exact (below_size (by repeat (first | (with_reducible first | exact HB.out | apply below_alloc | apply pw_below_drewN | apply below_drew1) | exact HB.out))) : w.heap.size ≤ gb270)); clear HB; have HB := n0_; have BK270 := n1_; have GW270 := n2_; have GE270 := n3_; clear n0_ n1_ n2_ n3_; clear hb hbox hg; have p271 : 0 ≤ (a1 : Int) := of_decide_eq_true (by first | (with_reducible assumption) | assumption); have q271 : a1 < (l0.length : Int) := of_decide_eq_true (by first | (with_reducible assumption) | assumption); obtain ⟨ad271, e271, hx271_0, hx271_1, hx271_2⟩ := at_T91 HR0.out a1 p271 q271; cases e271; replace hx271_0 := (HB.out.cell (World.block_lt_of_cell? w _ hx271_0)).trans hx271_0; replace hx271_1 := (HB.out.cell (World.block_lt_of_cell? w _ hx271_1)).trans hx271_1; replace hx271_2 := (HB.out.cell (World.block_lt_of_cell? w _ hx271_2)).trans hx271_2; replace p271 := eq_true p271; replace q271 := eq_true q271) | ((with_reducible refine gate_dst (N := 12) rfl ?_); (try (refine gate_guard (by rfl) ?_; dsimp only)); refine box_event ?hg (N := 12) ?hd (cs := #[.int .i64 0, .int .i64 0, .int .i64 0]) (t := 91) ?hr ?_; (case hd => rfl); (case hg => rfl); (case hr => first | (go_simp; done) | (go_simp; rfl)); intro gb272 hg w45 hbox hb; have n0_ := Aside0.mk (blk_below (g := gb270) (o := .cells #[.int .i64 0, .int .i64 0, .int .i64 0] 144 (0, 0)) (by (with_reducible repeat (first | refine blk_drewN ?_ _ | refine blk_drew ?_ | refine blk_alloc ?_ _)); exact BK270.out) hb); have n1_ := Aside0.mk (below_step (by repeat (first | (with_reducible first | exact HB.out | apply below_alloc | apply pw_below_drewN | apply below_drew1 | refine below_set ?_ GE270.out) | exact HB.out)) hb); have n2_ := Aside0.mk (hbox); have n3_ := Aside0.mk ((by rw [hg]; exact (below_size (by repeat (first | (with_reducible first | exact HB.out | apply below_alloc | apply pw_below_drewN | apply below_drew1 | refine below_set ?_ GE270.out) | exact HB.out))) : w.heap.size ≤ gb272)); have n4_ := Aside0.mk ((by rw [hg]; exact (below_size (by repeat (first | (with_reducible first | exact HB.out | apply below_alloc | apply pw_below_drewN | apply below_drew1 | refine below_set ?_ GE270.out) | exact HB.out))) : w.heap.size ≤ gb272)); have n5_ := Aside0.mk ((by rw [hg]; exact Nat.ne_of_lt (blk_lt (g := gb270) (o := .cells #[.int .i64 0, .int .i64 0, .int .i64 0] 144 (0, 0)) (by (with_reducible repeat (first | refine blk_drewN ?_ _ | refine blk_drew ?_ | refine blk_alloc ?_ _)); exact BK270.out)) : gb270 ≠ gb272)); have n6_ := Aside0.mk ((by rw [hg]; exact Nat.ne_of_gt (blk_lt (g := gb270) (o := .cells #[.int .i64 0, .int .i64 0, .int .i64 0] 144 (0, 0)) (by (with_reducible repeat (first | refine blk_drewN ?_ _ | refine blk_drew ?_ | refine blk_alloc ?_ _)); exact BK270.out)) : gb272 ≠ gb270)); clear BK270; clear HB; have BK270 := n0_; have HB := n1_; have BK272 := n2_; have GW272 := n3_; have GE272 := n4_; have NB270_272 := n5_; have NB272_270 := n6_; clear n0_ n1_ n2_ n3_ n4_ n5_ n6_; clear hb hbox hg; have hnb46 := NB272_270.out; have hnc46 := NB270_272.out; have hcz47_0 : w45.cell? ⟨gb272, 0, none⟩ = some (.int .i64 0) := (blk_cell BK272.out 0).trans rfl; have hcz47_1 : w45.cell? ⟨gb272, 1, none⟩ = some (.int .i64 0) := (blk_cell BK272.out 1).trans rfl; have hcz47_2 : w45.cell? ⟨gb272, 2, none⟩ = some (.int .i64 0) := (blk_cell BK272.out 2).trans rfl; have hfz47_0 := blk_frozen BK272.out 0; have hfz47_1 := blk_frozen BK272.out 1; have hfz47_2 := blk_frozen BK272.out 2))
          (try simp only [Act.put, List.setIfInBounds_toArray, List.set_cons_zero, List.set_cons_succ])
          go_cut [61] (fun v61 wc => ∃ (kq : Nat) (x61_42 : Bool), v61 = .bool x61_42 ∧ Aside0 (spinetref04_End.j1 kq l0 a1 l2 a3 a4 ((rd_T91 l0 a1).f0) x61_42 ((rd_T91 l0 a1).f0) ((rd_T91 l0 a1).f1) ((rd_T91 l0 a1).f2) = some (r1, r2, r3, r4)) ∧ Aside0 (kq ≤ k) ∧ Aside0 (wc.heap[gb270]? = some (.cells #[.int .i64 0, .int .i64 0, .int .i64 0] 144 (0, 0))) ∧ Aside0 (wc.heap[gb272]? = some (.cells #[.int .i64 ((rd_T91 l0 a1).f0), .int .i64 ((rd_T91 l0 a1).f1), .int .i64 ((rd_T91 l0 a1).f2)] 91 (0, 0))) ∧ Aside0 (Below w.heap.size w wc))
          case first =>
            have H := HC43.out
            clear HC43
            by_cases c48 : ((rd_T91 l0 a1).f0) = 15
            · rw [if_pos c48] at H
              have c48b0 : (((rd_T91 l0 a1).f0) == 15) = true := beq_iff_eq.mpr c48
              have c48b1 : (((rd_T91 l0 a1).f0) != 15) = false := bne_eq_false_iff_eq.mpr c48
              clear c48
              (first | rw [c48b0] | (simp only [i64_w, i32_w]; rw [c48b0]) | skip)
              have H' := Aside0.mk H
              clear H
              go_wp2
              go_meet
              case rel => exact ⟨_, ((((rd_T91 l0 a1).f0) == 15)), (by first | rfl | (simp; done) | (simp [*]; done)), H', ⟨by first | omega | exact Nat.le_refl _⟩, ⟨by (with_reducible repeat (first | refine blk_drewN ?_ _ | refine blk_drew ?_ | refine blk_alloc ?_ _)); refine blk_far ?_ NB270_272.out _; (with_reducible repeat (first | refine blk_drewN ?_ _ | refine blk_drew ?_ | refine blk_alloc ?_ _)); refine blk_far ?_ NB270_272.out _; (with_reducible repeat (first | refine blk_drewN ?_ _ | refine blk_drew ?_ | refine blk_alloc ?_ _)); refine blk_far ?_ NB270_272.out _; (with_reducible repeat (first | refine blk_drewN ?_ _ | refine blk_drew ?_ | refine blk_alloc ?_ _)); exact BK270.out⟩, ⟨by (with_reducible repeat (first | refine blk_drewN ?_ _ | refine blk_drew ?_ | refine blk_alloc ?_ _)); refine blk_put (cs := #[.int .i64 ((rd_T91 l0 a1).f0), .int .i64 ((rd_T91 l0 a1).f1), .int .i64 0]) ?_ 2 _ rfl; (with_reducible repeat (first | refine blk_drewN ?_ _ | refine blk_drew ?_ | refine blk_alloc ?_ _)); refine blk_put (cs := #[.int .i64 ((rd_T91 l0 a1).f0), .int .i64 0, .int .i64 0]) ?_ 1 _ rfl; (with_reducible repeat (first | refine blk_drewN ?_ _ | refine blk_drew ?_ | refine blk_alloc ?_ _)); refine blk_put (cs := #[.int .i64 0, .int .i64 0, .int .i64 0]) ?_ 0 _ rfl; (with_reducible repeat (first | refine blk_drewN ?_ _ | refine blk_drew ?_ | refine blk_alloc ?_ _)); exact BK272.out⟩, ⟨by repeat (first | (with_reducible first | exact HB.out | apply below_alloc | apply pw_below_drewN | apply below_drew1 | refine below_set ?_ GE270.out | refine below_set ?_ GE272.out) | exact HB.out)⟩⟩
            · rw [if_neg c48] at H
              have c48b0 : (((rd_T91 l0 a1).f0) == 15) = false := beq_eq_false_iff_ne.mpr c48
              have c48b1 : (((rd_T91 l0 a1).f0) != 15) = true := bne_iff_ne.mpr c48
              (first | rw [c48b0] | (simp only [i64_w, i32_w]; rw [c48b0]) | skip)
              have H' := Aside0.mk H
              clear H
              go_wp2
              go_meet
              case rel => exact ⟨_, ((((rd_T91 l0 a1).f0) == 16)), (by first | rfl | (simp; done) | (simp [*]; done)), H', ⟨by first | omega | exact Nat.le_refl _⟩, ⟨by (with_reducible repeat (first | refine blk_drewN ?_ _ | refine blk_drew ?_ | refine blk_alloc ?_ _)); refine blk_far ?_ NB270_272.out _; (with_reducible repeat (first | refine blk_drewN ?_ _ | refine blk_drew ?_ | refine blk_alloc ?_ _)); refine blk_far ?_ NB270_272.out _; (with_reducible repeat (first | refine blk_drewN ?_ _ | refine blk_drew ?_ | refine blk_alloc ?_ _)); refine blk_far ?_ NB270_272.out _; (with_reducible repeat (first | refine blk_drewN ?_ _ | refine blk_drew ?_ | refine blk_alloc ?_ _)); exact BK270.out⟩, ⟨by (with_reducible repeat (first | refine blk_drewN ?_ _ | refine blk_drew ?_ | refine blk_alloc ?_ _)); refine blk_put (cs := #[.int .i64 ((rd_T91 l0 a1).f0), .int .i64 ((rd_T91 l0 a1).f1), .int .i64 0]) ?_ 2 _ rfl; (with_reducible repeat (first | refine blk_drewN ?_ _ | refine blk_drew ?_ | refine blk_alloc ?_ _)); refine blk_put (cs := #[.int .i64 ((rd_T91 l0 a1).f0), .int .i64 0, .int .i64 0]) ?_ 1 _ rfl; (with_reducible repeat (first | refine blk_drewN ?_ _ | refine blk_drew ?_ | refine blk_alloc ?_ _)); refine blk_put (cs := #[.int .i64 0, .int .i64 0, .int .i64 0]) ?_ 0 _ rfl; (with_reducible repeat (first | refine blk_drewN ?_ _ | refine blk_drew ?_ | refine blk_alloc ?_ _)); exact BK272.out⟩, ⟨by repeat (first | (with_reducible first | exact HB.out | apply below_alloc | apply pw_below_drewN | apply below_drew1 | refine below_set ?_ GE270.out | refine below_set ?_ GE272.out) | exact HB.out)⟩⟩
          case rest =>
            clear HC43
            try clear c1
            try clear c2
            try clear p2
            try clear q2
            try clear hx2
            try clear c3
            try clear c4
            try clear c6
            try clear c6b0
            try clear c7
            try clear c7b0
            try clear c8
            try clear c8b0
            try clear c8b1
            try clear c12
            try clear c16
            try clear c16b0
            try clear c16b1
            try clear c20
            try clear c22
            try clear c23
            try clear c25
            try clear p27
            try clear q27
            try clear hx27
            try clear c28
            try clear c30
            try clear c31
            try clear c33
            try clear c33b0
            try clear c34
            try clear c34b0
            try clear c36
            try clear c40
            try clear c46
            try clear c48
            try clear c48b0
            try clear c48b1
            try clear hcz13_0
            try clear hcz13_1
            try clear hcz13_2
            try clear hcz15_0
            try clear hcz15_1
            try clear hcz15_2
            try clear hcz21_0
            try clear hcz21_1
            try clear hcz21_2
            try clear hcz24_0
            try clear hcz24_1
            try clear hcz24_2
            try clear hcz29_0
            try clear hcz29_1
            try clear hcz29_2
            try clear hcz32_0
            try clear hcz32_1
            try clear hcz32_2
            try clear hcz37_0
            try clear hcz37_1
            try clear hcz37_2
            try clear hcz39_0
            try clear hcz39_1
            try clear hcz39_2
            try clear hcz41_0
            try clear hcz41_1
            try clear hcz41_2
            try clear hcz42_0
            try clear hcz42_1
            try clear hcz42_2
            try clear hcz47_0
            try clear hcz47_1
            try clear hcz47_2
            try clear hfz13_0
            try clear hfz13_1
            try clear hfz13_2
            try clear hfz15_0
            try clear hfz15_1
            try clear hfz15_2
            try clear hfz21_0
            try clear hfz21_1
            try clear hfz21_2
            try clear hfz24_0
            try clear hfz24_1
            try clear hfz24_2
            try clear hfz29_0
            try clear hfz29_1
            try clear hfz29_2
            try clear hfz32_0
            try clear hfz32_1
            try clear hfz32_2
            try clear hfz37_0
            try clear hfz37_1
            try clear hfz37_2
            try clear hfz39_0
            try clear hfz39_1
            try clear hfz39_2
            try clear hfz41_0
            try clear hfz41_1
            try clear hfz41_2
            try clear hfz42_0
            try clear hfz42_1
            try clear hfz42_2
            try clear hfz47_0
            try clear hfz47_1
            try clear hfz47_2
            try clear hx271_0
            try clear hx271_1
            try clear hx271_2
            try clear hx279_0
            try clear p2
            try clear p271
            try clear p279
            try clear q2
            try clear q271
            try clear q279
            obtain ⟨kq, x61_42, rfl, HA, HJ42, BK270, BK272, HB⟩ := hcut
            cases kq with
            | zero => exact absurd HA.out (by simp [spinetref04_End.j1])
            | succ kj42 =>
              have H := HA.out
              clear HA
              simp only [spinetref04_End.j1] at H
              by_cases c49 : x61_42 = true
              · subst c49
                have H1 : ((spinetref04_truth.f (((rd_T91 l0 a1).f0) == 15)).bind fun bt283 => (some (bt283.1, bt283.2.1, bt283.2.2, a1))) = some (r1, r2, r3, r4) := by rw [if_pos rfl] at H; exact H
                clear H
                have H := H1
                clear H1
                replace H := Option.bind_eq_some_iff.mp H
                obtain ⟨⟨t283, t284, t285⟩, A500, H⟩ := H
                replace H : (some (t283, t284, t285, a1)) = some (r1, r2, r3, r4) := H
                have A50 := Aside0.mk A500
                clear A500
                simp only [Option.some.injEq, Prod.mk.injEq] at H
                obtain ⟨rfl, rfl, rfl, rfl⟩ := H
                have hnb51 := NB272_270.out
                have hnc51 := NB270_272.out
                have hcz52_0 : wc.cell? ⟨gb272, 0, none⟩ = some (.int .i64 ((rd_T91 l0 a1).f0)) := (blk_cell BK272.out 0).trans rfl
                have hcz52_1 : wc.cell? ⟨gb272, 1, none⟩ = some (.int .i64 ((rd_T91 l0 a1).f1)) := (blk_cell BK272.out 1).trans rfl
                have hcz52_2 : wc.cell? ⟨gb272, 2, none⟩ = some (.int .i64 ((rd_T91 l0 a1).f2)) := (blk_cell BK272.out 2).trans rfl
                have hfz52_0 := blk_frozen BK272.out 0
                have hfz52_1 := blk_frozen BK272.out 1
                have hfz52_2 := blk_frozen BK272.out 2
                go_wp2_with (first | ((with_reducible refine gate_callee (f := 124) rfl ?_); refine goesL_ (some 67) rfl rfl Tryz.func124 (by kernel_rfl) rfl #[.bool (((rd_T91 l0 a1).f0) == 15)] rfl (by (try simp only [List.map_toArray, List.map_cons, List.map_nil]); first | done | rfl | (simp only [List.length_drop, List.length_take]; rfl)) ?_; (with_reducible refine (spinetref04_truth.calls (((rd_T91 l0 a1).f0) == 15) t283 t284 t285 _ A50.out).mono ?_); rintro e w53 ⟨rfl, hb⟩; refine ⟨_, rfl, ?_⟩; have n0_ := Aside0.mk (blk_below (g := gb270) (o := .cells #[.int .i64 0, .int .i64 0, .int .i64 0] 144 (0, 0)) (by (with_reducible repeat (first | refine blk_drewN ?_ _ | refine blk_drew ?_ | refine blk_alloc ?_ _)); exact BK270.out) hb); have n1_ := Aside0.mk (blk_below (g := gb272) (o := .cells #[.int .i64 ((rd_T91 l0 a1).f0), .int .i64 ((rd_T91 l0 a1).f1), .int .i64 ((rd_T91 l0 a1).f2)] 91 (0, 0)) (by (with_reducible repeat (first | refine blk_drewN ?_ _ | refine blk_drew ?_ | refine blk_alloc ?_ _)); exact BK272.out) hb); have n2_ := Aside0.mk (below_step (by repeat (first | (with_reducible first | exact HB.out | apply below_alloc | apply pw_below_drewN | apply below_drew1 | refine below_set ?_ GE270.out | refine below_set ?_ GE272.out) | exact HB.out)) hb); clear BK270; clear BK272; clear HB; have BK270 := n0_; have BK272 := n1_; have HB := n2_; clear n0_ n1_ n2_; (try clear hb); (try clear hb2); (try clear hk); (try clear hi); have hcz54_0 : w53.cell? ⟨gb270, 0, none⟩ = some (.int .i64 0) := (blk_cell BK270.out 0).trans rfl; have hcz54_1 : w53.cell? ⟨gb270, 1, none⟩ = some (.int .i64 0) := (blk_cell BK270.out 1).trans rfl; have hcz54_2 : w53.cell? ⟨gb270, 2, none⟩ = some (.int .i64 0) := (blk_cell BK270.out 2).trans rfl; have hfz54_0 := blk_frozen BK270.out 0; have hfz54_1 := blk_frozen BK270.out 1; have hfz54_2 := blk_frozen BK270.out 2))
                refine bodyPost_ret (results_ct rfl _ _ gb270 144 #[.int .i64 t283, .int .i64 t284, .int .i64 t285] (0, 0) _ rfl (by (with_reducible repeat (first | refine blk_drewN ?_ _ | refine blk_drew ?_ | refine blk_alloc ?_ _)); refine blk_put (cs := #[.int .i64 t283, .int .i64 t284, .int .i64 0]) ?_ 2 _ rfl; (with_reducible repeat (first | refine blk_drewN ?_ _ | refine blk_drew ?_ | refine blk_alloc ?_ _)); refine blk_put (cs := #[.int .i64 t283, .int .i64 0, .int .i64 0]) ?_ 1 _ rfl; (with_reducible repeat (first | refine blk_drewN ?_ _ | refine blk_drew ?_ | refine blk_alloc ?_ _)); refine blk_put (cs := #[.int .i64 0, .int .i64 0, .int .i64 0]) ?_ 0 _ rfl; (with_reducible repeat (first | refine blk_drewN ?_ _ | refine blk_drew ?_ | refine blk_alloc ?_ _)); exact BK270.out) Tryz.underlying144 rfl (by kernel_rfl)) rfl ?_
                exact ⟨by first | rfl | (simp [errW_none, errW_some] <;> rfl) | (simp [*, errW_none, errW_some] <;> rfl), by repeat (first | (with_reducible first | exact HB.out | apply below_alloc | apply pw_below_drewN | apply below_drew1 | refine below_set ?_ GE270.out | refine below_set ?_ GE272.out) | exact HB.out)⟩
              · replace c49 := Bool.eq_false_iff.mpr c49
                subst c49
                have H1 : (if ((rd_T91 l0 a1).f0) = 14 then (spinetref04_End.j2 kj42 l0 a1 l2 a3 a4 (((rd_T91 l0 a1).f0) == 14) ((rd_T91 l0 a1).f0) ((rd_T91 l0 a1).f1) ((rd_T91 l0 a1).f2)) else (spinetref04_End.j2 kj42 l0 a1 l2 a3 a4 (((rd_T91 l0 a1).f0) == 19) ((rd_T91 l0 a1).f0) ((rd_T91 l0 a1).f1) ((rd_T91 l0 a1).f2))) = some (r1, r2, r3, r4) := by rw [if_neg (show ¬ (false = true) by decide)] at H; exact H
                clear H
                have H := H1
                clear H1
                have HC55 := Aside0.mk H
                clear H
                go_upto_if 69 with (fail)
                go_cut [69] (fun v69 wc => ∃ (kq : Nat) (x69_54 : Bool), v69 = .bool x69_54 ∧ Aside0 (spinetref04_End.j2 kq l0 a1 l2 a3 a4 x69_54 ((rd_T91 l0 a1).f0) ((rd_T91 l0 a1).f1) ((rd_T91 l0 a1).f2) = some (r1, r2, r3, r4)) ∧ Aside0 (kq ≤ kj42) ∧ Aside0 (wc.heap[gb270]? = some (.cells #[.int .i64 0, .int .i64 0, .int .i64 0] 144 (0, 0))) ∧ Aside0 (wc.heap[gb272]? = some (.cells #[.int .i64 ((rd_T91 l0 a1).f0), .int .i64 ((rd_T91 l0 a1).f1), .int .i64 ((rd_T91 l0 a1).f2)] 91 (0, 0))) ∧ Aside0 (Below w.heap.size w wc))
                case first =>
                  have H := HC55.out
                  clear HC55
                  by_cases c56 : ((rd_T91 l0 a1).f0) = 14
                  · rw [if_pos c56] at H
                    have c56b0 : (((rd_T91 l0 a1).f0) == 14) = true := beq_iff_eq.mpr c56
                    have c56b1 : (((rd_T91 l0 a1).f0) != 14) = false := bne_eq_false_iff_eq.mpr c56
                    clear c56
                    (first | rw [c56b0] | (simp only [i64_w, i32_w]; rw [c56b0]) | skip)
                    have H' := Aside0.mk H
                    clear H
                    go_wp2
                    go_meet
                    case rel => exact ⟨_, ((((rd_T91 l0 a1).f0) == 14)), (by first | rfl | (simp; done) | (simp [*]; done)), H', ⟨by have := HJ42.out; first | omega | exact Nat.le_refl _⟩, ⟨by (with_reducible repeat (first | refine blk_drewN ?_ _ | refine blk_drew ?_ | refine blk_alloc ?_ _)); exact BK270.out⟩, ⟨by (with_reducible repeat (first | refine blk_drewN ?_ _ | refine blk_drew ?_ | refine blk_alloc ?_ _)); exact BK272.out⟩, ⟨by repeat (first | (with_reducible first | exact HB.out | apply below_alloc | apply pw_below_drewN | apply below_drew1 | refine below_set ?_ GE270.out | refine below_set ?_ GE272.out) | exact HB.out)⟩⟩
                  · rw [if_neg c56] at H
                    have c56b0 : (((rd_T91 l0 a1).f0) == 14) = false := beq_eq_false_iff_ne.mpr c56
                    have c56b1 : (((rd_T91 l0 a1).f0) != 14) = true := bne_iff_ne.mpr c56
                    (first | rw [c56b0] | (simp only [i64_w, i32_w]; rw [c56b0]) | skip)
                    have H' := Aside0.mk H
                    clear H
                    go_wp2
                    go_meet
                    case rel => exact ⟨_, ((((rd_T91 l0 a1).f0) == 19)), (by first | rfl | (simp; done) | (simp [*]; done)), H', ⟨by have := HJ42.out; first | omega | exact Nat.le_refl _⟩, ⟨by (with_reducible repeat (first | refine blk_drewN ?_ _ | refine blk_drew ?_ | refine blk_alloc ?_ _)); exact BK270.out⟩, ⟨by (with_reducible repeat (first | refine blk_drewN ?_ _ | refine blk_drew ?_ | refine blk_alloc ?_ _)); exact BK272.out⟩, ⟨by repeat (first | (with_reducible first | exact HB.out | apply below_alloc | apply pw_below_drewN | apply below_drew1 | refine below_set ?_ GE270.out | refine below_set ?_ GE272.out) | exact HB.out)⟩⟩
                case rest =>
                  clear HC55
                  try clear c1
                  try clear c2
                  try clear p2
                  try clear q2
                  try clear hx2
                  try clear c3
                  try clear c4
                  try clear c5
                  try clear c6
                  try clear c6b0
                  try clear c7
                  try clear c7b0
                  try clear c8
                  try clear c8b0
                  try clear c8b1
                  try clear c12
                  try clear c16
                  try clear c16b0
                  try clear c16b1
                  try clear c20
                  try clear c22
                  try clear c23
                  try clear c25
                  try clear p27
                  try clear q27
                  try clear hx27
                  try clear c28
                  try clear c30
                  try clear c31
                  try clear c33
                  try clear c33b0
                  try clear c34
                  try clear c34b0
                  try clear c36
                  try clear c40
                  try clear c46
                  try clear c48
                  try clear c48b0
                  try clear c48b1
                  try clear c49
                  try clear c51
                  try clear c56
                  try clear c56b0
                  try clear c56b1
                  try clear hcz13_0
                  try clear hcz13_1
                  try clear hcz13_2
                  try clear hcz15_0
                  try clear hcz15_1
                  try clear hcz15_2
                  try clear hcz21_0
                  try clear hcz21_1
                  try clear hcz21_2
                  try clear hcz24_0
                  try clear hcz24_1
                  try clear hcz24_2
                  try clear hcz29_0
                  try clear hcz29_1
                  try clear hcz29_2
                  try clear hcz32_0
                  try clear hcz32_1
                  try clear hcz32_2
                  try clear hcz37_0
                  try clear hcz37_1
                  try clear hcz37_2
                  try clear hcz39_0
                  try clear hcz39_1
                  try clear hcz39_2
                  try clear hcz41_0
                  try clear hcz41_1
                  try clear hcz41_2
                  try clear hcz42_0
                  try clear hcz42_1
                  try clear hcz42_2
                  try clear hcz47_0
                  try clear hcz47_1
                  try clear hcz47_2
                  try clear hcz52_0
                  try clear hcz52_1
                  try clear hcz52_2
                  try clear hcz54_0
                  try clear hcz54_1
                  try clear hcz54_2
                  try clear hfz13_0
                  try clear hfz13_1
                  try clear hfz13_2
                  try clear hfz15_0
                  try clear hfz15_1
                  try clear hfz15_2
                  try clear hfz21_0
                  try clear hfz21_1
                  try clear hfz21_2
                  try clear hfz24_0
                  try clear hfz24_1
                  try clear hfz24_2
                  try clear hfz29_0
                  try clear hfz29_1
                  try clear hfz29_2
                  try clear hfz32_0
                  try clear hfz32_1
                  try clear hfz32_2
                  try clear hfz37_0
                  try clear hfz37_1
                  try clear hfz37_2
                  try clear hfz39_0
                  try clear hfz39_1
                  try clear hfz39_2
                  try clear hfz41_0
                  try clear hfz41_1
                  try clear hfz41_2
                  try clear hfz42_0
                  try clear hfz42_1
                  try clear hfz42_2
                  try clear hfz47_0
                  try clear hfz47_1
                  try clear hfz47_2
                  try clear hfz52_0
                  try clear hfz52_1
                  try clear hfz52_2
                  try clear hfz54_0
                  try clear hfz54_1
                  try clear hfz54_2
                  try clear hx271_0
                  try clear hx271_1
                  try clear hx271_2
                  try clear hx279_0
                  try clear p2
                  try clear p27
                  try clear p271
                  try clear p279
                  try clear q2
                  try clear q27
                  try clear q271
                  try clear q279
                  obtain ⟨kq, x69_54, rfl, HA, HJ54, BK270, BK272, HB⟩ := hcut
                  cases kq with
                  | zero => exact absurd HA.out (by simp [spinetref04_End.j2])
                  | succ kj54 =>
                    have H := HA.out
                    clear HA
                    simp only [spinetref04_End.j2] at H
                    by_cases c57 : x69_54 = true
                    · subst c57
                      have H1 : ((spinetref04_End.f kj54 l0 (wrap64 (a1 - 1)) l2 a3 a4).bind fun bt286 => (if bt286.2.2.1 = 0 then (if ((rd_T91 l0 a1).f0) = 14 then (spinetref04_End.j3 kj54 bt286.2.2.2 (bt286.1 == 2) ((rd_T91 l0 a1).f0) ((rd_T91 l0 a1).f1) ((rd_T91 l0 a1).f2) bt286.1 bt286.2.1 bt286.2.2.1) else (spinetref04_End.j3 kj54 bt286.2.2.2 false ((rd_T91 l0 a1).f0) ((rd_T91 l0 a1).f1) ((rd_T91 l0 a1).f2) bt286.1 bt286.2.1 bt286.2.2.1)) else (some (bt286.1, bt286.2.1, bt286.2.2.1, bt286.2.2.2)))) = some (r1, r2, r3, r4) := by rw [if_pos rfl] at H; exact H
                      clear H
                      have H := H1
                      clear H1
                      replace H := Option.bind_eq_some_iff.mp H
                      obtain ⟨⟨t286, t287, t288, t289⟩, A580, H⟩ := H
                      replace H : (if t288 = 0 then (if ((rd_T91 l0 a1).f0) = 14 then (spinetref04_End.j3 kj54 t289 (t286 == 2) ((rd_T91 l0 a1).f0) ((rd_T91 l0 a1).f1) ((rd_T91 l0 a1).f2) t286 t287 t288) else (spinetref04_End.j3 kj54 t289 false ((rd_T91 l0 a1).f0) ((rd_T91 l0 a1).f1) ((rd_T91 l0 a1).f2) t286 t287 t288)) else (some (t286, t287, t288, t289))) = some (r1, r2, r3, r4) := H
                      have A58 := Aside0.mk A580
                      clear A580
                      by_cases c59 : t288 = 0
                      · rw [if_pos c59] at H
                        have c59b0 : (t288 == 0) = true := beq_iff_eq.mpr c59
                        have c59b1 : (t288 != 0) = false := bne_eq_false_iff_eq.mpr c59
                        clear c59
                        have HC60 := Aside0.mk H
                        clear H
                        go_upto_region 19 with (first | ((with_reducible refine gate_callee (f := 88) rfl ?_); refine goesL_ (some 79) rfl rfl Tryz.func88 (by kernel_rfl) rfl #[.slice (some ad271) l0.length c0, .int .i64 (wrap64 (a1 - 1)), .slice A2 l2.length c2, .int .i64 a3, .bool a4] rfl (by (try simp only [List.map_toArray, List.map_cons, List.map_nil]); first | done | rfl | (simp only [List.length_drop, List.length_take]; rfl)) ?_; (with_reducible refine (ih kj54 (by have := HJ42.out; have := HJ54.out; omega) _ _ l0 (wrap64 (a1 - 1)) _ _ l2 a3 a4 t286 t287 t288 t289 _ ?side1 ?side2 ?side3 ?side4 A58.out).mono ?_); (case side1 => repeat (first | exact (Kd.C_below HR0.out HB.out) | (with_reducible refine Kd.C_alloc ?_ _) | (with_reducible refine Kd.C_drewN ?_ _) | (with_reducible refine Kd.C_drew ?_))); (case side2 => exact HC0.out); (case side3 => repeat (first | exact (Kd.C_below HR2.out HB.out) | (with_reducible refine Kd.C_alloc ?_ _) | (with_reducible refine Kd.C_drewN ?_ _) | (with_reducible refine Kd.C_drew ?_))); (case side4 => exact HC2.out); rintro e w61 ⟨rfl, hb⟩; refine ⟨_, rfl, ?_⟩; have n0_ := Aside0.mk (blk_below (g := gb270) (o := .cells #[.int .i64 0, .int .i64 0, .int .i64 0] 144 (0, 0)) (by (with_reducible repeat (first | refine blk_drewN ?_ _ | refine blk_drew ?_ | refine blk_alloc ?_ _)); exact BK270.out) hb); have n1_ := Aside0.mk (blk_below (g := gb272) (o := .cells #[.int .i64 ((rd_T91 l0 a1).f0), .int .i64 ((rd_T91 l0 a1).f1), .int .i64 ((rd_T91 l0 a1).f2)] 91 (0, 0)) (by (with_reducible repeat (first | refine blk_drewN ?_ _ | refine blk_drew ?_ | refine blk_alloc ?_ _)); exact BK272.out) hb); have n2_ := Aside0.mk (below_step (by repeat (first | (with_reducible first | exact HB.out | apply below_alloc | apply pw_below_drewN | apply below_drew1 | refine below_set ?_ GE270.out | refine below_set ?_ GE272.out) | exact HB.out)) hb); clear BK270; clear BK272; clear HB; have BK270 := n0_; have BK272 := n1_; have HB := n2_; clear n0_ n1_ n2_; (try clear hb); (try clear hb2); (try clear hk); (try clear hi)) | ((with_reducible refine gate_dst (N := 13) rfl ?_); (try (refine gate_guard (by rfl) ?_; dsimp only)); refine box_event ?hg (N := 13) ?hd (cs := #[.int .i64 0, .int .i64 0, .int .i64 0]) (t := 144) ?hr ?_; (case hd => rfl); (case hg => rfl); (case hr => first | (go_simp; done) | (go_simp; rfl)); intro gb290 hg w62 hbox hb; have n0_ := Aside0.mk (blk_below (g := gb270) (o := .cells #[.int .i64 0, .int .i64 0, .int .i64 0] 144 (0, 0)) (by (with_reducible repeat (first | refine blk_drewN ?_ _ | refine blk_drew ?_ | refine blk_alloc ?_ _)); exact BK270.out) hb); have n1_ := Aside0.mk (blk_below (g := gb272) (o := .cells #[.int .i64 ((rd_T91 l0 a1).f0), .int .i64 ((rd_T91 l0 a1).f1), .int .i64 ((rd_T91 l0 a1).f2)] 91 (0, 0)) (by (with_reducible repeat (first | refine blk_drewN ?_ _ | refine blk_drew ?_ | refine blk_alloc ?_ _)); exact BK272.out) hb); have n2_ := Aside0.mk (below_step (by repeat (first | (with_reducible first | exact HB.out | apply below_alloc | apply pw_below_drewN | apply below_drew1 | refine below_set ?_ GE270.out | refine below_set ?_ GE272.out) | exact HB.out)) hb); have n3_ := Aside0.mk (hbox); have n4_ := Aside0.mk ((by rw [hg]; exact (below_size (by repeat (first | (with_reducible first | exact HB.out | apply below_alloc | apply pw_below_drewN | apply below_drew1 | refine below_set ?_ GE270.out | refine below_set ?_ GE272.out) | exact HB.out))) : w.heap.size ≤ gb290)); have n5_ := Aside0.mk ((by rw [hg]; exact (below_size (by repeat (first | (with_reducible first | exact HB.out | apply below_alloc | apply pw_below_drewN | apply below_drew1 | refine below_set ?_ GE270.out | refine below_set ?_ GE272.out) | exact HB.out))) : w.heap.size ≤ gb290)); have n6_ := Aside0.mk ((by rw [hg]; exact Nat.ne_of_lt (blk_lt (g := gb270) (o := .cells #[.int .i64 0, .int .i64 0, .int .i64 0] 144 (0, 0)) (by (with_reducible repeat (first | refine blk_drewN ?_ _ | refine blk_drew ?_ | refine blk_alloc ?_ _)); exact BK270.out)) : gb270 ≠ gb290)); have n7_ := Aside0.mk ((by rw [hg]; exact Nat.ne_of_gt (blk_lt (g := gb270) (o := .cells #[.int .i64 0, .int .i64 0, .int .i64 0] 144 (0, 0)) (by (with_reducible repeat (first | refine blk_drewN ?_ _ | refine blk_drew ?_ | refine blk_alloc ?_ _)); exact BK270.out)) : gb290 ≠ gb270)); have n8_ := Aside0.mk ((by rw [hg]; exact Nat.ne_of_lt (blk_lt (g := gb272) (o := .cells #[.int .i64 ((rd_T91 l0 a1).f0), .int .i64 ((rd_T91 l0 a1).f1), .int .i64 ((rd_T91 l0 a1).f2)] 91 (0, 0)) (by (with_reducible repeat (first | refine blk_drewN ?_ _ | refine blk_drew ?_ | refine blk_alloc ?_ _)); exact BK272.out)) : gb272 ≠ gb290)); have n9_ := Aside0.mk ((by rw [hg]; exact Nat.ne_of_gt (blk_lt (g := gb272) (o := .cells #[.int .i64 ((rd_T91 l0 a1).f0), .int .i64 ((rd_T91 l0 a1).f1), .int .i64 ((rd_T91 l0 a1).f2)] 91 (0, 0)) (by (with_reducible repeat (first | refine blk_drewN ?_ _ | refine blk_drew ?_ | refine blk_alloc ?_ _)); exact BK272.out)) : gb290 ≠ gb272)); clear BK270; clear BK272; clear HB; have BK270 := n0_; have BK272 := n1_; have HB := n2_; have BK290 := n3_; have GW290 := n4_; have GE290 := n5_; have NB270_290 := n6_; have NB290_270 := n7_; have NB272_290 := n8_; have NB290_272 := n9_; clear n0_ n1_ n2_ n3_ n4_ n5_ n6_ n7_ n8_ n9_; clear hb hbox hg; have hnb63 := NB290_270.out; have hnc63 := NB270_290.out; have hnb64 := NB290_272.out; have hnc64 := NB272_290.out; have hcz65_0 : w62.cell? ⟨gb290, 0, none⟩ = some (.int .i64 0) := (blk_cell BK290.out 0).trans rfl; have hcz65_1 : w62.cell? ⟨gb290, 1, none⟩ = some (.int .i64 0) := (blk_cell BK290.out 1).trans rfl; have hcz65_2 : w62.cell? ⟨gb290, 2, none⟩ = some (.int .i64 0) := (blk_cell BK290.out 2).trans rfl; have hfz65_0 := blk_frozen BK290.out 0; have hfz65_1 := blk_frozen BK290.out 1; have hfz65_2 := blk_frozen BK290.out 2))
                        (try simp only [Act.put, List.setIfInBounds_toArray, List.set_cons_zero, List.set_cons_succ])
                        go_cut [95] (fun v95 wc => ∃ (kq : Nat) (x95_59 : Bool), v95 = .bool x95_59 ∧ Aside0 (spinetref04_End.j3 kq t289 x95_59 ((rd_T91 l0 a1).f0) ((rd_T91 l0 a1).f1) ((rd_T91 l0 a1).f2) t286 t287 t288 = some (r1, r2, r3, r4)) ∧ Aside0 (kq ≤ kj54) ∧ Aside0 (wc.heap[gb270]? = some (.cells #[.int .i64 0, .int .i64 0, .int .i64 0] 144 (0, 0))) ∧ Aside0 (wc.heap[gb272]? = some (.cells #[.int .i64 ((rd_T91 l0 a1).f0), .int .i64 ((rd_T91 l0 a1).f1), .int .i64 ((rd_T91 l0 a1).f2)] 91 (0, 0))) ∧ Aside0 (wc.heap[gb290]? = some (.cells #[.int .i64 t286, .int .i64 t287, .int .i64 t288] 144 (0, 0))) ∧ Aside0 (Below w.heap.size w wc))
                        case first =>
                          have H := HC60.out
                          clear HC60
                          by_cases c66 : ((rd_T91 l0 a1).f0) = 14
                          · rw [if_pos c66] at H
                            have c66b0 : (((rd_T91 l0 a1).f0) == 14) = true := beq_iff_eq.mpr c66
                            have c66b1 : (((rd_T91 l0 a1).f0) != 14) = false := bne_eq_false_iff_eq.mpr c66
                            clear c66
                            (first | rw [c66b0] | (simp only [i64_w, i32_w]; rw [c66b0]) | skip)
                            have H' := Aside0.mk H
                            clear H
                            have hnb67 := NB272_270.out
                            have hnc67 := NB270_272.out
                            have hnb68 := NB272_290.out
                            have hnc68 := NB290_272.out
                            have hcz69_0 : w62.cell? ⟨gb272, 0, none⟩ = some (.int .i64 ((rd_T91 l0 a1).f0)) := (blk_cell BK272.out 0).trans rfl
                            have hcz69_1 : w62.cell? ⟨gb272, 1, none⟩ = some (.int .i64 ((rd_T91 l0 a1).f1)) := (blk_cell BK272.out 1).trans rfl
                            have hcz69_2 : w62.cell? ⟨gb272, 2, none⟩ = some (.int .i64 ((rd_T91 l0 a1).f2)) := (blk_cell BK272.out 2).trans rfl
                            have hfz69_0 := blk_frozen BK272.out 0
                            have hfz69_1 := blk_frozen BK272.out 1
                            have hfz69_2 := blk_frozen BK272.out 2
                            have hnb70 := NB290_270.out
                            have hnc70 := NB270_290.out
                            have hcz71_0 : w62.cell? ⟨gb290, 0, none⟩ = some (.int .i64 0) := (blk_cell BK290.out 0).trans rfl
                            have hcz71_1 : w62.cell? ⟨gb290, 1, none⟩ = some (.int .i64 0) := (blk_cell BK290.out 1).trans rfl
                            have hcz71_2 : w62.cell? ⟨gb290, 2, none⟩ = some (.int .i64 0) := (blk_cell BK290.out 2).trans rfl
                            have hfz71_0 := blk_frozen BK290.out 0
                            have hfz71_1 := blk_frozen BK290.out 1
                            have hfz71_2 := blk_frozen BK290.out 2
                            go_wp2
                            go_meet
                            case rel => exact ⟨_, ((t286 == 2)), (by first | rfl | (simp; done) | (simp [*]; done)), H', ⟨by have := HJ42.out; have := HJ54.out; first | omega | exact Nat.le_refl _⟩, ⟨by (with_reducible repeat (first | refine blk_drewN ?_ _ | refine blk_drew ?_ | refine blk_alloc ?_ _)); refine blk_far ?_ NB270_290.out _; (with_reducible repeat (first | refine blk_drewN ?_ _ | refine blk_drew ?_ | refine blk_alloc ?_ _)); refine blk_far ?_ NB270_290.out _; (with_reducible repeat (first | refine blk_drewN ?_ _ | refine blk_drew ?_ | refine blk_alloc ?_ _)); refine blk_far ?_ NB270_290.out _; (with_reducible repeat (first | refine blk_drewN ?_ _ | refine blk_drew ?_ | refine blk_alloc ?_ _)); exact BK270.out⟩, ⟨by (with_reducible repeat (first | refine blk_drewN ?_ _ | refine blk_drew ?_ | refine blk_alloc ?_ _)); refine blk_far ?_ NB272_290.out _; (with_reducible repeat (first | refine blk_drewN ?_ _ | refine blk_drew ?_ | refine blk_alloc ?_ _)); refine blk_far ?_ NB272_290.out _; (with_reducible repeat (first | refine blk_drewN ?_ _ | refine blk_drew ?_ | refine blk_alloc ?_ _)); refine blk_far ?_ NB272_290.out _; (with_reducible repeat (first | refine blk_drewN ?_ _ | refine blk_drew ?_ | refine blk_alloc ?_ _)); exact BK272.out⟩, ⟨by (with_reducible repeat (first | refine blk_drewN ?_ _ | refine blk_drew ?_ | refine blk_alloc ?_ _)); refine blk_put (cs := #[.int .i64 t286, .int .i64 t287, .int .i64 0]) ?_ 2 _ rfl; (with_reducible repeat (first | refine blk_drewN ?_ _ | refine blk_drew ?_ | refine blk_alloc ?_ _)); refine blk_put (cs := #[.int .i64 t286, .int .i64 0, .int .i64 0]) ?_ 1 _ rfl; (with_reducible repeat (first | refine blk_drewN ?_ _ | refine blk_drew ?_ | refine blk_alloc ?_ _)); refine blk_put (cs := #[.int .i64 0, .int .i64 0, .int .i64 0]) ?_ 0 _ rfl; (with_reducible repeat (first | refine blk_drewN ?_ _ | refine blk_drew ?_ | refine blk_alloc ?_ _)); exact BK290.out⟩, ⟨by repeat (first | (with_reducible first | exact HB.out | apply below_alloc | apply pw_below_drewN | apply below_drew1 | refine below_set ?_ GE270.out | refine below_set ?_ GE272.out | refine below_set ?_ GE290.out) | exact HB.out)⟩⟩
                          · rw [if_neg c66] at H
                            have c66b0 : (((rd_T91 l0 a1).f0) == 14) = false := beq_eq_false_iff_ne.mpr c66
                            have c66b1 : (((rd_T91 l0 a1).f0) != 14) = true := bne_iff_ne.mpr c66
                            (first | rw [c66b0] | (simp only [i64_w, i32_w]; rw [c66b0]) | skip)
                            have H' := Aside0.mk H
                            clear H
                            have hnb72 := NB272_270.out
                            have hnc72 := NB270_272.out
                            have hnb73 := NB272_290.out
                            have hnc73 := NB290_272.out
                            have hcz74_0 : w62.cell? ⟨gb272, 0, none⟩ = some (.int .i64 ((rd_T91 l0 a1).f0)) := (blk_cell BK272.out 0).trans rfl
                            have hcz74_1 : w62.cell? ⟨gb272, 1, none⟩ = some (.int .i64 ((rd_T91 l0 a1).f1)) := (blk_cell BK272.out 1).trans rfl
                            have hcz74_2 : w62.cell? ⟨gb272, 2, none⟩ = some (.int .i64 ((rd_T91 l0 a1).f2)) := (blk_cell BK272.out 2).trans rfl
                            have hfz74_0 := blk_frozen BK272.out 0
                            have hfz74_1 := blk_frozen BK272.out 1
                            have hfz74_2 := blk_frozen BK272.out 2
                            go_wp2
                            go_meet
                            case rel => exact ⟨_, (false), (by first | rfl | (simp; done) | (simp [*]; done)), H', ⟨by have := HJ42.out; have := HJ54.out; first | omega | exact Nat.le_refl _⟩, ⟨by (with_reducible repeat (first | refine blk_drewN ?_ _ | refine blk_drew ?_ | refine blk_alloc ?_ _)); refine blk_far ?_ NB270_290.out _; (with_reducible repeat (first | refine blk_drewN ?_ _ | refine blk_drew ?_ | refine blk_alloc ?_ _)); refine blk_far ?_ NB270_290.out _; (with_reducible repeat (first | refine blk_drewN ?_ _ | refine blk_drew ?_ | refine blk_alloc ?_ _)); refine blk_far ?_ NB270_290.out _; (with_reducible repeat (first | refine blk_drewN ?_ _ | refine blk_drew ?_ | refine blk_alloc ?_ _)); exact BK270.out⟩, ⟨by (with_reducible repeat (first | refine blk_drewN ?_ _ | refine blk_drew ?_ | refine blk_alloc ?_ _)); refine blk_far ?_ NB272_290.out _; (with_reducible repeat (first | refine blk_drewN ?_ _ | refine blk_drew ?_ | refine blk_alloc ?_ _)); refine blk_far ?_ NB272_290.out _; (with_reducible repeat (first | refine blk_drewN ?_ _ | refine blk_drew ?_ | refine blk_alloc ?_ _)); refine blk_far ?_ NB272_290.out _; (with_reducible repeat (first | refine blk_drewN ?_ _ | refine blk_drew ?_ | refine blk_alloc ?_ _)); exact BK272.out⟩, ⟨by (with_reducible repeat (first | refine blk_drewN ?_ _ | refine blk_drew ?_ | refine blk_alloc ?_ _)); refine blk_put (cs := #[.int .i64 t286, .int .i64 t287, .int .i64 0]) ?_ 2 _ rfl; (with_reducible repeat (first | refine blk_drewN ?_ _ | refine blk_drew ?_ | refine blk_alloc ?_ _)); refine blk_put (cs := #[.int .i64 t286, .int .i64 0, .int .i64 0]) ?_ 1 _ rfl; (with_reducible repeat (first | refine blk_drewN ?_ _ | refine blk_drew ?_ | refine blk_alloc ?_ _)); refine blk_put (cs := #[.int .i64 0, .int .i64 0, .int .i64 0]) ?_ 0 _ rfl; (with_reducible repeat (first | refine blk_drewN ?_ _ | refine blk_drew ?_ | refine blk_alloc ?_ _)); exact BK290.out⟩, ⟨by repeat (first | (with_reducible first | exact HB.out | apply below_alloc | apply pw_below_drewN | apply below_drew1 | refine below_set ?_ GE270.out | refine below_set ?_ GE272.out | refine below_set ?_ GE290.out) | exact HB.out)⟩⟩
                        case rest =>
                          clear HC60
                          try clear c1
                          try clear c2
                          try clear p2
                          try clear q2
                          try clear hx2
                          try clear c3
                          try clear c4
                          try clear c5
                          try clear c6
                          try clear c6b0
                          try clear p6
                          try clear c7
                          try clear c7b0
                          try clear c8
                          try clear c8b0
                          try clear c8b1
                          try clear c12
                          try clear c16
                          try clear c16b0
                          try clear c16b1
                          try clear c20
                          try clear c22
                          try clear c23
                          try clear c25
                          try clear p27
                          try clear q27
                          try clear hx27
                          try clear c28
                          try clear c30
                          try clear c31
                          try clear c33
                          try clear c33b0
                          try clear c34
                          try clear c34b0
                          try clear c36
                          try clear c40
                          try clear c46
                          try clear c48
                          try clear c48b0
                          try clear c48b1
                          try clear c49
                          try clear c51
                          try clear c56
                          try clear c56b0
                          try clear c56b1
                          try clear c57
                          try clear c59
                          try clear c59b0
                          try clear c59b1
                          try clear c63
                          try clear c64
                          try clear p64
                          try clear c66
                          try clear c66b0
                          try clear c66b1
                          try clear c67
                          try clear c68
                          try clear c70
                          try clear c72
                          try clear c73
                          try clear hcz13_0
                          try clear hcz13_1
                          try clear hcz13_2
                          try clear hcz15_0
                          try clear hcz15_1
                          try clear hcz15_2
                          try clear hcz21_0
                          try clear hcz21_1
                          try clear hcz21_2
                          try clear hcz24_0
                          try clear hcz24_1
                          try clear hcz24_2
                          try clear hcz29_0
                          try clear hcz29_1
                          try clear hcz29_2
                          try clear hcz32_0
                          try clear hcz32_1
                          try clear hcz32_2
                          try clear hcz37_0
                          try clear hcz37_1
                          try clear hcz37_2
                          try clear hcz39_0
                          try clear hcz39_1
                          try clear hcz39_2
                          try clear hcz41_0
                          try clear hcz41_1
                          try clear hcz41_2
                          try clear hcz42_0
                          try clear hcz42_1
                          try clear hcz42_2
                          try clear hcz47_0
                          try clear hcz47_1
                          try clear hcz47_2
                          try clear hcz52_0
                          try clear hcz52_1
                          try clear hcz52_2
                          try clear hcz54_0
                          try clear hcz54_1
                          try clear hcz54_2
                          try clear hcz65_0
                          try clear hcz65_1
                          try clear hcz65_2
                          try clear hcz69_0
                          try clear hcz69_1
                          try clear hcz69_2
                          try clear hcz71_0
                          try clear hcz71_1
                          try clear hcz71_2
                          try clear hcz74_0
                          try clear hcz74_1
                          try clear hcz74_2
                          try clear hfz13_0
                          try clear hfz13_1
                          try clear hfz13_2
                          try clear hfz15_0
                          try clear hfz15_1
                          try clear hfz15_2
                          try clear hfz21_0
                          try clear hfz21_1
                          try clear hfz21_2
                          try clear hfz24_0
                          try clear hfz24_1
                          try clear hfz24_2
                          try clear hfz29_0
                          try clear hfz29_1
                          try clear hfz29_2
                          try clear hfz32_0
                          try clear hfz32_1
                          try clear hfz32_2
                          try clear hfz37_0
                          try clear hfz37_1
                          try clear hfz37_2
                          try clear hfz39_0
                          try clear hfz39_1
                          try clear hfz39_2
                          try clear hfz41_0
                          try clear hfz41_1
                          try clear hfz41_2
                          try clear hfz42_0
                          try clear hfz42_1
                          try clear hfz42_2
                          try clear hfz47_0
                          try clear hfz47_1
                          try clear hfz47_2
                          try clear hfz52_0
                          try clear hfz52_1
                          try clear hfz52_2
                          try clear hfz54_0
                          try clear hfz54_1
                          try clear hfz54_2
                          try clear hfz65_0
                          try clear hfz65_1
                          try clear hfz65_2
                          try clear hfz69_0
                          try clear hfz69_1
                          try clear hfz69_2
                          try clear hfz71_0
                          try clear hfz71_1
                          try clear hfz71_2
                          try clear hfz74_0
                          try clear hfz74_1
                          try clear hfz74_2
                          try clear hx271_0
                          try clear hx271_1
                          try clear hx271_2
                          try clear hx279_0
                          try clear p2
                          try clear p27
                          try clear p271
                          try clear p279
                          try clear q2
                          try clear q27
                          try clear q271
                          try clear q279
                          obtain ⟨kq, x95_59, rfl, HA, HJ59, BK270, BK272, BK290, HB⟩ := hcut
                          cases kq with
                          | zero => exact absurd HA.out (by simp [spinetref04_End.j3])
                          | succ kj59 =>
                            have H := HA.out
                            clear HA
                            simp only [spinetref04_End.j3] at H
                            by_cases c75 : x95_59 = true
                            · subst c75
                              have H1 : ((spinetref04_truth.f (t287 == 0)).bind fun bt291 => (some (bt291.1, bt291.2.1, bt291.2.2, t289))) = some (r1, r2, r3, r4) := by rw [if_pos rfl] at H; exact H
                              clear H
                              have H := H1
                              clear H1
                              replace H := Option.bind_eq_some_iff.mp H
                              obtain ⟨⟨t291, t292, t293⟩, A760, H⟩ := H
                              replace H : (some (t291, t292, t293, t289)) = some (r1, r2, r3, r4) := H
                              have A76 := Aside0.mk A760
                              clear A760
                              simp only [Option.some.injEq, Prod.mk.injEq] at H
                              obtain ⟨rfl, rfl, rfl, rfl⟩ := H
                              have hnb77 := NB290_270.out
                              have hnc77 := NB270_290.out
                              have hnb78 := NB290_272.out
                              have hnc78 := NB272_290.out
                              have hcz79_0 : wc.cell? ⟨gb290, 0, none⟩ = some (.int .i64 t286) := (blk_cell BK290.out 0).trans rfl
                              have hcz79_1 : wc.cell? ⟨gb290, 1, none⟩ = some (.int .i64 t287) := (blk_cell BK290.out 1).trans rfl
                              have hcz79_2 : wc.cell? ⟨gb290, 2, none⟩ = some (.int .i64 t288) := (blk_cell BK290.out 2).trans rfl
                              have hfz79_0 := blk_frozen BK290.out 0
                              have hfz79_1 := blk_frozen BK290.out 1
                              have hfz79_2 := blk_frozen BK290.out 2
                              go_wp2_with (first | ((with_reducible refine gate_callee (f := 124) rfl ?_); refine goesL_ (some 100) rfl rfl Tryz.func124 (by kernel_rfl) rfl #[.bool (t287 == 0)] rfl (by (try simp only [List.map_toArray, List.map_cons, List.map_nil]); first | done | rfl | (simp only [List.length_drop, List.length_take]; rfl)) ?_; (with_reducible refine (spinetref04_truth.calls (t287 == 0) t291 t292 t293 _ A76.out).mono ?_); rintro e w80 ⟨rfl, hb⟩; refine ⟨_, rfl, ?_⟩; have n0_ := Aside0.mk (blk_below (g := gb270) (o := .cells #[.int .i64 0, .int .i64 0, .int .i64 0] 144 (0, 0)) (by (with_reducible repeat (first | refine blk_drewN ?_ _ | refine blk_drew ?_ | refine blk_alloc ?_ _)); exact BK270.out) hb); have n1_ := Aside0.mk (blk_below (g := gb272) (o := .cells #[.int .i64 ((rd_T91 l0 a1).f0), .int .i64 ((rd_T91 l0 a1).f1), .int .i64 ((rd_T91 l0 a1).f2)] 91 (0, 0)) (by (with_reducible repeat (first | refine blk_drewN ?_ _ | refine blk_drew ?_ | refine blk_alloc ?_ _)); exact BK272.out) hb); have n2_ := Aside0.mk (blk_below (g := gb290) (o := .cells #[.int .i64 t286, .int .i64 t287, .int .i64 t288] 144 (0, 0)) (by (with_reducible repeat (first | refine blk_drewN ?_ _ | refine blk_drew ?_ | refine blk_alloc ?_ _)); exact BK290.out) hb); have n3_ := Aside0.mk (below_step (by repeat (first | (with_reducible first | exact HB.out | apply below_alloc | apply pw_below_drewN | apply below_drew1 | refine below_set ?_ GE270.out | refine below_set ?_ GE272.out | refine below_set ?_ GE290.out) | exact HB.out)) hb); clear BK270; clear BK272; clear BK290; clear HB; have BK270 := n0_; have BK272 := n1_; have BK290 := n2_; have HB := n3_; clear n0_ n1_ n2_ n3_; (try clear hb); (try clear hb2); (try clear hk); (try clear hi); have hnb81 := NB270_272.out; have hnc81 := NB272_270.out; have hcz82_0 : w80.cell? ⟨gb270, 0, none⟩ = some (.int .i64 0) := (blk_cell BK270.out 0).trans rfl; have hcz82_1 : w80.cell? ⟨gb270, 1, none⟩ = some (.int .i64 0) := (blk_cell BK270.out 1).trans rfl; have hcz82_2 : w80.cell? ⟨gb270, 2, none⟩ = some (.int .i64 0) := (blk_cell BK270.out 2).trans rfl; have hfz82_0 := blk_frozen BK270.out 0; have hfz82_1 := blk_frozen BK270.out 1; have hfz82_2 := blk_frozen BK270.out 2))
                              refine bodyPost_ret (results_ct rfl _ _ gb270 144 #[.int .i64 t291, .int .i64 t292, .int .i64 t293] (0, 0) _ rfl (by (with_reducible repeat (first | refine blk_drewN ?_ _ | refine blk_drew ?_ | refine blk_alloc ?_ _)); refine blk_put (cs := #[.int .i64 t291, .int .i64 t292, .int .i64 0]) ?_ 2 _ rfl; (with_reducible repeat (first | refine blk_drewN ?_ _ | refine blk_drew ?_ | refine blk_alloc ?_ _)); refine blk_put (cs := #[.int .i64 t291, .int .i64 0, .int .i64 0]) ?_ 1 _ rfl; (with_reducible repeat (first | refine blk_drewN ?_ _ | refine blk_drew ?_ | refine blk_alloc ?_ _)); refine blk_put (cs := #[.int .i64 0, .int .i64 0, .int .i64 0]) ?_ 0 _ rfl; (with_reducible repeat (first | refine blk_drewN ?_ _ | refine blk_drew ?_ | refine blk_alloc ?_ _)); exact BK270.out) Tryz.underlying144 rfl (by kernel_rfl)) rfl ?_
                              exact ⟨by first | rfl | (simp [errW_none, errW_some] <;> rfl) | (simp [*, errW_none, errW_some] <;> rfl), by repeat (first | (with_reducible first | exact HB.out | apply below_alloc | apply pw_below_drewN | apply below_drew1 | refine below_set ?_ GE270.out | refine below_set ?_ GE272.out | refine below_set ?_ GE290.out) | exact HB.out)⟩
                            · replace c75 := Bool.eq_false_iff.mpr c75
                              subst c75
                              have H1 : (if ((rd_T91 l0 a1).f0) = 19 then (spinetref04_End.j4 kj59 t289 (t286 == 1) t286 t287 t288) else (spinetref04_End.j4 kj59 t289 false t286 t287 t288)) = some (r1, r2, r3, r4) := by rw [if_neg (show ¬ (false = true) by decide)] at H; exact H
                              clear H
                              have H := H1
                              clear H1
                              have HC83 := Aside0.mk H
                              clear H
                              go_upto_region 21 with (fail)
                              go_cut [110] (fun v110 wc => ∃ (kq : Nat) (x110_82 : Bool), v110 = .bool x110_82 ∧ Aside0 (spinetref04_End.j4 kq t289 x110_82 t286 t287 t288 = some (r1, r2, r3, r4)) ∧ Aside0 (kq ≤ kj59) ∧ Aside0 (wc.heap[gb270]? = some (.cells #[.int .i64 0, .int .i64 0, .int .i64 0] 144 (0, 0))) ∧ Aside0 (wc.heap[gb272]? = some (.cells #[.int .i64 ((rd_T91 l0 a1).f0), .int .i64 ((rd_T91 l0 a1).f1), .int .i64 ((rd_T91 l0 a1).f2)] 91 (0, 0))) ∧ Aside0 (wc.heap[gb290]? = some (.cells #[.int .i64 t286, .int .i64 t287, .int .i64 t288] 144 (0, 0))) ∧ Aside0 (Below w.heap.size w wc))
                              case first =>
                                have H := HC83.out
                                clear HC83
                                by_cases c84 : ((rd_T91 l0 a1).f0) = 19
                                · rw [if_pos c84] at H
                                  have c84b0 : (((rd_T91 l0 a1).f0) == 19) = true := beq_iff_eq.mpr c84
                                  have c84b1 : (((rd_T91 l0 a1).f0) != 19) = false := bne_eq_false_iff_eq.mpr c84
                                  clear c84
                                  (first | rw [c84b0] | (simp only [i64_w, i32_w]; rw [c84b0]) | skip)
                                  have H' := Aside0.mk H
                                  clear H
                                  have hnb85 := NB272_270.out
                                  have hnc85 := NB270_272.out
                                  have hnb86 := NB272_290.out
                                  have hnc86 := NB290_272.out
                                  have hcz87_0 : wc.cell? ⟨gb272, 0, none⟩ = some (.int .i64 ((rd_T91 l0 a1).f0)) := (blk_cell BK272.out 0).trans rfl
                                  have hcz87_1 : wc.cell? ⟨gb272, 1, none⟩ = some (.int .i64 ((rd_T91 l0 a1).f1)) := (blk_cell BK272.out 1).trans rfl
                                  have hcz87_2 : wc.cell? ⟨gb272, 2, none⟩ = some (.int .i64 ((rd_T91 l0 a1).f2)) := (blk_cell BK272.out 2).trans rfl
                                  have hfz87_0 := blk_frozen BK272.out 0
                                  have hfz87_1 := blk_frozen BK272.out 1
                                  have hfz87_2 := blk_frozen BK272.out 2
                                  have hnb88 := NB290_270.out
                                  have hnc88 := NB270_290.out
                                  have hcz89_0 : wc.cell? ⟨gb290, 0, none⟩ = some (.int .i64 t286) := (blk_cell BK290.out 0).trans rfl
                                  have hcz89_1 : wc.cell? ⟨gb290, 1, none⟩ = some (.int .i64 t287) := (blk_cell BK290.out 1).trans rfl
                                  have hcz89_2 : wc.cell? ⟨gb290, 2, none⟩ = some (.int .i64 t288) := (blk_cell BK290.out 2).trans rfl
                                  have hfz89_0 := blk_frozen BK290.out 0
                                  have hfz89_1 := blk_frozen BK290.out 1
                                  have hfz89_2 := blk_frozen BK290.out 2
                                  go_wp2
                                  go_meet
                                  case rel => exact ⟨_, ((t286 == 1)), (by first | rfl | (simp; done) | (simp [*]; done)), H', ⟨by have := HJ42.out; have := HJ54.out; have := HJ59.out; first | omega | exact Nat.le_refl _⟩, ⟨by (with_reducible repeat (first | refine blk_drewN ?_ _ | refine blk_drew ?_ | refine blk_alloc ?_ _)); exact BK270.out⟩, ⟨by (with_reducible repeat (first | refine blk_drewN ?_ _ | refine blk_drew ?_ | refine blk_alloc ?_ _)); exact BK272.out⟩, ⟨by (with_reducible repeat (first | refine blk_drewN ?_ _ | refine blk_drew ?_ | refine blk_alloc ?_ _)); exact BK290.out⟩, ⟨by repeat (first | (with_reducible first | exact HB.out | apply below_alloc | apply pw_below_drewN | apply below_drew1 | refine below_set ?_ GE270.out | refine below_set ?_ GE272.out | refine below_set ?_ GE290.out) | exact HB.out)⟩⟩
                                · rw [if_neg c84] at H
                                  have c84b0 : (((rd_T91 l0 a1).f0) == 19) = false := beq_eq_false_iff_ne.mpr c84
                                  have c84b1 : (((rd_T91 l0 a1).f0) != 19) = true := bne_iff_ne.mpr c84
                                  (first | rw [c84b0] | (simp only [i64_w, i32_w]; rw [c84b0]) | skip)
                                  have H' := Aside0.mk H
                                  clear H
                                  have hnb90 := NB272_270.out
                                  have hnc90 := NB270_272.out
                                  have hnb91 := NB272_290.out
                                  have hnc91 := NB290_272.out
                                  have hcz92_0 : wc.cell? ⟨gb272, 0, none⟩ = some (.int .i64 ((rd_T91 l0 a1).f0)) := (blk_cell BK272.out 0).trans rfl
                                  have hcz92_1 : wc.cell? ⟨gb272, 1, none⟩ = some (.int .i64 ((rd_T91 l0 a1).f1)) := (blk_cell BK272.out 1).trans rfl
                                  have hcz92_2 : wc.cell? ⟨gb272, 2, none⟩ = some (.int .i64 ((rd_T91 l0 a1).f2)) := (blk_cell BK272.out 2).trans rfl
                                  have hfz92_0 := blk_frozen BK272.out 0
                                  have hfz92_1 := blk_frozen BK272.out 1
                                  have hfz92_2 := blk_frozen BK272.out 2
                                  go_wp2
                                  go_meet
                                  case rel => exact ⟨_, (false), (by first | rfl | (simp; done) | (simp [*]; done)), H', ⟨by have := HJ42.out; have := HJ54.out; have := HJ59.out; first | omega | exact Nat.le_refl _⟩, ⟨by (with_reducible repeat (first | refine blk_drewN ?_ _ | refine blk_drew ?_ | refine blk_alloc ?_ _)); exact BK270.out⟩, ⟨by (with_reducible repeat (first | refine blk_drewN ?_ _ | refine blk_drew ?_ | refine blk_alloc ?_ _)); exact BK272.out⟩, ⟨by (with_reducible repeat (first | refine blk_drewN ?_ _ | refine blk_drew ?_ | refine blk_alloc ?_ _)); exact BK290.out⟩, ⟨by repeat (first | (with_reducible first | exact HB.out | apply below_alloc | apply pw_below_drewN | apply below_drew1 | refine below_set ?_ GE270.out | refine below_set ?_ GE272.out | refine below_set ?_ GE290.out) | exact HB.out)⟩⟩
                              case rest =>
                                clear HC83
                                try clear c1
                                try clear c2
                                try clear p2
                                try clear q2
                                try clear hx2
                                try clear c3
                                try clear c4
                                try clear c5
                                try clear c6
                                try clear c6b0
                                try clear p6
                                try clear c7
                                try clear c7b0
                                try clear c8
                                try clear c8b0
                                try clear c8b1
                                try clear c9
                                try clear c12
                                try clear c16
                                try clear c16b0
                                try clear c16b1
                                try clear c20
                                try clear c22
                                try clear c23
                                try clear c25
                                try clear p27
                                try clear q27
                                try clear hx27
                                try clear c28
                                try clear c30
                                try clear c31
                                try clear c33
                                try clear c33b0
                                try clear c34
                                try clear c34b0
                                try clear c36
                                try clear c40
                                try clear c46
                                try clear c48
                                try clear c48b0
                                try clear c48b1
                                try clear c49
                                try clear c51
                                try clear c56
                                try clear c56b0
                                try clear c56b1
                                try clear c57
                                try clear c59
                                try clear c59b0
                                try clear c59b1
                                try clear c63
                                try clear c64
                                try clear p64
                                try clear c66
                                try clear c66b0
                                try clear c66b1
                                try clear c67
                                try clear c68
                                try clear c70
                                try clear c72
                                try clear c73
                                try clear c75
                                try clear c77
                                try clear c78
                                try clear c81
                                try clear c84
                                try clear c84b0
                                try clear c84b1
                                try clear c85
                                try clear c86
                                try clear c88
                                try clear c90
                                try clear c91
                                try clear hcz13_0
                                try clear hcz13_1
                                try clear hcz13_2
                                try clear hcz15_0
                                try clear hcz15_1
                                try clear hcz15_2
                                try clear hcz21_0
                                try clear hcz21_1
                                try clear hcz21_2
                                try clear hcz24_0
                                try clear hcz24_1
                                try clear hcz24_2
                                try clear hcz29_0
                                try clear hcz29_1
                                try clear hcz29_2
                                try clear hcz32_0
                                try clear hcz32_1
                                try clear hcz32_2
                                try clear hcz37_0
                                try clear hcz37_1
                                try clear hcz37_2
                                try clear hcz39_0
                                try clear hcz39_1
                                try clear hcz39_2
                                try clear hcz41_0
                                try clear hcz41_1
                                try clear hcz41_2
                                try clear hcz42_0
                                try clear hcz42_1
                                try clear hcz42_2
                                try clear hcz47_0
                                try clear hcz47_1
                                try clear hcz47_2
                                try clear hcz52_0
                                try clear hcz52_1
                                try clear hcz52_2
                                try clear hcz54_0
                                try clear hcz54_1
                                try clear hcz54_2
                                try clear hcz65_0
                                try clear hcz65_1
                                try clear hcz65_2
                                try clear hcz69_0
                                try clear hcz69_1
                                try clear hcz69_2
                                try clear hcz71_0
                                try clear hcz71_1
                                try clear hcz71_2
                                try clear hcz74_0
                                try clear hcz74_1
                                try clear hcz74_2
                                try clear hcz79_0
                                try clear hcz79_1
                                try clear hcz79_2
                                try clear hcz82_0
                                try clear hcz82_1
                                try clear hcz82_2
                                try clear hcz87_0
                                try clear hcz87_1
                                try clear hcz87_2
                                try clear hcz89_0
                                try clear hcz89_1
                                try clear hcz89_2
                                try clear hcz92_0
                                try clear hcz92_1
                                try clear hcz92_2
                                try clear hfz13_0
                                try clear hfz13_1
                                try clear hfz13_2
                                try clear hfz15_0
                                try clear hfz15_1
                                try clear hfz15_2
                                try clear hfz21_0
                                try clear hfz21_1
                                try clear hfz21_2
                                try clear hfz24_0
                                try clear hfz24_1
                                try clear hfz24_2
                                try clear hfz29_0
                                try clear hfz29_1
                                try clear hfz29_2
                                try clear hfz32_0
                                try clear hfz32_1
                                try clear hfz32_2
                                try clear hfz37_0
                                try clear hfz37_1
                                try clear hfz37_2
                                try clear hfz39_0
                                try clear hfz39_1
                                try clear hfz39_2
                                try clear hfz41_0
                                try clear hfz41_1
                                try clear hfz41_2
                                try clear hfz42_0
                                try clear hfz42_1
                                try clear hfz42_2
                                try clear hfz47_0
                                try clear hfz47_1
                                try clear hfz47_2
                                try clear hfz52_0
                                try clear hfz52_1
                                try clear hfz52_2
                                try clear hfz54_0
                                try clear hfz54_1
                                try clear hfz54_2
                                try clear hfz65_0
                                try clear hfz65_1
                                try clear hfz65_2
                                try clear hfz69_0
                                try clear hfz69_1
                                try clear hfz69_2
                                try clear hfz71_0
                                try clear hfz71_1
                                try clear hfz71_2
                                try clear hfz74_0
                                try clear hfz74_1
                                try clear hfz74_2
                                try clear hfz79_0
                                try clear hfz79_1
                                try clear hfz79_2
                                try clear hfz82_0
                                try clear hfz82_1
                                try clear hfz82_2
                                try clear hfz87_0
                                try clear hfz87_1
                                try clear hfz87_2
                                try clear hfz89_0
                                try clear hfz89_1
                                try clear hfz89_2
                                try clear hfz92_0
                                try clear hfz92_1
                                try clear hfz92_2
                                try clear hx271_0
                                try clear hx271_1
                                try clear hx271_2
                                try clear hx279_0
                                try clear p2
                                try clear p27
                                try clear p271
                                try clear p279
                                try clear p6
                                try clear p64
                                try clear q2
                                try clear q27
                                try clear q271
                                try clear q279
                                obtain ⟨kq, x110_82, rfl, HA, HJ82, BK270, BK272, BK290, HB⟩ := hcut
                                cases kq with
                                | zero => exact absurd HA.out (by simp [spinetref04_End.j4])
                                | succ kj82 =>
                                  have H := HA.out
                                  clear HA
                                  simp only [spinetref04_End.j4] at H
                                  by_cases c93 : x110_82 = true
                                  · subst c93
                                    have H1 : ((spinetref01_Sub.f 0 t287).bind fun t294 => ((spinetref04_whole.f t294).bind fun bt295 => (some (bt295.1, bt295.2.1, bt295.2.2, t289)))) = some (r1, r2, r3, r4) := by rw [if_pos rfl] at H; exact H
                                    clear H
                                    have H := H1
                                    clear H1
                                    replace H := Option.bind_eq_some_iff.mp H
                                    obtain ⟨t294, A940, H⟩ := H
                                    replace H : ((spinetref04_whole.f t294).bind fun bt295 => (some (bt295.1, bt295.2.1, bt295.2.2, t289))) = some (r1, r2, r3, r4) := H
                                    have A94 := Aside0.mk A940
                                    clear A940
                                    replace H := Option.bind_eq_some_iff.mp H
                                    obtain ⟨⟨t295, t296, t297⟩, A950, H⟩ := H
                                    replace H : (some (t295, t296, t297, t289)) = some (r1, r2, r3, r4) := H
                                    have A95 := Aside0.mk A950
                                    clear A950
                                    simp only [Option.some.injEq, Prod.mk.injEq] at H
                                    obtain ⟨rfl, rfl, rfl, rfl⟩ := H
                                    have hnb96 := NB290_270.out
                                    have hnc96 := NB270_290.out
                                    have hnb97 := NB290_272.out
                                    have hnc97 := NB272_290.out
                                    have hcz98_0 : wc.cell? ⟨gb290, 0, none⟩ = some (.int .i64 t286) := (blk_cell BK290.out 0).trans rfl
                                    have hcz98_1 : wc.cell? ⟨gb290, 1, none⟩ = some (.int .i64 t287) := (blk_cell BK290.out 1).trans rfl
                                    have hcz98_2 : wc.cell? ⟨gb290, 2, none⟩ = some (.int .i64 t288) := (blk_cell BK290.out 2).trans rfl
                                    have hfz98_0 := blk_frozen BK290.out 0
                                    have hfz98_1 := blk_frozen BK290.out 1
                                    have hfz98_2 := blk_frozen BK290.out 2
                                    go_wp2_with (first | ((with_reducible refine gate_callee (f := 125) rfl ?_); refine goesL_ (some 114) rfl rfl Tryz.func125 (by kernel_rfl) rfl #[.int .i64 0, .int .i64 t287] rfl (by (try simp only [List.map_toArray, List.map_cons, List.map_nil]); first | done | rfl | (simp only [List.length_drop, List.length_take]; rfl)) ?_; (with_reducible refine (spinetref01_Sub.calls 0 t287 t294 _ A94.out).mono ?_); rintro e w' ⟨rfl, ⟨nd, rfl⟩⟩; refine ⟨_, rfl, ?_⟩; (try (rw [drewN_self wc]; generalize hq_ : World.drewN wc _ = wc; have n0_ : Aside0 (wc.heap[gb270]? = some (.cells #[.int .i64 0, .int .i64 0, .int .i64 0] 144 (0, 0))) := ⟨by rw [← hq_]; exact (by (with_reducible repeat (first | refine blk_drewN ?_ _ | refine blk_drew ?_ | refine blk_alloc ?_ _)); exact BK270.out)⟩; have n1_ : Aside0 (wc.heap[gb272]? = some (.cells #[.int .i64 ((rd_T91 l0 a1).f0), .int .i64 ((rd_T91 l0 a1).f1), .int .i64 ((rd_T91 l0 a1).f2)] 91 (0, 0))) := ⟨by rw [← hq_]; exact (by (with_reducible repeat (first | refine blk_drewN ?_ _ | refine blk_drew ?_ | refine blk_alloc ?_ _)); exact BK272.out)⟩; have n2_ : Aside0 (wc.heap[gb290]? = some (.cells #[.int .i64 t286, .int .i64 t287, .int .i64 t288] 144 (0, 0))) := ⟨by rw [← hq_]; exact (by (with_reducible repeat (first | refine blk_drewN ?_ _ | refine blk_drew ?_ | refine blk_alloc ?_ _)); exact BK290.out)⟩; have n3_ : Aside0 (Below w.heap.size w wc) := ⟨by rw [← hq_]; exact (by repeat (first | (with_reducible first | exact HB.out | apply below_alloc | apply pw_below_drewN | apply below_drew1 | refine below_set ?_ GE270.out | refine below_set ?_ GE272.out | refine below_set ?_ GE290.out) | exact HB.out))⟩; clear BK270 BK272 BK290 HB hq_; have BK270 := n0_; have BK272 := n1_; have BK290 := n2_; have HB := n3_; clear n0_ n1_ n2_ n3_))) | ((with_reducible refine gate_callee (f := 123) rfl ?_); refine goesL_ (some 115) rfl rfl Tryz.func123 (by kernel_rfl) rfl #[.int .i64 t294] rfl (by (try simp only [List.map_toArray, List.map_cons, List.map_nil]); first | done | rfl | (simp only [List.length_drop, List.length_take]; rfl)) ?_; (with_reducible refine (spinetref04_whole.calls t294 t295 t296 t297 _ A95.out).mono ?_); rintro e w99 ⟨rfl, hb⟩; refine ⟨_, rfl, ?_⟩; have n0_ := Aside0.mk (blk_below (g := gb270) (o := .cells #[.int .i64 0, .int .i64 0, .int .i64 0] 144 (0, 0)) (by (with_reducible repeat (first | refine blk_drewN ?_ _ | refine blk_drew ?_ | refine blk_alloc ?_ _)); exact BK270.out) hb); have n1_ := Aside0.mk (blk_below (g := gb272) (o := .cells #[.int .i64 ((rd_T91 l0 a1).f0), .int .i64 ((rd_T91 l0 a1).f1), .int .i64 ((rd_T91 l0 a1).f2)] 91 (0, 0)) (by (with_reducible repeat (first | refine blk_drewN ?_ _ | refine blk_drew ?_ | refine blk_alloc ?_ _)); exact BK272.out) hb); have n2_ := Aside0.mk (blk_below (g := gb290) (o := .cells #[.int .i64 t286, .int .i64 t287, .int .i64 t288] 144 (0, 0)) (by (with_reducible repeat (first | refine blk_drewN ?_ _ | refine blk_drew ?_ | refine blk_alloc ?_ _)); exact BK290.out) hb); have n3_ := Aside0.mk (below_step (by repeat (first | (with_reducible first | exact HB.out | apply below_alloc | apply pw_below_drewN | apply below_drew1 | refine below_set ?_ GE270.out | refine below_set ?_ GE272.out | refine below_set ?_ GE290.out) | exact HB.out)) hb); clear BK270; clear BK272; clear BK290; clear HB; have BK270 := n0_; have BK272 := n1_; have BK290 := n2_; have HB := n3_; clear n0_ n1_ n2_ n3_; (try clear hb); (try clear hb2); (try clear hk); (try clear hi); have hnb100 := NB270_272.out; have hnc100 := NB272_270.out; have hcz101_0 : w99.cell? ⟨gb270, 0, none⟩ = some (.int .i64 0) := (blk_cell BK270.out 0).trans rfl; have hcz101_1 : w99.cell? ⟨gb270, 1, none⟩ = some (.int .i64 0) := (blk_cell BK270.out 1).trans rfl; have hcz101_2 : w99.cell? ⟨gb270, 2, none⟩ = some (.int .i64 0) := (blk_cell BK270.out 2).trans rfl; have hfz101_0 := blk_frozen BK270.out 0; have hfz101_1 := blk_frozen BK270.out 1; have hfz101_2 := blk_frozen BK270.out 2))
                                    refine bodyPost_ret (results_ct rfl _ _ gb270 144 #[.int .i64 t295, .int .i64 t296, .int .i64 t297] (0, 0) _ rfl (by (with_reducible repeat (first | refine blk_drewN ?_ _ | refine blk_drew ?_ | refine blk_alloc ?_ _)); refine blk_put (cs := #[.int .i64 t295, .int .i64 t296, .int .i64 0]) ?_ 2 _ rfl; (with_reducible repeat (first | refine blk_drewN ?_ _ | refine blk_drew ?_ | refine blk_alloc ?_ _)); refine blk_put (cs := #[.int .i64 t295, .int .i64 0, .int .i64 0]) ?_ 1 _ rfl; (with_reducible repeat (first | refine blk_drewN ?_ _ | refine blk_drew ?_ | refine blk_alloc ?_ _)); refine blk_put (cs := #[.int .i64 0, .int .i64 0, .int .i64 0]) ?_ 0 _ rfl; (with_reducible repeat (first | refine blk_drewN ?_ _ | refine blk_drew ?_ | refine blk_alloc ?_ _)); exact BK270.out) Tryz.underlying144 rfl (by kernel_rfl)) rfl ?_
                                    exact ⟨by first | rfl | (simp [errW_none, errW_some] <;> rfl) | (simp [*, errW_none, errW_some] <;> rfl), by repeat (first | (with_reducible first | exact HB.out | apply below_alloc | apply pw_below_drewN | apply below_drew1 | refine below_set ?_ GE270.out | refine below_set ?_ GE272.out | refine below_set ?_ GE290.out) | exact HB.out)⟩
                                  · replace c93 := Bool.eq_false_iff.mpr c93
                                    subst c93
                                    have H1 : (some (0, 0, 8, t289)) = some (r1, r2, r3, r4) := by rw [if_neg (show ¬ (false = true) by decide)] at H; exact H
                                    clear H
                                    have H := H1
                                    clear H1
                                    simp only [Option.some.injEq, Prod.mk.injEq] at H
                                    obtain ⟨rfl, rfl, rfl, rfl⟩ := H
                                    have hnb102 := NB270_272.out
                                    have hnc102 := NB272_270.out
                                    have hnb103 := NB270_290.out
                                    have hnc103 := NB290_270.out
                                    have hcz104_0 : wc.cell? ⟨gb270, 0, none⟩ = some (.int .i64 0) := (blk_cell BK270.out 0).trans rfl
                                    have hcz104_1 : wc.cell? ⟨gb270, 1, none⟩ = some (.int .i64 0) := (blk_cell BK270.out 1).trans rfl
                                    have hcz104_2 : wc.cell? ⟨gb270, 2, none⟩ = some (.int .i64 0) := (blk_cell BK270.out 2).trans rfl
                                    have hfz104_0 := blk_frozen BK270.out 0
                                    have hfz104_1 := blk_frozen BK270.out 1
                                    have hfz104_2 := blk_frozen BK270.out 2
                                    go_wp2
                                    refine bodyPost_ret (results_ct rfl _ _ gb270 144 #[.int .i64 0, .int .i64 0, .int .i64 8] (0, 0) _ rfl (by (with_reducible repeat (first | refine blk_drewN ?_ _ | refine blk_drew ?_ | refine blk_alloc ?_ _)); refine blk_put (cs := #[.int .i64 0, .int .i64 0, .int .i64 0]) ?_ 2 _ rfl; (with_reducible repeat (first | refine blk_drewN ?_ _ | refine blk_drew ?_ | refine blk_alloc ?_ _)); refine blk_put (cs := #[.int .i64 0, .int .i64 0, .int .i64 0]) ?_ 1 _ rfl; (with_reducible repeat (first | refine blk_drewN ?_ _ | refine blk_drew ?_ | refine blk_alloc ?_ _)); refine blk_put (cs := #[.int .i64 0, .int .i64 0, .int .i64 0]) ?_ 0 _ rfl; (with_reducible repeat (first | refine blk_drewN ?_ _ | refine blk_drew ?_ | refine blk_alloc ?_ _)); exact BK270.out) Tryz.underlying144 rfl (by kernel_rfl)) rfl ?_
                                    exact ⟨by first | rfl | (simp [errW_none, errW_some] <;> rfl) | (simp [*, errW_none, errW_some] <;> rfl), by repeat (first | (with_reducible first | exact HB.out | apply below_alloc | apply pw_below_drewN | apply below_drew1 | refine below_set ?_ GE270.out | refine below_set ?_ GE272.out | refine below_set ?_ GE290.out) | exact HB.out)⟩
                      · rw [if_neg c59] at H
                        have c59b0 : (t288 == 0) = false := beq_eq_false_iff_ne.mpr c59
                        have c59b1 : (t288 != 0) = true := bne_iff_ne.mpr c59
                        simp only [Option.some.injEq, Prod.mk.injEq] at H
                        obtain ⟨rfl, rfl, rfl, rfl⟩ := H
                        go_wp2_with (first | ((with_reducible refine gate_callee (f := 88) rfl ?_); refine goesL_ (some 79) rfl rfl Tryz.func88 (by kernel_rfl) rfl #[.slice (some ad271) l0.length c0, .int .i64 (wrap64 (a1 - 1)), .slice A2 l2.length c2, .int .i64 a3, .bool a4] rfl (by (try simp only [List.map_toArray, List.map_cons, List.map_nil]); first | done | rfl | (simp only [List.length_drop, List.length_take]; rfl)) ?_; (with_reducible refine (ih kj54 (by have := HJ42.out; have := HJ54.out; omega) _ _ l0 (wrap64 (a1 - 1)) _ _ l2 a3 a4 t286 t287 t288 t289 _ ?side1 ?side2 ?side3 ?side4 A58.out).mono ?_); (case side1 => repeat (first | exact (Kd.C_below HR0.out HB.out) | (with_reducible refine Kd.C_alloc ?_ _) | (with_reducible refine Kd.C_drewN ?_ _) | (with_reducible refine Kd.C_drew ?_))); (case side2 => exact HC0.out); (case side3 => repeat (first | exact (Kd.C_below HR2.out HB.out) | (with_reducible refine Kd.C_alloc ?_ _) | (with_reducible refine Kd.C_drewN ?_ _) | (with_reducible refine Kd.C_drew ?_))); (case side4 => exact HC2.out); rintro e w105 ⟨rfl, hb⟩; refine ⟨_, rfl, ?_⟩; have n0_ := Aside0.mk (blk_below (g := gb270) (o := .cells #[.int .i64 0, .int .i64 0, .int .i64 0] 144 (0, 0)) (by (with_reducible repeat (first | refine blk_drewN ?_ _ | refine blk_drew ?_ | refine blk_alloc ?_ _)); exact BK270.out) hb); have n1_ := Aside0.mk (blk_below (g := gb272) (o := .cells #[.int .i64 ((rd_T91 l0 a1).f0), .int .i64 ((rd_T91 l0 a1).f1), .int .i64 ((rd_T91 l0 a1).f2)] 91 (0, 0)) (by (with_reducible repeat (first | refine blk_drewN ?_ _ | refine blk_drew ?_ | refine blk_alloc ?_ _)); exact BK272.out) hb); have n2_ := Aside0.mk (below_step (by repeat (first | (with_reducible first | exact HB.out | apply below_alloc | apply pw_below_drewN | apply below_drew1 | refine below_set ?_ GE270.out | refine below_set ?_ GE272.out) | exact HB.out)) hb); clear BK270; clear BK272; clear HB; have BK270 := n0_; have BK272 := n1_; have HB := n2_; clear n0_ n1_ n2_; (try clear hb); (try clear hb2); (try clear hk); (try clear hi)) | ((with_reducible refine gate_dst (N := 13) rfl ?_); (try (refine gate_guard (by rfl) ?_; dsimp only)); refine box_event ?hg (N := 13) ?hd (cs := #[.int .i64 0, .int .i64 0, .int .i64 0]) (t := 144) ?hr ?_; (case hd => rfl); (case hg => rfl); (case hr => first | (go_simp; done) | (go_simp; rfl)); intro gb290 hg w106 hbox hb; have n0_ := Aside0.mk (blk_below (g := gb270) (o := .cells #[.int .i64 0, .int .i64 0, .int .i64 0] 144 (0, 0)) (by (with_reducible repeat (first | refine blk_drewN ?_ _ | refine blk_drew ?_ | refine blk_alloc ?_ _)); exact BK270.out) hb); have n1_ := Aside0.mk (blk_below (g := gb272) (o := .cells #[.int .i64 ((rd_T91 l0 a1).f0), .int .i64 ((rd_T91 l0 a1).f1), .int .i64 ((rd_T91 l0 a1).f2)] 91 (0, 0)) (by (with_reducible repeat (first | refine blk_drewN ?_ _ | refine blk_drew ?_ | refine blk_alloc ?_ _)); exact BK272.out) hb); have n2_ := Aside0.mk (below_step (by repeat (first | (with_reducible first | exact HB.out | apply below_alloc | apply pw_below_drewN | apply below_drew1 | refine below_set ?_ GE270.out | refine below_set ?_ GE272.out) | exact HB.out)) hb); have n3_ := Aside0.mk (hbox); have n4_ := Aside0.mk ((by rw [hg]; exact (below_size (by repeat (first | (with_reducible first | exact HB.out | apply below_alloc | apply pw_below_drewN | apply below_drew1 | refine below_set ?_ GE270.out | refine below_set ?_ GE272.out) | exact HB.out))) : w.heap.size ≤ gb290)); have n5_ := Aside0.mk ((by rw [hg]; exact (below_size (by repeat (first | (with_reducible first | exact HB.out | apply below_alloc | apply pw_below_drewN | apply below_drew1 | refine below_set ?_ GE270.out | refine below_set ?_ GE272.out) | exact HB.out))) : w.heap.size ≤ gb290)); have n6_ := Aside0.mk ((by rw [hg]; exact Nat.ne_of_lt (blk_lt (g := gb270) (o := .cells #[.int .i64 0, .int .i64 0, .int .i64 0] 144 (0, 0)) (by (with_reducible repeat (first | refine blk_drewN ?_ _ | refine blk_drew ?_ | refine blk_alloc ?_ _)); exact BK270.out)) : gb270 ≠ gb290)); have n7_ := Aside0.mk ((by rw [hg]; exact Nat.ne_of_gt (blk_lt (g := gb270) (o := .cells #[.int .i64 0, .int .i64 0, .int .i64 0] 144 (0, 0)) (by (with_reducible repeat (first | refine blk_drewN ?_ _ | refine blk_drew ?_ | refine blk_alloc ?_ _)); exact BK270.out)) : gb290 ≠ gb270)); have n8_ := Aside0.mk ((by rw [hg]; exact Nat.ne_of_lt (blk_lt (g := gb272) (o := .cells #[.int .i64 ((rd_T91 l0 a1).f0), .int .i64 ((rd_T91 l0 a1).f1), .int .i64 ((rd_T91 l0 a1).f2)] 91 (0, 0)) (by (with_reducible repeat (first | refine blk_drewN ?_ _ | refine blk_drew ?_ | refine blk_alloc ?_ _)); exact BK272.out)) : gb272 ≠ gb290)); have n9_ := Aside0.mk ((by rw [hg]; exact Nat.ne_of_gt (blk_lt (g := gb272) (o := .cells #[.int .i64 ((rd_T91 l0 a1).f0), .int .i64 ((rd_T91 l0 a1).f1), .int .i64 ((rd_T91 l0 a1).f2)] 91 (0, 0)) (by (with_reducible repeat (first | refine blk_drewN ?_ _ | refine blk_drew ?_ | refine blk_alloc ?_ _)); exact BK272.out)) : gb290 ≠ gb272)); clear BK270; clear BK272; clear HB; have BK270 := n0_; have BK272 := n1_; have HB := n2_; have BK290 := n3_; have GW290 := n4_; have GE290 := n5_; have NB270_290 := n6_; have NB290_270 := n7_; have NB272_290 := n8_; have NB290_272 := n9_; clear n0_ n1_ n2_ n3_ n4_ n5_ n6_ n7_ n8_ n9_; clear hb hbox hg; have hnb107 := NB290_270.out; have hnc107 := NB270_290.out; have hnb108 := NB290_272.out; have hnc108 := NB272_290.out; have hcz109_0 : w106.cell? ⟨gb290, 0, none⟩ = some (.int .i64 0) := (blk_cell BK290.out 0).trans rfl; have hcz109_1 : w106.cell? ⟨gb290, 1, none⟩ = some (.int .i64 0) := (blk_cell BK290.out 1).trans rfl; have hcz109_2 : w106.cell? ⟨gb290, 2, none⟩ = some (.int .i64 0) := (blk_cell BK290.out 2).trans rfl; have hfz109_0 := blk_frozen BK290.out 0; have hfz109_1 := blk_frozen BK290.out 1; have hfz109_2 := blk_frozen BK290.out 2; have hnb110 := NB270_272.out; have hnc110 := NB272_270.out; have hcz111_0 : w106.cell? ⟨gb270, 0, none⟩ = some (.int .i64 0) := (blk_cell BK270.out 0).trans rfl; have hcz111_1 : w106.cell? ⟨gb270, 1, none⟩ = some (.int .i64 0) := (blk_cell BK270.out 1).trans rfl; have hcz111_2 : w106.cell? ⟨gb270, 2, none⟩ = some (.int .i64 0) := (blk_cell BK270.out 2).trans rfl; have hfz111_0 := blk_frozen BK270.out 0; have hfz111_1 := blk_frozen BK270.out 1; have hfz111_2 := blk_frozen BK270.out 2))
                        refine bodyPost_ret (results_ct rfl _ _ gb270 144 #[.int .i64 t286, .int .i64 t287, .int .i64 t288] (0, 0) _ rfl (by (with_reducible repeat (first | refine blk_drewN ?_ _ | refine blk_drew ?_ | refine blk_alloc ?_ _)); refine blk_put (cs := #[.int .i64 t286, .int .i64 t287, .int .i64 0]) ?_ 2 _ rfl; (with_reducible repeat (first | refine blk_drewN ?_ _ | refine blk_drew ?_ | refine blk_alloc ?_ _)); refine blk_put (cs := #[.int .i64 t286, .int .i64 0, .int .i64 0]) ?_ 1 _ rfl; (with_reducible repeat (first | refine blk_drewN ?_ _ | refine blk_drew ?_ | refine blk_alloc ?_ _)); refine blk_put (cs := #[.int .i64 0, .int .i64 0, .int .i64 0]) ?_ 0 _ rfl; (with_reducible repeat (first | refine blk_drewN ?_ _ | refine blk_drew ?_ | refine blk_alloc ?_ _)); refine blk_far ?_ NB270_290.out _; (with_reducible repeat (first | refine blk_drewN ?_ _ | refine blk_drew ?_ | refine blk_alloc ?_ _)); refine blk_far ?_ NB270_290.out _; (with_reducible repeat (first | refine blk_drewN ?_ _ | refine blk_drew ?_ | refine blk_alloc ?_ _)); refine blk_far ?_ NB270_290.out _; (with_reducible repeat (first | refine blk_drewN ?_ _ | refine blk_drew ?_ | refine blk_alloc ?_ _)); exact BK270.out) Tryz.underlying144 rfl (by kernel_rfl)) rfl ?_
                        exact ⟨by first | rfl | (simp [errW_none, errW_some] <;> rfl) | (simp [*, errW_none, errW_some] <;> rfl), by repeat (first | (with_reducible first | exact HB.out | apply below_alloc | apply pw_below_drewN | apply below_drew1 | refine below_set ?_ GE270.out | refine below_set ?_ GE272.out | refine below_set ?_ GE290.out) | exact HB.out)⟩
                    · replace c57 := Bool.eq_false_iff.mpr c57
                      subst c57
                      have H1 : ((spinetref04_End.f kj54 l0 (wrap64 (a1 - 1)) l2 a3 a4).bind fun bt298 => ((spinetref04_End.f kj54 l0 (wrap64 (bt298.2.2.2 - 1)) l2 a3 a4).bind fun bt303 => (if bt303.2.2.1 = 0 then (if bt298.2.2.1 = 0 then ((spinetref04_two.f kj54 ((rd_T91 l0 a1).f0) bt303.1 bt303.2.1 bt298.1 bt298.2.1).bind fun bt308 => (if bt308.2.2 = 9 then (if a4 = true then ((spinetref04_whole.f 0).bind fun bt312 => (some (bt312.1, bt312.2.1, bt312.2.2, bt303.2.2.2))) else (some (bt308.1, bt308.2.1, bt308.2.2, bt303.2.2.2))) else (some (bt308.1, bt308.2.1, bt308.2.2, bt303.2.2.2)))) else (some (bt298.1, bt298.2.1, bt298.2.2.1, bt303.2.2.2))) else (some (bt303.1, bt303.2.1, bt303.2.2.1, bt303.2.2.2))))) = some (r1, r2, r3, r4) := by rw [if_neg (show ¬ (false = true) by decide)] at H; exact H
                      clear H
                      have H := H1
                      clear H1
                      replace H := Option.bind_eq_some_iff.mp H
                      obtain ⟨⟨t298, t299, t300, t301⟩, A1120, H⟩ := H
                      replace H : ((spinetref04_End.f kj54 l0 (wrap64 (t301 - 1)) l2 a3 a4).bind fun bt303 => (if bt303.2.2.1 = 0 then (if t300 = 0 then ((spinetref04_two.f kj54 ((rd_T91 l0 a1).f0) bt303.1 bt303.2.1 t298 t299).bind fun bt308 => (if bt308.2.2 = 9 then (if a4 = true then ((spinetref04_whole.f 0).bind fun bt312 => (some (bt312.1, bt312.2.1, bt312.2.2, bt303.2.2.2))) else (some (bt308.1, bt308.2.1, bt308.2.2, bt303.2.2.2))) else (some (bt308.1, bt308.2.1, bt308.2.2, bt303.2.2.2)))) else (some (t298, t299, t300, bt303.2.2.2))) else (some (bt303.1, bt303.2.1, bt303.2.2.1, bt303.2.2.2)))) = some (r1, r2, r3, r4) := H
                      have A112 := Aside0.mk A1120
                      clear A1120
                      replace H := Option.bind_eq_some_iff.mp H
                      obtain ⟨⟨t303, t304, t305, t306⟩, A1130, H⟩ := H
                      replace H : (if t305 = 0 then (if t300 = 0 then ((spinetref04_two.f kj54 ((rd_T91 l0 a1).f0) t303 t304 t298 t299).bind fun bt308 => (if bt308.2.2 = 9 then (if a4 = true then ((spinetref04_whole.f 0).bind fun bt312 => (some (bt312.1, bt312.2.1, bt312.2.2, t306))) else (some (bt308.1, bt308.2.1, bt308.2.2, t306))) else (some (bt308.1, bt308.2.1, bt308.2.2, t306)))) else (some (t298, t299, t300, t306))) else (some (t303, t304, t305, t306))) = some (r1, r2, r3, r4) := H
                      have A113 := Aside0.mk A1130
                      clear A1130
                      by_cases c114 : t305 = 0
                      · rw [if_pos c114] at H
                        have c114b0 : (t305 == 0) = true := beq_iff_eq.mpr c114
                        have c114b1 : (t305 != 0) = false := bne_eq_false_iff_eq.mpr c114
                        clear c114
                        by_cases c115 : t300 = 0
                        · rw [if_pos c115] at H
                          have c115b0 : (t300 == 0) = true := beq_iff_eq.mpr c115
                          have c115b1 : (t300 != 0) = false := bne_eq_false_iff_eq.mpr c115
                          clear c115
                          replace H := Option.bind_eq_some_iff.mp H
                          obtain ⟨⟨t308, t309, t310⟩, A1160, H⟩ := H
                          replace H : (if t310 = 9 then (if a4 = true then ((spinetref04_whole.f 0).bind fun bt312 => (some (bt312.1, bt312.2.1, bt312.2.2, t306))) else (some (t308, t309, t310, t306))) else (some (t308, t309, t310, t306))) = some (r1, r2, r3, r4) := H
                          have A116 := Aside0.mk A1160
                          clear A1160
                          by_cases c117 : t310 = 9
                          · rw [if_pos c117] at H
                            have c117b0 : (t310 == 9) = true := beq_iff_eq.mpr c117
                            have c117b1 : (t310 != 9) = false := bne_eq_false_iff_eq.mpr c117
                            clear c117
                            by_cases c118 : a4 = true
                            · subst c118
                              have H1 : ((spinetref04_whole.f 0).bind fun bt312 => (some (bt312.1, bt312.2.1, bt312.2.2, t306))) = some (r1, r2, r3, r4) := by rw [if_pos rfl] at H; exact H
                              clear H
                              have H := H1
                              clear H1
                              replace H := Option.bind_eq_some_iff.mp H
                              obtain ⟨⟨t312, t313, t314⟩, A1190, H⟩ := H
                              replace H : (some (t312, t313, t314, t306)) = some (r1, r2, r3, r4) := H
                              have A119 := Aside0.mk A1190
                              clear A1190
                              simp only [Option.some.injEq, Prod.mk.injEq] at H
                              obtain ⟨rfl, rfl, rfl, rfl⟩ := H
                              go_wp2_with (first | ((with_reducible refine gate_callee (f := 88) rfl ?_); refine goesL_ (some 126) rfl rfl Tryz.func88 (by kernel_rfl) rfl #[.slice (some ad271) l0.length c0, .int .i64 (wrap64 (a1 - 1)), .slice A2 l2.length c2, .int .i64 a3, .bool true] rfl (by (try simp only [List.map_toArray, List.map_cons, List.map_nil]); first | done | rfl | (simp only [List.length_drop, List.length_take]; rfl)) ?_; (with_reducible refine (ih kj54 (by have := HJ42.out; have := HJ54.out; omega) _ _ l0 (wrap64 (a1 - 1)) _ _ l2 a3 true t298 t299 t300 t301 _ ?side1 ?side2 ?side3 ?side4 A112.out).mono ?_); (case side1 => repeat (first | exact (Kd.C_below HR0.out HB.out) | (with_reducible refine Kd.C_alloc ?_ _) | (with_reducible refine Kd.C_drewN ?_ _) | (with_reducible refine Kd.C_drew ?_))); (case side2 => exact HC0.out); (case side3 => repeat (first | exact (Kd.C_below HR2.out HB.out) | (with_reducible refine Kd.C_alloc ?_ _) | (with_reducible refine Kd.C_drewN ?_ _) | (with_reducible refine Kd.C_drew ?_))); (case side4 => exact HC2.out); rintro e w120 ⟨rfl, hb⟩; refine ⟨_, rfl, ?_⟩; have n0_ := Aside0.mk (blk_below (g := gb270) (o := .cells #[.int .i64 0, .int .i64 0, .int .i64 0] 144 (0, 0)) (by (with_reducible repeat (first | refine blk_drewN ?_ _ | refine blk_drew ?_ | refine blk_alloc ?_ _)); exact BK270.out) hb); have n1_ := Aside0.mk (blk_below (g := gb272) (o := .cells #[.int .i64 ((rd_T91 l0 a1).f0), .int .i64 ((rd_T91 l0 a1).f1), .int .i64 ((rd_T91 l0 a1).f2)] 91 (0, 0)) (by (with_reducible repeat (first | refine blk_drewN ?_ _ | refine blk_drew ?_ | refine blk_alloc ?_ _)); exact BK272.out) hb); have n2_ := Aside0.mk (below_step (by repeat (first | (with_reducible first | exact HB.out | apply below_alloc | apply pw_below_drewN | apply below_drew1 | refine below_set ?_ GE270.out | refine below_set ?_ GE272.out) | exact HB.out)) hb); clear BK270; clear BK272; clear HB; have BK270 := n0_; have BK272 := n1_; have HB := n2_; clear n0_ n1_ n2_; (try clear hb); (try clear hb2); (try clear hk); (try clear hi)) | ((with_reducible refine gate_dst (N := 15) rfl ?_); (try (refine gate_guard (by rfl) ?_; dsimp only)); refine box_event ?hg (N := 15) ?hd (cs := #[.int .i64 0, .int .i64 0, .int .i64 0]) (t := 144) ?hr ?_; (case hd => rfl); (case hg => rfl); (case hr => first | (go_simp; done) | (go_simp; rfl)); intro gb302 hg w121 hbox hb; have n0_ := Aside0.mk (blk_below (g := gb270) (o := .cells #[.int .i64 0, .int .i64 0, .int .i64 0] 144 (0, 0)) (by (with_reducible repeat (first | refine blk_drewN ?_ _ | refine blk_drew ?_ | refine blk_alloc ?_ _)); exact BK270.out) hb); have n1_ := Aside0.mk (blk_below (g := gb272) (o := .cells #[.int .i64 ((rd_T91 l0 a1).f0), .int .i64 ((rd_T91 l0 a1).f1), .int .i64 ((rd_T91 l0 a1).f2)] 91 (0, 0)) (by (with_reducible repeat (first | refine blk_drewN ?_ _ | refine blk_drew ?_ | refine blk_alloc ?_ _)); exact BK272.out) hb); have n2_ := Aside0.mk (below_step (by repeat (first | (with_reducible first | exact HB.out | apply below_alloc | apply pw_below_drewN | apply below_drew1 | refine below_set ?_ GE270.out | refine below_set ?_ GE272.out) | exact HB.out)) hb); have n3_ := Aside0.mk (hbox); have n4_ := Aside0.mk ((by rw [hg]; exact (below_size (by repeat (first | (with_reducible first | exact HB.out | apply below_alloc | apply pw_below_drewN | apply below_drew1 | refine below_set ?_ GE270.out | refine below_set ?_ GE272.out) | exact HB.out))) : w.heap.size ≤ gb302)); have n5_ := Aside0.mk ((by rw [hg]; exact (below_size (by repeat (first | (with_reducible first | exact HB.out | apply below_alloc | apply pw_below_drewN | apply below_drew1 | refine below_set ?_ GE270.out | refine below_set ?_ GE272.out) | exact HB.out))) : w.heap.size ≤ gb302)); have n6_ := Aside0.mk ((by rw [hg]; exact Nat.ne_of_lt (blk_lt (g := gb270) (o := .cells #[.int .i64 0, .int .i64 0, .int .i64 0] 144 (0, 0)) (by (with_reducible repeat (first | refine blk_drewN ?_ _ | refine blk_drew ?_ | refine blk_alloc ?_ _)); exact BK270.out)) : gb270 ≠ gb302)); have n7_ := Aside0.mk ((by rw [hg]; exact Nat.ne_of_gt (blk_lt (g := gb270) (o := .cells #[.int .i64 0, .int .i64 0, .int .i64 0] 144 (0, 0)) (by (with_reducible repeat (first | refine blk_drewN ?_ _ | refine blk_drew ?_ | refine blk_alloc ?_ _)); exact BK270.out)) : gb302 ≠ gb270)); have n8_ := Aside0.mk ((by rw [hg]; exact Nat.ne_of_lt (blk_lt (g := gb272) (o := .cells #[.int .i64 ((rd_T91 l0 a1).f0), .int .i64 ((rd_T91 l0 a1).f1), .int .i64 ((rd_T91 l0 a1).f2)] 91 (0, 0)) (by (with_reducible repeat (first | refine blk_drewN ?_ _ | refine blk_drew ?_ | refine blk_alloc ?_ _)); exact BK272.out)) : gb272 ≠ gb302)); have n9_ := Aside0.mk ((by rw [hg]; exact Nat.ne_of_gt (blk_lt (g := gb272) (o := .cells #[.int .i64 ((rd_T91 l0 a1).f0), .int .i64 ((rd_T91 l0 a1).f1), .int .i64 ((rd_T91 l0 a1).f2)] 91 (0, 0)) (by (with_reducible repeat (first | refine blk_drewN ?_ _ | refine blk_drew ?_ | refine blk_alloc ?_ _)); exact BK272.out)) : gb302 ≠ gb272)); clear BK270; clear BK272; clear HB; have BK270 := n0_; have BK272 := n1_; have HB := n2_; have BK302 := n3_; have GW302 := n4_; have GE302 := n5_; have NB270_302 := n6_; have NB302_270 := n7_; have NB272_302 := n8_; have NB302_272 := n9_; clear n0_ n1_ n2_ n3_ n4_ n5_ n6_ n7_ n8_ n9_; clear hb hbox hg; have hnb122 := NB302_270.out; have hnc122 := NB270_302.out; have hnb123 := NB302_272.out; have hnc123 := NB272_302.out; have hcz124_0 : w121.cell? ⟨gb302, 0, none⟩ = some (.int .i64 0) := (blk_cell BK302.out 0).trans rfl; have hcz124_1 : w121.cell? ⟨gb302, 1, none⟩ = some (.int .i64 0) := (blk_cell BK302.out 1).trans rfl; have hcz124_2 : w121.cell? ⟨gb302, 2, none⟩ = some (.int .i64 0) := (blk_cell BK302.out 2).trans rfl; have hfz124_0 := blk_frozen BK302.out 0; have hfz124_1 := blk_frozen BK302.out 1; have hfz124_2 := blk_frozen BK302.out 2) | ((with_reducible refine gate_callee (f := 88) rfl ?_); refine goesL_ (some 136) rfl rfl Tryz.func88 (by kernel_rfl) rfl #[.slice (some ad271) l0.length c0, .int .i64 (wrap64 (t301 - 1)), .slice A2 l2.length c2, .int .i64 a3, .bool true] rfl (by (try simp only [List.map_toArray, List.map_cons, List.map_nil]); first | done | rfl | (simp only [List.length_drop, List.length_take]; rfl)) ?_; (with_reducible refine (ih kj54 (by have := HJ42.out; have := HJ54.out; omega) _ _ l0 (wrap64 (t301 - 1)) _ _ l2 a3 true t303 t304 t305 t306 _ ?side1 ?side2 ?side3 ?side4 A113.out).mono ?_); (case side1 => exact Kd.C_below HR0.out (by repeat (first | (with_reducible first | exact HB.out | apply below_alloc | apply pw_below_drewN | apply below_drew1 | refine below_set ?_ GE270.out | refine below_set ?_ GE272.out | refine below_set ?_ GE302.out) | exact HB.out))); (case side2 => exact HC0.out); (case side3 => exact Kd.C_below HR2.out (by repeat (first | (with_reducible first | exact HB.out | apply below_alloc | apply pw_below_drewN | apply below_drew1 | refine below_set ?_ GE270.out | refine below_set ?_ GE272.out | refine below_set ?_ GE302.out) | exact HB.out))); (case side4 => exact HC2.out); rintro e w125 ⟨rfl, hb⟩; refine ⟨_, rfl, ?_⟩; have n0_ := Aside0.mk (blk_below (g := gb270) (o := .cells #[.int .i64 0, .int .i64 0, .int .i64 0] 144 (0, 0)) (by (with_reducible repeat (first | refine blk_drewN ?_ _ | refine blk_drew ?_ | refine blk_alloc ?_ _)); refine blk_far ?_ NB270_302.out _; (with_reducible repeat (first | refine blk_drewN ?_ _ | refine blk_drew ?_ | refine blk_alloc ?_ _)); refine blk_far ?_ NB270_302.out _; (with_reducible repeat (first | refine blk_drewN ?_ _ | refine blk_drew ?_ | refine blk_alloc ?_ _)); refine blk_far ?_ NB270_302.out _; (with_reducible repeat (first | refine blk_drewN ?_ _ | refine blk_drew ?_ | refine blk_alloc ?_ _)); exact BK270.out) hb); have n1_ := Aside0.mk (blk_below (g := gb272) (o := .cells #[.int .i64 ((rd_T91 l0 a1).f0), .int .i64 ((rd_T91 l0 a1).f1), .int .i64 ((rd_T91 l0 a1).f2)] 91 (0, 0)) (by (with_reducible repeat (first | refine blk_drewN ?_ _ | refine blk_drew ?_ | refine blk_alloc ?_ _)); refine blk_far ?_ NB272_302.out _; (with_reducible repeat (first | refine blk_drewN ?_ _ | refine blk_drew ?_ | refine blk_alloc ?_ _)); refine blk_far ?_ NB272_302.out _; (with_reducible repeat (first | refine blk_drewN ?_ _ | refine blk_drew ?_ | refine blk_alloc ?_ _)); refine blk_far ?_ NB272_302.out _; (with_reducible repeat (first | refine blk_drewN ?_ _ | refine blk_drew ?_ | refine blk_alloc ?_ _)); exact BK272.out) hb); have n2_ := Aside0.mk (blk_below (g := gb302) (o := .cells #[.int .i64 t298, .int .i64 t299, .int .i64 t300] 144 (0, 0)) (by (with_reducible repeat (first | refine blk_drewN ?_ _ | refine blk_drew ?_ | refine blk_alloc ?_ _)); refine blk_put (cs := #[.int .i64 t298, .int .i64 t299, .int .i64 0]) ?_ 2 _ rfl; (with_reducible repeat (first | refine blk_drewN ?_ _ | refine blk_drew ?_ | refine blk_alloc ?_ _)); refine blk_put (cs := #[.int .i64 t298, .int .i64 0, .int .i64 0]) ?_ 1 _ rfl; (with_reducible repeat (first | refine blk_drewN ?_ _ | refine blk_drew ?_ | refine blk_alloc ?_ _)); refine blk_put (cs := #[.int .i64 0, .int .i64 0, .int .i64 0]) ?_ 0 _ rfl; (with_reducible repeat (first | refine blk_drewN ?_ _ | refine blk_drew ?_ | refine blk_alloc ?_ _)); exact BK302.out) hb); have n3_ := Aside0.mk (below_step (by repeat (first | (with_reducible first | exact HB.out | apply below_alloc | apply pw_below_drewN | apply below_drew1 | refine below_set ?_ GE270.out | refine below_set ?_ GE272.out | refine below_set ?_ GE302.out) | exact HB.out)) hb); clear BK270; clear BK272; clear BK302; clear HB; have BK270 := n0_; have BK272 := n1_; have BK302 := n2_; have HB := n3_; clear n0_ n1_ n2_ n3_; (try clear hb); (try clear hb2); (try clear hk); (try clear hi)) | ((with_reducible refine gate_dst (N := 17) rfl ?_); (try (refine gate_guard (by rfl) ?_; dsimp only)); refine box_event ?hg (N := 17) ?hd (cs := #[.int .i64 0, .int .i64 0, .int .i64 0]) (t := 144) ?hr ?_; (case hd => rfl); (case hg => rfl); (case hr => first | (go_simp; done) | (go_simp; rfl)); intro gb307 hg w126 hbox hb; have n0_ := Aside0.mk (blk_below (g := gb270) (o := .cells #[.int .i64 0, .int .i64 0, .int .i64 0] 144 (0, 0)) (by (with_reducible repeat (first | refine blk_drewN ?_ _ | refine blk_drew ?_ | refine blk_alloc ?_ _)); exact BK270.out) hb); have n1_ := Aside0.mk (blk_below (g := gb272) (o := .cells #[.int .i64 ((rd_T91 l0 a1).f0), .int .i64 ((rd_T91 l0 a1).f1), .int .i64 ((rd_T91 l0 a1).f2)] 91 (0, 0)) (by (with_reducible repeat (first | refine blk_drewN ?_ _ | refine blk_drew ?_ | refine blk_alloc ?_ _)); exact BK272.out) hb); have n2_ := Aside0.mk (blk_below (g := gb302) (o := .cells #[.int .i64 t298, .int .i64 t299, .int .i64 t300] 144 (0, 0)) (by (with_reducible repeat (first | refine blk_drewN ?_ _ | refine blk_drew ?_ | refine blk_alloc ?_ _)); exact BK302.out) hb); have n3_ := Aside0.mk (below_step (by repeat (first | (with_reducible first | exact HB.out | apply below_alloc | apply pw_below_drewN | apply below_drew1 | refine below_set ?_ GE270.out | refine below_set ?_ GE272.out | refine below_set ?_ GE302.out) | exact HB.out)) hb); have n4_ := Aside0.mk (hbox); have n5_ := Aside0.mk ((by rw [hg]; exact (below_size (by repeat (first | (with_reducible first | exact HB.out | apply below_alloc | apply pw_below_drewN | apply below_drew1 | refine below_set ?_ GE270.out | refine below_set ?_ GE272.out | refine below_set ?_ GE302.out) | exact HB.out))) : w.heap.size ≤ gb307)); have n6_ := Aside0.mk ((by rw [hg]; exact (below_size (by repeat (first | (with_reducible first | exact HB.out | apply below_alloc | apply pw_below_drewN | apply below_drew1 | refine below_set ?_ GE270.out | refine below_set ?_ GE272.out | refine below_set ?_ GE302.out) | exact HB.out))) : w.heap.size ≤ gb307)); have n7_ := Aside0.mk ((by rw [hg]; exact Nat.ne_of_lt (blk_lt (g := gb270) (o := .cells #[.int .i64 0, .int .i64 0, .int .i64 0] 144 (0, 0)) (by (with_reducible repeat (first | refine blk_drewN ?_ _ | refine blk_drew ?_ | refine blk_alloc ?_ _)); exact BK270.out)) : gb270 ≠ gb307)); have n8_ := Aside0.mk ((by rw [hg]; exact Nat.ne_of_gt (blk_lt (g := gb270) (o := .cells #[.int .i64 0, .int .i64 0, .int .i64 0] 144 (0, 0)) (by (with_reducible repeat (first | refine blk_drewN ?_ _ | refine blk_drew ?_ | refine blk_alloc ?_ _)); exact BK270.out)) : gb307 ≠ gb270)); have n9_ := Aside0.mk ((by rw [hg]; exact Nat.ne_of_lt (blk_lt (g := gb272) (o := .cells #[.int .i64 ((rd_T91 l0 a1).f0), .int .i64 ((rd_T91 l0 a1).f1), .int .i64 ((rd_T91 l0 a1).f2)] 91 (0, 0)) (by (with_reducible repeat (first | refine blk_drewN ?_ _ | refine blk_drew ?_ | refine blk_alloc ?_ _)); exact BK272.out)) : gb272 ≠ gb307)); have n10_ := Aside0.mk ((by rw [hg]; exact Nat.ne_of_gt (blk_lt (g := gb272) (o := .cells #[.int .i64 ((rd_T91 l0 a1).f0), .int .i64 ((rd_T91 l0 a1).f1), .int .i64 ((rd_T91 l0 a1).f2)] 91 (0, 0)) (by (with_reducible repeat (first | refine blk_drewN ?_ _ | refine blk_drew ?_ | refine blk_alloc ?_ _)); exact BK272.out)) : gb307 ≠ gb272)); have n11_ := Aside0.mk ((by rw [hg]; exact Nat.ne_of_lt (blk_lt (g := gb302) (o := .cells #[.int .i64 t298, .int .i64 t299, .int .i64 t300] 144 (0, 0)) (by (with_reducible repeat (first | refine blk_drewN ?_ _ | refine blk_drew ?_ | refine blk_alloc ?_ _)); exact BK302.out)) : gb302 ≠ gb307)); have n12_ := Aside0.mk ((by rw [hg]; exact Nat.ne_of_gt (blk_lt (g := gb302) (o := .cells #[.int .i64 t298, .int .i64 t299, .int .i64 t300] 144 (0, 0)) (by (with_reducible repeat (first | refine blk_drewN ?_ _ | refine blk_drew ?_ | refine blk_alloc ?_ _)); exact BK302.out)) : gb307 ≠ gb302)); clear BK270; clear BK272; clear BK302; clear HB; have BK270 := n0_; have BK272 := n1_; have BK302 := n2_; have HB := n3_; have BK307 := n4_; have GW307 := n5_; have GE307 := n6_; have NB270_307 := n7_; have NB307_270 := n8_; have NB272_307 := n9_; have NB307_272 := n10_; have NB302_307 := n11_; have NB307_302 := n12_; clear n0_ n1_ n2_ n3_ n4_ n5_ n6_ n7_ n8_ n9_ n10_ n11_ n12_; clear hb hbox hg; have hnb127 := NB307_270.out; have hnc127 := NB270_307.out; have hnb128 := NB307_272.out; have hnc128 := NB272_307.out; have hnb129 := NB307_302.out; have hnc129 := NB302_307.out; have hcz130_0 : w126.cell? ⟨gb307, 0, none⟩ = some (.int .i64 0) := (blk_cell BK307.out 0).trans rfl; have hcz130_1 : w126.cell? ⟨gb307, 1, none⟩ = some (.int .i64 0) := (blk_cell BK307.out 1).trans rfl; have hcz130_2 : w126.cell? ⟨gb307, 2, none⟩ = some (.int .i64 0) := (blk_cell BK307.out 2).trans rfl; have hfz130_0 := blk_frozen BK307.out 0; have hfz130_1 := blk_frozen BK307.out 1; have hfz130_2 := blk_frozen BK307.out 2; have hcz131_0 : w126.cell? ⟨gb302, 0, none⟩ = some (.int .i64 t298) := (blk_cell BK302.out 0).trans rfl; have hcz131_1 : w126.cell? ⟨gb302, 1, none⟩ = some (.int .i64 t299) := (blk_cell BK302.out 1).trans rfl; have hcz131_2 : w126.cell? ⟨gb302, 2, none⟩ = some (.int .i64 t300) := (blk_cell BK302.out 2).trans rfl; have hfz131_0 := blk_frozen BK302.out 0; have hfz131_1 := blk_frozen BK302.out 1; have hfz131_2 := blk_frozen BK302.out 2; have hnb132 := NB272_270.out; have hnc132 := NB270_272.out; have hcz133_0 : w126.cell? ⟨gb272, 0, none⟩ = some (.int .i64 ((rd_T91 l0 a1).f0)) := (blk_cell BK272.out 0).trans rfl; have hcz133_1 : w126.cell? ⟨gb272, 1, none⟩ = some (.int .i64 ((rd_T91 l0 a1).f1)) := (blk_cell BK272.out 1).trans rfl; have hcz133_2 : w126.cell? ⟨gb272, 2, none⟩ = some (.int .i64 ((rd_T91 l0 a1).f2)) := (blk_cell BK272.out 2).trans rfl; have hfz133_0 := blk_frozen BK272.out 0; have hfz133_1 := blk_frozen BK272.out 1; have hfz133_2 := blk_frozen BK272.out 2) | ((with_reducible refine gate_callee (f := 126) rfl ?_); refine goesL_ (some 155) rfl rfl Tryz.func126 (by kernel_rfl) rfl #[.int .i64 ((rd_T91 l0 a1).f0), .agg #[.int .i64 t303, .int .i64 t304], .agg #[.int .i64 t298, .int .i64 t299]] rfl (by (try simp only [List.map_toArray, List.map_cons, List.map_nil]); first | done | rfl | (simp only [List.length_drop, List.length_take]; rfl)) ?_; (with_reducible refine (spinetref04_two.calls kj54 ((rd_T91 l0 a1).f0) t303 t304 t298 t299 t308 t309 t310 _ A116.out).mono ?_); rintro e w134 ⟨rfl, hb⟩; refine ⟨_, rfl, ?_⟩; have n0_ := Aside0.mk (blk_below (g := gb270) (o := .cells #[.int .i64 0, .int .i64 0, .int .i64 0] 144 (0, 0)) (by (with_reducible repeat (first | refine blk_drewN ?_ _ | refine blk_drew ?_ | refine blk_alloc ?_ _)); refine blk_far ?_ NB270_307.out _; (with_reducible repeat (first | refine blk_drewN ?_ _ | refine blk_drew ?_ | refine blk_alloc ?_ _)); refine blk_far ?_ NB270_307.out _; (with_reducible repeat (first | refine blk_drewN ?_ _ | refine blk_drew ?_ | refine blk_alloc ?_ _)); refine blk_far ?_ NB270_307.out _; (with_reducible repeat (first | refine blk_drewN ?_ _ | refine blk_drew ?_ | refine blk_alloc ?_ _)); exact BK270.out) hb); have n1_ := Aside0.mk (blk_below (g := gb272) (o := .cells #[.int .i64 ((rd_T91 l0 a1).f0), .int .i64 ((rd_T91 l0 a1).f1), .int .i64 ((rd_T91 l0 a1).f2)] 91 (0, 0)) (by (with_reducible repeat (first | refine blk_drewN ?_ _ | refine blk_drew ?_ | refine blk_alloc ?_ _)); refine blk_far ?_ NB272_307.out _; (with_reducible repeat (first | refine blk_drewN ?_ _ | refine blk_drew ?_ | refine blk_alloc ?_ _)); refine blk_far ?_ NB272_307.out _; (with_reducible repeat (first | refine blk_drewN ?_ _ | refine blk_drew ?_ | refine blk_alloc ?_ _)); refine blk_far ?_ NB272_307.out _; (with_reducible repeat (first | refine blk_drewN ?_ _ | refine blk_drew ?_ | refine blk_alloc ?_ _)); exact BK272.out) hb); have n2_ := Aside0.mk (blk_below (g := gb302) (o := .cells #[.int .i64 t298, .int .i64 t299, .int .i64 t300] 144 (0, 0)) (by (with_reducible repeat (first | refine blk_drewN ?_ _ | refine blk_drew ?_ | refine blk_alloc ?_ _)); refine blk_far ?_ NB302_307.out _; (with_reducible repeat (first | refine blk_drewN ?_ _ | refine blk_drew ?_ | refine blk_alloc ?_ _)); refine blk_far ?_ NB302_307.out _; (with_reducible repeat (first | refine blk_drewN ?_ _ | refine blk_drew ?_ | refine blk_alloc ?_ _)); refine blk_far ?_ NB302_307.out _; (with_reducible repeat (first | refine blk_drewN ?_ _ | refine blk_drew ?_ | refine blk_alloc ?_ _)); exact BK302.out) hb); have n3_ := Aside0.mk (blk_below (g := gb307) (o := .cells #[.int .i64 t303, .int .i64 t304, .int .i64 t305] 144 (0, 0)) (by (with_reducible repeat (first | refine blk_drewN ?_ _ | refine blk_drew ?_ | refine blk_alloc ?_ _)); refine blk_put (cs := #[.int .i64 t303, .int .i64 t304, .int .i64 0]) ?_ 2 _ rfl; (with_reducible repeat (first | refine blk_drewN ?_ _ | refine blk_drew ?_ | refine blk_alloc ?_ _)); refine blk_put (cs := #[.int .i64 t303, .int .i64 0, .int .i64 0]) ?_ 1 _ rfl; (with_reducible repeat (first | refine blk_drewN ?_ _ | refine blk_drew ?_ | refine blk_alloc ?_ _)); refine blk_put (cs := #[.int .i64 0, .int .i64 0, .int .i64 0]) ?_ 0 _ rfl; (with_reducible repeat (first | refine blk_drewN ?_ _ | refine blk_drew ?_ | refine blk_alloc ?_ _)); exact BK307.out) hb); have n4_ := Aside0.mk (below_step (by repeat (first | (with_reducible first | exact HB.out | apply below_alloc | apply pw_below_drewN | apply below_drew1 | refine below_set ?_ GE270.out | refine below_set ?_ GE272.out | refine below_set ?_ GE302.out | refine below_set ?_ GE307.out) | exact HB.out)) hb); clear BK270; clear BK272; clear BK302; clear BK307; clear HB; have BK270 := n0_; have BK272 := n1_; have BK302 := n2_; have BK307 := n3_; have HB := n4_; clear n0_ n1_ n2_ n3_ n4_; (try clear hb); (try clear hb2); (try clear hk); (try clear hi)) | ((with_reducible refine gate_dst (N := 19) rfl ?_); (try (refine gate_guard (by rfl) ?_; dsimp only)); refine box_event ?hg (N := 19) ?hd (cs := #[.int .i64 0, .int .i64 0, .int .i64 0]) (t := 144) ?hr ?_; (case hd => rfl); (case hg => rfl); (case hr => first | (go_simp; done) | (go_simp; rfl)); intro gb311 hg w135 hbox hb; have n0_ := Aside0.mk (blk_below (g := gb270) (o := .cells #[.int .i64 0, .int .i64 0, .int .i64 0] 144 (0, 0)) (by (with_reducible repeat (first | refine blk_drewN ?_ _ | refine blk_drew ?_ | refine blk_alloc ?_ _)); exact BK270.out) hb); have n1_ := Aside0.mk (blk_below (g := gb272) (o := .cells #[.int .i64 ((rd_T91 l0 a1).f0), .int .i64 ((rd_T91 l0 a1).f1), .int .i64 ((rd_T91 l0 a1).f2)] 91 (0, 0)) (by (with_reducible repeat (first | refine blk_drewN ?_ _ | refine blk_drew ?_ | refine blk_alloc ?_ _)); exact BK272.out) hb); have n2_ := Aside0.mk (blk_below (g := gb302) (o := .cells #[.int .i64 t298, .int .i64 t299, .int .i64 t300] 144 (0, 0)) (by (with_reducible repeat (first | refine blk_drewN ?_ _ | refine blk_drew ?_ | refine blk_alloc ?_ _)); exact BK302.out) hb); have n3_ := Aside0.mk (blk_below (g := gb307) (o := .cells #[.int .i64 t303, .int .i64 t304, .int .i64 t305] 144 (0, 0)) (by (with_reducible repeat (first | refine blk_drewN ?_ _ | refine blk_drew ?_ | refine blk_alloc ?_ _)); exact BK307.out) hb); have n4_ := Aside0.mk (below_step (by repeat (first | (with_reducible first | exact HB.out | apply below_alloc | apply pw_below_drewN | apply below_drew1 | refine below_set ?_ GE270.out | refine below_set ?_ GE272.out | refine below_set ?_ GE302.out | refine below_set ?_ GE307.out) | exact HB.out)) hb); have n5_ := Aside0.mk (hbox); have n6_ := Aside0.mk ((by rw [hg]; exact (below_size (by repeat (first | (with_reducible first | exact HB.out | apply below_alloc | apply pw_below_drewN | apply below_drew1 | refine below_set ?_ GE270.out | refine below_set ?_ GE272.out | refine below_set ?_ GE302.out | refine below_set ?_ GE307.out) | exact HB.out))) : w.heap.size ≤ gb311)); have n7_ := Aside0.mk ((by rw [hg]; exact (below_size (by repeat (first | (with_reducible first | exact HB.out | apply below_alloc | apply pw_below_drewN | apply below_drew1 | refine below_set ?_ GE270.out | refine below_set ?_ GE272.out | refine below_set ?_ GE302.out | refine below_set ?_ GE307.out) | exact HB.out))) : w.heap.size ≤ gb311)); have n8_ := Aside0.mk ((by rw [hg]; exact Nat.ne_of_lt (blk_lt (g := gb270) (o := .cells #[.int .i64 0, .int .i64 0, .int .i64 0] 144 (0, 0)) (by (with_reducible repeat (first | refine blk_drewN ?_ _ | refine blk_drew ?_ | refine blk_alloc ?_ _)); exact BK270.out)) : gb270 ≠ gb311)); have n9_ := Aside0.mk ((by rw [hg]; exact Nat.ne_of_gt (blk_lt (g := gb270) (o := .cells #[.int .i64 0, .int .i64 0, .int .i64 0] 144 (0, 0)) (by (with_reducible repeat (first | refine blk_drewN ?_ _ | refine blk_drew ?_ | refine blk_alloc ?_ _)); exact BK270.out)) : gb311 ≠ gb270)); have n10_ := Aside0.mk ((by rw [hg]; exact Nat.ne_of_lt (blk_lt (g := gb272) (o := .cells #[.int .i64 ((rd_T91 l0 a1).f0), .int .i64 ((rd_T91 l0 a1).f1), .int .i64 ((rd_T91 l0 a1).f2)] 91 (0, 0)) (by (with_reducible repeat (first | refine blk_drewN ?_ _ | refine blk_drew ?_ | refine blk_alloc ?_ _)); exact BK272.out)) : gb272 ≠ gb311)); have n11_ := Aside0.mk ((by rw [hg]; exact Nat.ne_of_gt (blk_lt (g := gb272) (o := .cells #[.int .i64 ((rd_T91 l0 a1).f0), .int .i64 ((rd_T91 l0 a1).f1), .int .i64 ((rd_T91 l0 a1).f2)] 91 (0, 0)) (by (with_reducible repeat (first | refine blk_drewN ?_ _ | refine blk_drew ?_ | refine blk_alloc ?_ _)); exact BK272.out)) : gb311 ≠ gb272)); have n12_ := Aside0.mk ((by rw [hg]; exact Nat.ne_of_lt (blk_lt (g := gb302) (o := .cells #[.int .i64 t298, .int .i64 t299, .int .i64 t300] 144 (0, 0)) (by (with_reducible repeat (first | refine blk_drewN ?_ _ | refine blk_drew ?_ | refine blk_alloc ?_ _)); exact BK302.out)) : gb302 ≠ gb311)); have n13_ := Aside0.mk ((by rw [hg]; exact Nat.ne_of_gt (blk_lt (g := gb302) (o := .cells #[.int .i64 t298, .int .i64 t299, .int .i64 t300] 144 (0, 0)) (by (with_reducible repeat (first | refine blk_drewN ?_ _ | refine blk_drew ?_ | refine blk_alloc ?_ _)); exact BK302.out)) : gb311 ≠ gb302)); have n14_ := Aside0.mk ((by rw [hg]; exact Nat.ne_of_lt (blk_lt (g := gb307) (o := .cells #[.int .i64 t303, .int .i64 t304, .int .i64 t305] 144 (0, 0)) (by (with_reducible repeat (first | refine blk_drewN ?_ _ | refine blk_drew ?_ | refine blk_alloc ?_ _)); exact BK307.out)) : gb307 ≠ gb311)); have n15_ := Aside0.mk ((by rw [hg]; exact Nat.ne_of_gt (blk_lt (g := gb307) (o := .cells #[.int .i64 t303, .int .i64 t304, .int .i64 t305] 144 (0, 0)) (by (with_reducible repeat (first | refine blk_drewN ?_ _ | refine blk_drew ?_ | refine blk_alloc ?_ _)); exact BK307.out)) : gb311 ≠ gb307)); clear BK270; clear BK272; clear BK302; clear BK307; clear HB; have BK270 := n0_; have BK272 := n1_; have BK302 := n2_; have BK307 := n3_; have HB := n4_; have BK311 := n5_; have GW311 := n6_; have GE311 := n7_; have NB270_311 := n8_; have NB311_270 := n9_; have NB272_311 := n10_; have NB311_272 := n11_; have NB302_311 := n12_; have NB311_302 := n13_; have NB307_311 := n14_; have NB311_307 := n15_; clear n0_ n1_ n2_ n3_ n4_ n5_ n6_ n7_ n8_ n9_ n10_ n11_ n12_ n13_ n14_ n15_; clear hb hbox hg; have hnb136 := NB311_270.out; have hnc136 := NB270_311.out; have hnb137 := NB311_272.out; have hnc137 := NB272_311.out; have hnb138 := NB311_302.out; have hnc138 := NB302_311.out; have hnb139 := NB311_307.out; have hnc139 := NB307_311.out; have hcz140_0 : w135.cell? ⟨gb311, 0, none⟩ = some (.int .i64 0) := (blk_cell BK311.out 0).trans rfl; have hcz140_1 : w135.cell? ⟨gb311, 1, none⟩ = some (.int .i64 0) := (blk_cell BK311.out 1).trans rfl; have hcz140_2 : w135.cell? ⟨gb311, 2, none⟩ = some (.int .i64 0) := (blk_cell BK311.out 2).trans rfl; have hfz140_0 := blk_frozen BK311.out 0; have hfz140_1 := blk_frozen BK311.out 1; have hfz140_2 := blk_frozen BK311.out 2) | ((with_reducible refine gate_callee (f := 123) rfl ?_); refine goesL_ (some 162) rfl rfl Tryz.func123 (by kernel_rfl) rfl #[.int .i64 0] rfl (by (try simp only [List.map_toArray, List.map_cons, List.map_nil]); first | done | rfl | (simp only [List.length_drop, List.length_take]; rfl)) ?_; (with_reducible refine (spinetref04_whole.calls 0 t312 t313 t314 _ A119.out).mono ?_); rintro e w141 ⟨rfl, hb⟩; refine ⟨_, rfl, ?_⟩; have n0_ := Aside0.mk (blk_below (g := gb270) (o := .cells #[.int .i64 0, .int .i64 0, .int .i64 0] 144 (0, 0)) (by (with_reducible repeat (first | refine blk_drewN ?_ _ | refine blk_drew ?_ | refine blk_alloc ?_ _)); refine blk_far ?_ NB270_311.out _; (with_reducible repeat (first | refine blk_drewN ?_ _ | refine blk_drew ?_ | refine blk_alloc ?_ _)); refine blk_far ?_ NB270_311.out _; (with_reducible repeat (first | refine blk_drewN ?_ _ | refine blk_drew ?_ | refine blk_alloc ?_ _)); refine blk_far ?_ NB270_311.out _; (with_reducible repeat (first | refine blk_drewN ?_ _ | refine blk_drew ?_ | refine blk_alloc ?_ _)); exact BK270.out) hb); have n1_ := Aside0.mk (blk_below (g := gb272) (o := .cells #[.int .i64 ((rd_T91 l0 a1).f0), .int .i64 ((rd_T91 l0 a1).f1), .int .i64 ((rd_T91 l0 a1).f2)] 91 (0, 0)) (by (with_reducible repeat (first | refine blk_drewN ?_ _ | refine blk_drew ?_ | refine blk_alloc ?_ _)); refine blk_far ?_ NB272_311.out _; (with_reducible repeat (first | refine blk_drewN ?_ _ | refine blk_drew ?_ | refine blk_alloc ?_ _)); refine blk_far ?_ NB272_311.out _; (with_reducible repeat (first | refine blk_drewN ?_ _ | refine blk_drew ?_ | refine blk_alloc ?_ _)); refine blk_far ?_ NB272_311.out _; (with_reducible repeat (first | refine blk_drewN ?_ _ | refine blk_drew ?_ | refine blk_alloc ?_ _)); exact BK272.out) hb); have n2_ := Aside0.mk (blk_below (g := gb302) (o := .cells #[.int .i64 t298, .int .i64 t299, .int .i64 t300] 144 (0, 0)) (by (with_reducible repeat (first | refine blk_drewN ?_ _ | refine blk_drew ?_ | refine blk_alloc ?_ _)); refine blk_far ?_ NB302_311.out _; (with_reducible repeat (first | refine blk_drewN ?_ _ | refine blk_drew ?_ | refine blk_alloc ?_ _)); refine blk_far ?_ NB302_311.out _; (with_reducible repeat (first | refine blk_drewN ?_ _ | refine blk_drew ?_ | refine blk_alloc ?_ _)); refine blk_far ?_ NB302_311.out _; (with_reducible repeat (first | refine blk_drewN ?_ _ | refine blk_drew ?_ | refine blk_alloc ?_ _)); exact BK302.out) hb); have n3_ := Aside0.mk (blk_below (g := gb307) (o := .cells #[.int .i64 t303, .int .i64 t304, .int .i64 t305] 144 (0, 0)) (by (with_reducible repeat (first | refine blk_drewN ?_ _ | refine blk_drew ?_ | refine blk_alloc ?_ _)); refine blk_far ?_ NB307_311.out _; (with_reducible repeat (first | refine blk_drewN ?_ _ | refine blk_drew ?_ | refine blk_alloc ?_ _)); refine blk_far ?_ NB307_311.out _; (with_reducible repeat (first | refine blk_drewN ?_ _ | refine blk_drew ?_ | refine blk_alloc ?_ _)); refine blk_far ?_ NB307_311.out _; (with_reducible repeat (first | refine blk_drewN ?_ _ | refine blk_drew ?_ | refine blk_alloc ?_ _)); exact BK307.out) hb); have n4_ := Aside0.mk (blk_below (g := gb311) (o := .cells #[.int .i64 t308, .int .i64 t309, .int .i64 t310] 144 (0, 0)) (by (with_reducible repeat (first | refine blk_drewN ?_ _ | refine blk_drew ?_ | refine blk_alloc ?_ _)); refine blk_put (cs := #[.int .i64 t308, .int .i64 t309, .int .i64 0]) ?_ 2 _ rfl; (with_reducible repeat (first | refine blk_drewN ?_ _ | refine blk_drew ?_ | refine blk_alloc ?_ _)); refine blk_put (cs := #[.int .i64 t308, .int .i64 0, .int .i64 0]) ?_ 1 _ rfl; (with_reducible repeat (first | refine blk_drewN ?_ _ | refine blk_drew ?_ | refine blk_alloc ?_ _)); refine blk_put (cs := #[.int .i64 0, .int .i64 0, .int .i64 0]) ?_ 0 _ rfl; (with_reducible repeat (first | refine blk_drewN ?_ _ | refine blk_drew ?_ | refine blk_alloc ?_ _)); exact BK311.out) hb); have n5_ := Aside0.mk (below_step (by repeat (first | (with_reducible first | exact HB.out | apply below_alloc | apply pw_below_drewN | apply below_drew1 | refine below_set ?_ GE270.out | refine below_set ?_ GE272.out | refine below_set ?_ GE302.out | refine below_set ?_ GE307.out | refine below_set ?_ GE311.out) | exact HB.out)) hb); clear BK270; clear BK272; clear BK302; clear BK307; clear BK311; clear HB; have BK270 := n0_; have BK272 := n1_; have BK302 := n2_; have BK307 := n3_; have BK311 := n4_; have HB := n5_; clear n0_ n1_ n2_ n3_ n4_ n5_; (try clear hb); (try clear hb2); (try clear hk); (try clear hi); have hcz142_0 : w141.cell? ⟨gb270, 0, none⟩ = some (.int .i64 0) := (blk_cell BK270.out 0).trans rfl; have hcz142_1 : w141.cell? ⟨gb270, 1, none⟩ = some (.int .i64 0) := (blk_cell BK270.out 1).trans rfl; have hcz142_2 : w141.cell? ⟨gb270, 2, none⟩ = some (.int .i64 0) := (blk_cell BK270.out 2).trans rfl; have hfz142_0 := blk_frozen BK270.out 0; have hfz142_1 := blk_frozen BK270.out 1; have hfz142_2 := blk_frozen BK270.out 2))
                              refine bodyPost_ret (results_ct rfl _ _ gb270 144 #[.int .i64 t312, .int .i64 t313, .int .i64 t314] (0, 0) _ rfl (by (with_reducible repeat (first | refine blk_drewN ?_ _ | refine blk_drew ?_ | refine blk_alloc ?_ _)); refine blk_put (cs := #[.int .i64 t312, .int .i64 t313, .int .i64 0]) ?_ 2 _ rfl; (with_reducible repeat (first | refine blk_drewN ?_ _ | refine blk_drew ?_ | refine blk_alloc ?_ _)); refine blk_put (cs := #[.int .i64 t312, .int .i64 0, .int .i64 0]) ?_ 1 _ rfl; (with_reducible repeat (first | refine blk_drewN ?_ _ | refine blk_drew ?_ | refine blk_alloc ?_ _)); refine blk_put (cs := #[.int .i64 0, .int .i64 0, .int .i64 0]) ?_ 0 _ rfl; (with_reducible repeat (first | refine blk_drewN ?_ _ | refine blk_drew ?_ | refine blk_alloc ?_ _)); exact BK270.out) Tryz.underlying144 rfl (by kernel_rfl)) rfl ?_
                              exact ⟨by first | rfl | (simp [errW_none, errW_some] <;> rfl) | (simp [*, errW_none, errW_some] <;> rfl), by repeat (first | (with_reducible first | exact HB.out | apply below_alloc | apply pw_below_drewN | apply below_drew1 | refine below_set ?_ GE270.out | refine below_set ?_ GE272.out | refine below_set ?_ GE302.out | refine below_set ?_ GE307.out | refine below_set ?_ GE311.out) | exact HB.out)⟩
                            · replace c118 := Bool.eq_false_iff.mpr c118
                              subst c118
                              have H1 : (some (t308, t309, t310, t306)) = some (r1, r2, r3, r4) := by rw [if_neg (show ¬ (false = true) by decide)] at H; exact H
                              clear H
                              have H := H1
                              clear H1
                              simp only [Option.some.injEq, Prod.mk.injEq] at H
                              obtain ⟨rfl, rfl, rfl, rfl⟩ := H
                              go_wp2_with (first | ((with_reducible refine gate_callee (f := 88) rfl ?_); refine goesL_ (some 126) rfl rfl Tryz.func88 (by kernel_rfl) rfl #[.slice (some ad271) l0.length c0, .int .i64 (wrap64 (a1 - 1)), .slice A2 l2.length c2, .int .i64 a3, .bool false] rfl (by (try simp only [List.map_toArray, List.map_cons, List.map_nil]); first | done | rfl | (simp only [List.length_drop, List.length_take]; rfl)) ?_; (with_reducible refine (ih kj54 (by have := HJ42.out; have := HJ54.out; omega) _ _ l0 (wrap64 (a1 - 1)) _ _ l2 a3 false t298 t299 t300 t301 _ ?side1 ?side2 ?side3 ?side4 A112.out).mono ?_); (case side1 => repeat (first | exact (Kd.C_below HR0.out HB.out) | (with_reducible refine Kd.C_alloc ?_ _) | (with_reducible refine Kd.C_drewN ?_ _) | (with_reducible refine Kd.C_drew ?_))); (case side2 => exact HC0.out); (case side3 => repeat (first | exact (Kd.C_below HR2.out HB.out) | (with_reducible refine Kd.C_alloc ?_ _) | (with_reducible refine Kd.C_drewN ?_ _) | (with_reducible refine Kd.C_drew ?_))); (case side4 => exact HC2.out); rintro e w143 ⟨rfl, hb⟩; refine ⟨_, rfl, ?_⟩; have n0_ := Aside0.mk (blk_below (g := gb270) (o := .cells #[.int .i64 0, .int .i64 0, .int .i64 0] 144 (0, 0)) (by (with_reducible repeat (first | refine blk_drewN ?_ _ | refine blk_drew ?_ | refine blk_alloc ?_ _)); exact BK270.out) hb); have n1_ := Aside0.mk (blk_below (g := gb272) (o := .cells #[.int .i64 ((rd_T91 l0 a1).f0), .int .i64 ((rd_T91 l0 a1).f1), .int .i64 ((rd_T91 l0 a1).f2)] 91 (0, 0)) (by (with_reducible repeat (first | refine blk_drewN ?_ _ | refine blk_drew ?_ | refine blk_alloc ?_ _)); exact BK272.out) hb); have n2_ := Aside0.mk (below_step (by repeat (first | (with_reducible first | exact HB.out | apply below_alloc | apply pw_below_drewN | apply below_drew1 | refine below_set ?_ GE270.out | refine below_set ?_ GE272.out) | exact HB.out)) hb); clear BK270; clear BK272; clear HB; have BK270 := n0_; have BK272 := n1_; have HB := n2_; clear n0_ n1_ n2_; (try clear hb); (try clear hb2); (try clear hk); (try clear hi)) | ((with_reducible refine gate_dst (N := 15) rfl ?_); (try (refine gate_guard (by rfl) ?_; dsimp only)); refine box_event ?hg (N := 15) ?hd (cs := #[.int .i64 0, .int .i64 0, .int .i64 0]) (t := 144) ?hr ?_; (case hd => rfl); (case hg => rfl); (case hr => first | (go_simp; done) | (go_simp; rfl)); intro gb302 hg w144 hbox hb; have n0_ := Aside0.mk (blk_below (g := gb270) (o := .cells #[.int .i64 0, .int .i64 0, .int .i64 0] 144 (0, 0)) (by (with_reducible repeat (first | refine blk_drewN ?_ _ | refine blk_drew ?_ | refine blk_alloc ?_ _)); exact BK270.out) hb); have n1_ := Aside0.mk (blk_below (g := gb272) (o := .cells #[.int .i64 ((rd_T91 l0 a1).f0), .int .i64 ((rd_T91 l0 a1).f1), .int .i64 ((rd_T91 l0 a1).f2)] 91 (0, 0)) (by (with_reducible repeat (first | refine blk_drewN ?_ _ | refine blk_drew ?_ | refine blk_alloc ?_ _)); exact BK272.out) hb); have n2_ := Aside0.mk (below_step (by repeat (first | (with_reducible first | exact HB.out | apply below_alloc | apply pw_below_drewN | apply below_drew1 | refine below_set ?_ GE270.out | refine below_set ?_ GE272.out) | exact HB.out)) hb); have n3_ := Aside0.mk (hbox); have n4_ := Aside0.mk ((by rw [hg]; exact (below_size (by repeat (first | (with_reducible first | exact HB.out | apply below_alloc | apply pw_below_drewN | apply below_drew1 | refine below_set ?_ GE270.out | refine below_set ?_ GE272.out) | exact HB.out))) : w.heap.size ≤ gb302)); have n5_ := Aside0.mk ((by rw [hg]; exact (below_size (by repeat (first | (with_reducible first | exact HB.out | apply below_alloc | apply pw_below_drewN | apply below_drew1 | refine below_set ?_ GE270.out | refine below_set ?_ GE272.out) | exact HB.out))) : w.heap.size ≤ gb302)); have n6_ := Aside0.mk ((by rw [hg]; exact Nat.ne_of_lt (blk_lt (g := gb270) (o := .cells #[.int .i64 0, .int .i64 0, .int .i64 0] 144 (0, 0)) (by (with_reducible repeat (first | refine blk_drewN ?_ _ | refine blk_drew ?_ | refine blk_alloc ?_ _)); exact BK270.out)) : gb270 ≠ gb302)); have n7_ := Aside0.mk ((by rw [hg]; exact Nat.ne_of_gt (blk_lt (g := gb270) (o := .cells #[.int .i64 0, .int .i64 0, .int .i64 0] 144 (0, 0)) (by (with_reducible repeat (first | refine blk_drewN ?_ _ | refine blk_drew ?_ | refine blk_alloc ?_ _)); exact BK270.out)) : gb302 ≠ gb270)); have n8_ := Aside0.mk ((by rw [hg]; exact Nat.ne_of_lt (blk_lt (g := gb272) (o := .cells #[.int .i64 ((rd_T91 l0 a1).f0), .int .i64 ((rd_T91 l0 a1).f1), .int .i64 ((rd_T91 l0 a1).f2)] 91 (0, 0)) (by (with_reducible repeat (first | refine blk_drewN ?_ _ | refine blk_drew ?_ | refine blk_alloc ?_ _)); exact BK272.out)) : gb272 ≠ gb302)); have n9_ := Aside0.mk ((by rw [hg]; exact Nat.ne_of_gt (blk_lt (g := gb272) (o := .cells #[.int .i64 ((rd_T91 l0 a1).f0), .int .i64 ((rd_T91 l0 a1).f1), .int .i64 ((rd_T91 l0 a1).f2)] 91 (0, 0)) (by (with_reducible repeat (first | refine blk_drewN ?_ _ | refine blk_drew ?_ | refine blk_alloc ?_ _)); exact BK272.out)) : gb302 ≠ gb272)); clear BK270; clear BK272; clear HB; have BK270 := n0_; have BK272 := n1_; have HB := n2_; have BK302 := n3_; have GW302 := n4_; have GE302 := n5_; have NB270_302 := n6_; have NB302_270 := n7_; have NB272_302 := n8_; have NB302_272 := n9_; clear n0_ n1_ n2_ n3_ n4_ n5_ n6_ n7_ n8_ n9_; clear hb hbox hg; have hnb145 := NB302_270.out; have hnc145 := NB270_302.out; have hnb146 := NB302_272.out; have hnc146 := NB272_302.out; have hcz147_0 : w144.cell? ⟨gb302, 0, none⟩ = some (.int .i64 0) := (blk_cell BK302.out 0).trans rfl; have hcz147_1 : w144.cell? ⟨gb302, 1, none⟩ = some (.int .i64 0) := (blk_cell BK302.out 1).trans rfl; have hcz147_2 : w144.cell? ⟨gb302, 2, none⟩ = some (.int .i64 0) := (blk_cell BK302.out 2).trans rfl; have hfz147_0 := blk_frozen BK302.out 0; have hfz147_1 := blk_frozen BK302.out 1; have hfz147_2 := blk_frozen BK302.out 2) | ((with_reducible refine gate_callee (f := 88) rfl ?_); refine goesL_ (some 136) rfl rfl Tryz.func88 (by kernel_rfl) rfl #[.slice (some ad271) l0.length c0, .int .i64 (wrap64 (t301 - 1)), .slice A2 l2.length c2, .int .i64 a3, .bool false] rfl (by (try simp only [List.map_toArray, List.map_cons, List.map_nil]); first | done | rfl | (simp only [List.length_drop, List.length_take]; rfl)) ?_; (with_reducible refine (ih kj54 (by have := HJ42.out; have := HJ54.out; omega) _ _ l0 (wrap64 (t301 - 1)) _ _ l2 a3 false t303 t304 t305 t306 _ ?side1 ?side2 ?side3 ?side4 A113.out).mono ?_); (case side1 => exact Kd.C_below HR0.out (by repeat (first | (with_reducible first | exact HB.out | apply below_alloc | apply pw_below_drewN | apply below_drew1 | refine below_set ?_ GE270.out | refine below_set ?_ GE272.out | refine below_set ?_ GE302.out) | exact HB.out))); (case side2 => exact HC0.out); (case side3 => exact Kd.C_below HR2.out (by repeat (first | (with_reducible first | exact HB.out | apply below_alloc | apply pw_below_drewN | apply below_drew1 | refine below_set ?_ GE270.out | refine below_set ?_ GE272.out | refine below_set ?_ GE302.out) | exact HB.out))); (case side4 => exact HC2.out); rintro e w148 ⟨rfl, hb⟩; refine ⟨_, rfl, ?_⟩; have n0_ := Aside0.mk (blk_below (g := gb270) (o := .cells #[.int .i64 0, .int .i64 0, .int .i64 0] 144 (0, 0)) (by (with_reducible repeat (first | refine blk_drewN ?_ _ | refine blk_drew ?_ | refine blk_alloc ?_ _)); refine blk_far ?_ NB270_302.out _; (with_reducible repeat (first | refine blk_drewN ?_ _ | refine blk_drew ?_ | refine blk_alloc ?_ _)); refine blk_far ?_ NB270_302.out _; (with_reducible repeat (first | refine blk_drewN ?_ _ | refine blk_drew ?_ | refine blk_alloc ?_ _)); refine blk_far ?_ NB270_302.out _; (with_reducible repeat (first | refine blk_drewN ?_ _ | refine blk_drew ?_ | refine blk_alloc ?_ _)); exact BK270.out) hb); have n1_ := Aside0.mk (blk_below (g := gb272) (o := .cells #[.int .i64 ((rd_T91 l0 a1).f0), .int .i64 ((rd_T91 l0 a1).f1), .int .i64 ((rd_T91 l0 a1).f2)] 91 (0, 0)) (by (with_reducible repeat (first | refine blk_drewN ?_ _ | refine blk_drew ?_ | refine blk_alloc ?_ _)); refine blk_far ?_ NB272_302.out _; (with_reducible repeat (first | refine blk_drewN ?_ _ | refine blk_drew ?_ | refine blk_alloc ?_ _)); refine blk_far ?_ NB272_302.out _; (with_reducible repeat (first | refine blk_drewN ?_ _ | refine blk_drew ?_ | refine blk_alloc ?_ _)); refine blk_far ?_ NB272_302.out _; (with_reducible repeat (first | refine blk_drewN ?_ _ | refine blk_drew ?_ | refine blk_alloc ?_ _)); exact BK272.out) hb); have n2_ := Aside0.mk (blk_below (g := gb302) (o := .cells #[.int .i64 t298, .int .i64 t299, .int .i64 t300] 144 (0, 0)) (by (with_reducible repeat (first | refine blk_drewN ?_ _ | refine blk_drew ?_ | refine blk_alloc ?_ _)); refine blk_put (cs := #[.int .i64 t298, .int .i64 t299, .int .i64 0]) ?_ 2 _ rfl; (with_reducible repeat (first | refine blk_drewN ?_ _ | refine blk_drew ?_ | refine blk_alloc ?_ _)); refine blk_put (cs := #[.int .i64 t298, .int .i64 0, .int .i64 0]) ?_ 1 _ rfl; (with_reducible repeat (first | refine blk_drewN ?_ _ | refine blk_drew ?_ | refine blk_alloc ?_ _)); refine blk_put (cs := #[.int .i64 0, .int .i64 0, .int .i64 0]) ?_ 0 _ rfl; (with_reducible repeat (first | refine blk_drewN ?_ _ | refine blk_drew ?_ | refine blk_alloc ?_ _)); exact BK302.out) hb); have n3_ := Aside0.mk (below_step (by repeat (first | (with_reducible first | exact HB.out | apply below_alloc | apply pw_below_drewN | apply below_drew1 | refine below_set ?_ GE270.out | refine below_set ?_ GE272.out | refine below_set ?_ GE302.out) | exact HB.out)) hb); clear BK270; clear BK272; clear BK302; clear HB; have BK270 := n0_; have BK272 := n1_; have BK302 := n2_; have HB := n3_; clear n0_ n1_ n2_ n3_; (try clear hb); (try clear hb2); (try clear hk); (try clear hi)) | ((with_reducible refine gate_dst (N := 17) rfl ?_); (try (refine gate_guard (by rfl) ?_; dsimp only)); refine box_event ?hg (N := 17) ?hd (cs := #[.int .i64 0, .int .i64 0, .int .i64 0]) (t := 144) ?hr ?_; (case hd => rfl); (case hg => rfl); (case hr => first | (go_simp; done) | (go_simp; rfl)); intro gb307 hg w149 hbox hb; have n0_ := Aside0.mk (blk_below (g := gb270) (o := .cells #[.int .i64 0, .int .i64 0, .int .i64 0] 144 (0, 0)) (by (with_reducible repeat (first | refine blk_drewN ?_ _ | refine blk_drew ?_ | refine blk_alloc ?_ _)); exact BK270.out) hb); have n1_ := Aside0.mk (blk_below (g := gb272) (o := .cells #[.int .i64 ((rd_T91 l0 a1).f0), .int .i64 ((rd_T91 l0 a1).f1), .int .i64 ((rd_T91 l0 a1).f2)] 91 (0, 0)) (by (with_reducible repeat (first | refine blk_drewN ?_ _ | refine blk_drew ?_ | refine blk_alloc ?_ _)); exact BK272.out) hb); have n2_ := Aside0.mk (blk_below (g := gb302) (o := .cells #[.int .i64 t298, .int .i64 t299, .int .i64 t300] 144 (0, 0)) (by (with_reducible repeat (first | refine blk_drewN ?_ _ | refine blk_drew ?_ | refine blk_alloc ?_ _)); exact BK302.out) hb); have n3_ := Aside0.mk (below_step (by repeat (first | (with_reducible first | exact HB.out | apply below_alloc | apply pw_below_drewN | apply below_drew1 | refine below_set ?_ GE270.out | refine below_set ?_ GE272.out | refine below_set ?_ GE302.out) | exact HB.out)) hb); have n4_ := Aside0.mk (hbox); have n5_ := Aside0.mk ((by rw [hg]; exact (below_size (by repeat (first | (with_reducible first | exact HB.out | apply below_alloc | apply pw_below_drewN | apply below_drew1 | refine below_set ?_ GE270.out | refine below_set ?_ GE272.out | refine below_set ?_ GE302.out) | exact HB.out))) : w.heap.size ≤ gb307)); have n6_ := Aside0.mk ((by rw [hg]; exact (below_size (by repeat (first | (with_reducible first | exact HB.out | apply below_alloc | apply pw_below_drewN | apply below_drew1 | refine below_set ?_ GE270.out | refine below_set ?_ GE272.out | refine below_set ?_ GE302.out) | exact HB.out))) : w.heap.size ≤ gb307)); have n7_ := Aside0.mk ((by rw [hg]; exact Nat.ne_of_lt (blk_lt (g := gb270) (o := .cells #[.int .i64 0, .int .i64 0, .int .i64 0] 144 (0, 0)) (by (with_reducible repeat (first | refine blk_drewN ?_ _ | refine blk_drew ?_ | refine blk_alloc ?_ _)); exact BK270.out)) : gb270 ≠ gb307)); have n8_ := Aside0.mk ((by rw [hg]; exact Nat.ne_of_gt (blk_lt (g := gb270) (o := .cells #[.int .i64 0, .int .i64 0, .int .i64 0] 144 (0, 0)) (by (with_reducible repeat (first | refine blk_drewN ?_ _ | refine blk_drew ?_ | refine blk_alloc ?_ _)); exact BK270.out)) : gb307 ≠ gb270)); have n9_ := Aside0.mk ((by rw [hg]; exact Nat.ne_of_lt (blk_lt (g := gb272) (o := .cells #[.int .i64 ((rd_T91 l0 a1).f0), .int .i64 ((rd_T91 l0 a1).f1), .int .i64 ((rd_T91 l0 a1).f2)] 91 (0, 0)) (by (with_reducible repeat (first | refine blk_drewN ?_ _ | refine blk_drew ?_ | refine blk_alloc ?_ _)); exact BK272.out)) : gb272 ≠ gb307)); have n10_ := Aside0.mk ((by rw [hg]; exact Nat.ne_of_gt (blk_lt (g := gb272) (o := .cells #[.int .i64 ((rd_T91 l0 a1).f0), .int .i64 ((rd_T91 l0 a1).f1), .int .i64 ((rd_T91 l0 a1).f2)] 91 (0, 0)) (by (with_reducible repeat (first | refine blk_drewN ?_ _ | refine blk_drew ?_ | refine blk_alloc ?_ _)); exact BK272.out)) : gb307 ≠ gb272)); have n11_ := Aside0.mk ((by rw [hg]; exact Nat.ne_of_lt (blk_lt (g := gb302) (o := .cells #[.int .i64 t298, .int .i64 t299, .int .i64 t300] 144 (0, 0)) (by (with_reducible repeat (first | refine blk_drewN ?_ _ | refine blk_drew ?_ | refine blk_alloc ?_ _)); exact BK302.out)) : gb302 ≠ gb307)); have n12_ := Aside0.mk ((by rw [hg]; exact Nat.ne_of_gt (blk_lt (g := gb302) (o := .cells #[.int .i64 t298, .int .i64 t299, .int .i64 t300] 144 (0, 0)) (by (with_reducible repeat (first | refine blk_drewN ?_ _ | refine blk_drew ?_ | refine blk_alloc ?_ _)); exact BK302.out)) : gb307 ≠ gb302)); clear BK270; clear BK272; clear BK302; clear HB; have BK270 := n0_; have BK272 := n1_; have BK302 := n2_; have HB := n3_; have BK307 := n4_; have GW307 := n5_; have GE307 := n6_; have NB270_307 := n7_; have NB307_270 := n8_; have NB272_307 := n9_; have NB307_272 := n10_; have NB302_307 := n11_; have NB307_302 := n12_; clear n0_ n1_ n2_ n3_ n4_ n5_ n6_ n7_ n8_ n9_ n10_ n11_ n12_; clear hb hbox hg; have hnb150 := NB307_270.out; have hnc150 := NB270_307.out; have hnb151 := NB307_272.out; have hnc151 := NB272_307.out; have hnb152 := NB307_302.out; have hnc152 := NB302_307.out; have hcz153_0 : w149.cell? ⟨gb307, 0, none⟩ = some (.int .i64 0) := (blk_cell BK307.out 0).trans rfl; have hcz153_1 : w149.cell? ⟨gb307, 1, none⟩ = some (.int .i64 0) := (blk_cell BK307.out 1).trans rfl; have hcz153_2 : w149.cell? ⟨gb307, 2, none⟩ = some (.int .i64 0) := (blk_cell BK307.out 2).trans rfl; have hfz153_0 := blk_frozen BK307.out 0; have hfz153_1 := blk_frozen BK307.out 1; have hfz153_2 := blk_frozen BK307.out 2; have hcz154_0 : w149.cell? ⟨gb302, 0, none⟩ = some (.int .i64 t298) := (blk_cell BK302.out 0).trans rfl; have hcz154_1 : w149.cell? ⟨gb302, 1, none⟩ = some (.int .i64 t299) := (blk_cell BK302.out 1).trans rfl; have hcz154_2 : w149.cell? ⟨gb302, 2, none⟩ = some (.int .i64 t300) := (blk_cell BK302.out 2).trans rfl; have hfz154_0 := blk_frozen BK302.out 0; have hfz154_1 := blk_frozen BK302.out 1; have hfz154_2 := blk_frozen BK302.out 2; have hnb155 := NB272_270.out; have hnc155 := NB270_272.out; have hcz156_0 : w149.cell? ⟨gb272, 0, none⟩ = some (.int .i64 ((rd_T91 l0 a1).f0)) := (blk_cell BK272.out 0).trans rfl; have hcz156_1 : w149.cell? ⟨gb272, 1, none⟩ = some (.int .i64 ((rd_T91 l0 a1).f1)) := (blk_cell BK272.out 1).trans rfl; have hcz156_2 : w149.cell? ⟨gb272, 2, none⟩ = some (.int .i64 ((rd_T91 l0 a1).f2)) := (blk_cell BK272.out 2).trans rfl; have hfz156_0 := blk_frozen BK272.out 0; have hfz156_1 := blk_frozen BK272.out 1; have hfz156_2 := blk_frozen BK272.out 2) | ((with_reducible refine gate_callee (f := 126) rfl ?_); refine goesL_ (some 155) rfl rfl Tryz.func126 (by kernel_rfl) rfl #[.int .i64 ((rd_T91 l0 a1).f0), .agg #[.int .i64 t303, .int .i64 t304], .agg #[.int .i64 t298, .int .i64 t299]] rfl (by (try simp only [List.map_toArray, List.map_cons, List.map_nil]); first | done | rfl | (simp only [List.length_drop, List.length_take]; rfl)) ?_; (with_reducible refine (spinetref04_two.calls kj54 ((rd_T91 l0 a1).f0) t303 t304 t298 t299 t308 t309 t310 _ A116.out).mono ?_); rintro e w157 ⟨rfl, hb⟩; refine ⟨_, rfl, ?_⟩; have n0_ := Aside0.mk (blk_below (g := gb270) (o := .cells #[.int .i64 0, .int .i64 0, .int .i64 0] 144 (0, 0)) (by (with_reducible repeat (first | refine blk_drewN ?_ _ | refine blk_drew ?_ | refine blk_alloc ?_ _)); refine blk_far ?_ NB270_307.out _; (with_reducible repeat (first | refine blk_drewN ?_ _ | refine blk_drew ?_ | refine blk_alloc ?_ _)); refine blk_far ?_ NB270_307.out _; (with_reducible repeat (first | refine blk_drewN ?_ _ | refine blk_drew ?_ | refine blk_alloc ?_ _)); refine blk_far ?_ NB270_307.out _; (with_reducible repeat (first | refine blk_drewN ?_ _ | refine blk_drew ?_ | refine blk_alloc ?_ _)); exact BK270.out) hb); have n1_ := Aside0.mk (blk_below (g := gb272) (o := .cells #[.int .i64 ((rd_T91 l0 a1).f0), .int .i64 ((rd_T91 l0 a1).f1), .int .i64 ((rd_T91 l0 a1).f2)] 91 (0, 0)) (by (with_reducible repeat (first | refine blk_drewN ?_ _ | refine blk_drew ?_ | refine blk_alloc ?_ _)); refine blk_far ?_ NB272_307.out _; (with_reducible repeat (first | refine blk_drewN ?_ _ | refine blk_drew ?_ | refine blk_alloc ?_ _)); refine blk_far ?_ NB272_307.out _; (with_reducible repeat (first | refine blk_drewN ?_ _ | refine blk_drew ?_ | refine blk_alloc ?_ _)); refine blk_far ?_ NB272_307.out _; (with_reducible repeat (first | refine blk_drewN ?_ _ | refine blk_drew ?_ | refine blk_alloc ?_ _)); exact BK272.out) hb); have n2_ := Aside0.mk (blk_below (g := gb302) (o := .cells #[.int .i64 t298, .int .i64 t299, .int .i64 t300] 144 (0, 0)) (by (with_reducible repeat (first | refine blk_drewN ?_ _ | refine blk_drew ?_ | refine blk_alloc ?_ _)); refine blk_far ?_ NB302_307.out _; (with_reducible repeat (first | refine blk_drewN ?_ _ | refine blk_drew ?_ | refine blk_alloc ?_ _)); refine blk_far ?_ NB302_307.out _; (with_reducible repeat (first | refine blk_drewN ?_ _ | refine blk_drew ?_ | refine blk_alloc ?_ _)); refine blk_far ?_ NB302_307.out _; (with_reducible repeat (first | refine blk_drewN ?_ _ | refine blk_drew ?_ | refine blk_alloc ?_ _)); exact BK302.out) hb); have n3_ := Aside0.mk (blk_below (g := gb307) (o := .cells #[.int .i64 t303, .int .i64 t304, .int .i64 t305] 144 (0, 0)) (by (with_reducible repeat (first | refine blk_drewN ?_ _ | refine blk_drew ?_ | refine blk_alloc ?_ _)); refine blk_put (cs := #[.int .i64 t303, .int .i64 t304, .int .i64 0]) ?_ 2 _ rfl; (with_reducible repeat (first | refine blk_drewN ?_ _ | refine blk_drew ?_ | refine blk_alloc ?_ _)); refine blk_put (cs := #[.int .i64 t303, .int .i64 0, .int .i64 0]) ?_ 1 _ rfl; (with_reducible repeat (first | refine blk_drewN ?_ _ | refine blk_drew ?_ | refine blk_alloc ?_ _)); refine blk_put (cs := #[.int .i64 0, .int .i64 0, .int .i64 0]) ?_ 0 _ rfl; (with_reducible repeat (first | refine blk_drewN ?_ _ | refine blk_drew ?_ | refine blk_alloc ?_ _)); exact BK307.out) hb); have n4_ := Aside0.mk (below_step (by repeat (first | (with_reducible first | exact HB.out | apply below_alloc | apply pw_below_drewN | apply below_drew1 | refine below_set ?_ GE270.out | refine below_set ?_ GE272.out | refine below_set ?_ GE302.out | refine below_set ?_ GE307.out) | exact HB.out)) hb); clear BK270; clear BK272; clear BK302; clear BK307; clear HB; have BK270 := n0_; have BK272 := n1_; have BK302 := n2_; have BK307 := n3_; have HB := n4_; clear n0_ n1_ n2_ n3_ n4_; (try clear hb); (try clear hb2); (try clear hk); (try clear hi)) | ((with_reducible refine gate_dst (N := 19) rfl ?_); (try (refine gate_guard (by rfl) ?_; dsimp only)); refine box_event ?hg (N := 19) ?hd (cs := #[.int .i64 0, .int .i64 0, .int .i64 0]) (t := 144) ?hr ?_; (case hd => rfl); (case hg => rfl); (case hr => first | (go_simp; done) | (go_simp; rfl)); intro gb311 hg w158 hbox hb; have n0_ := Aside0.mk (blk_below (g := gb270) (o := .cells #[.int .i64 0, .int .i64 0, .int .i64 0] 144 (0, 0)) (by (with_reducible repeat (first | refine blk_drewN ?_ _ | refine blk_drew ?_ | refine blk_alloc ?_ _)); exact BK270.out) hb); have n1_ := Aside0.mk (blk_below (g := gb272) (o := .cells #[.int .i64 ((rd_T91 l0 a1).f0), .int .i64 ((rd_T91 l0 a1).f1), .int .i64 ((rd_T91 l0 a1).f2)] 91 (0, 0)) (by (with_reducible repeat (first | refine blk_drewN ?_ _ | refine blk_drew ?_ | refine blk_alloc ?_ _)); exact BK272.out) hb); have n2_ := Aside0.mk (blk_below (g := gb302) (o := .cells #[.int .i64 t298, .int .i64 t299, .int .i64 t300] 144 (0, 0)) (by (with_reducible repeat (first | refine blk_drewN ?_ _ | refine blk_drew ?_ | refine blk_alloc ?_ _)); exact BK302.out) hb); have n3_ := Aside0.mk (blk_below (g := gb307) (o := .cells #[.int .i64 t303, .int .i64 t304, .int .i64 t305] 144 (0, 0)) (by (with_reducible repeat (first | refine blk_drewN ?_ _ | refine blk_drew ?_ | refine blk_alloc ?_ _)); exact BK307.out) hb); have n4_ := Aside0.mk (below_step (by repeat (first | (with_reducible first | exact HB.out | apply below_alloc | apply pw_below_drewN | apply below_drew1 | refine below_set ?_ GE270.out | refine below_set ?_ GE272.out | refine below_set ?_ GE302.out | refine below_set ?_ GE307.out) | exact HB.out)) hb); have n5_ := Aside0.mk (hbox); have n6_ := Aside0.mk ((by rw [hg]; exact (below_size (by repeat (first | (with_reducible first | exact HB.out | apply below_alloc | apply pw_below_drewN | apply below_drew1 | refine below_set ?_ GE270.out | refine below_set ?_ GE272.out | refine below_set ?_ GE302.out | refine below_set ?_ GE307.out) | exact HB.out))) : w.heap.size ≤ gb311)); have n7_ := Aside0.mk ((by rw [hg]; exact (below_size (by repeat (first | (with_reducible first | exact HB.out | apply below_alloc | apply pw_below_drewN | apply below_drew1 | refine below_set ?_ GE270.out | refine below_set ?_ GE272.out | refine below_set ?_ GE302.out | refine below_set ?_ GE307.out) | exact HB.out))) : w.heap.size ≤ gb311)); have n8_ := Aside0.mk ((by rw [hg]; exact Nat.ne_of_lt (blk_lt (g := gb270) (o := .cells #[.int .i64 0, .int .i64 0, .int .i64 0] 144 (0, 0)) (by (with_reducible repeat (first | refine blk_drewN ?_ _ | refine blk_drew ?_ | refine blk_alloc ?_ _)); exact BK270.out)) : gb270 ≠ gb311)); have n9_ := Aside0.mk ((by rw [hg]; exact Nat.ne_of_gt (blk_lt (g := gb270) (o := .cells #[.int .i64 0, .int .i64 0, .int .i64 0] 144 (0, 0)) (by (with_reducible repeat (first | refine blk_drewN ?_ _ | refine blk_drew ?_ | refine blk_alloc ?_ _)); exact BK270.out)) : gb311 ≠ gb270)); have n10_ := Aside0.mk ((by rw [hg]; exact Nat.ne_of_lt (blk_lt (g := gb272) (o := .cells #[.int .i64 ((rd_T91 l0 a1).f0), .int .i64 ((rd_T91 l0 a1).f1), .int .i64 ((rd_T91 l0 a1).f2)] 91 (0, 0)) (by (with_reducible repeat (first | refine blk_drewN ?_ _ | refine blk_drew ?_ | refine blk_alloc ?_ _)); exact BK272.out)) : gb272 ≠ gb311)); have n11_ := Aside0.mk ((by rw [hg]; exact Nat.ne_of_gt (blk_lt (g := gb272) (o := .cells #[.int .i64 ((rd_T91 l0 a1).f0), .int .i64 ((rd_T91 l0 a1).f1), .int .i64 ((rd_T91 l0 a1).f2)] 91 (0, 0)) (by (with_reducible repeat (first | refine blk_drewN ?_ _ | refine blk_drew ?_ | refine blk_alloc ?_ _)); exact BK272.out)) : gb311 ≠ gb272)); have n12_ := Aside0.mk ((by rw [hg]; exact Nat.ne_of_lt (blk_lt (g := gb302) (o := .cells #[.int .i64 t298, .int .i64 t299, .int .i64 t300] 144 (0, 0)) (by (with_reducible repeat (first | refine blk_drewN ?_ _ | refine blk_drew ?_ | refine blk_alloc ?_ _)); exact BK302.out)) : gb302 ≠ gb311)); have n13_ := Aside0.mk ((by rw [hg]; exact Nat.ne_of_gt (blk_lt (g := gb302) (o := .cells #[.int .i64 t298, .int .i64 t299, .int .i64 t300] 144 (0, 0)) (by (with_reducible repeat (first | refine blk_drewN ?_ _ | refine blk_drew ?_ | refine blk_alloc ?_ _)); exact BK302.out)) : gb311 ≠ gb302)); have n14_ := Aside0.mk ((by rw [hg]; exact Nat.ne_of_lt (blk_lt (g := gb307) (o := .cells #[.int .i64 t303, .int .i64 t304, .int .i64 t305] 144 (0, 0)) (by (with_reducible repeat (first | refine blk_drewN ?_ _ | refine blk_drew ?_ | refine blk_alloc ?_ _)); exact BK307.out)) : gb307 ≠ gb311)); have n15_ := Aside0.mk ((by rw [hg]; exact Nat.ne_of_gt (blk_lt (g := gb307) (o := .cells #[.int .i64 t303, .int .i64 t304, .int .i64 t305] 144 (0, 0)) (by (with_reducible repeat (first | refine blk_drewN ?_ _ | refine blk_drew ?_ | refine blk_alloc ?_ _)); exact BK307.out)) : gb311 ≠ gb307)); clear BK270; clear BK272; clear BK302; clear BK307; clear HB; have BK270 := n0_; have BK272 := n1_; have BK302 := n2_; have BK307 := n3_; have HB := n4_; have BK311 := n5_; have GW311 := n6_; have GE311 := n7_; have NB270_311 := n8_; have NB311_270 := n9_; have NB272_311 := n10_; have NB311_272 := n11_; have NB302_311 := n12_; have NB311_302 := n13_; have NB307_311 := n14_; have NB311_307 := n15_; clear n0_ n1_ n2_ n3_ n4_ n5_ n6_ n7_ n8_ n9_ n10_ n11_ n12_ n13_ n14_ n15_; clear hb hbox hg; have hnb159 := NB311_270.out; have hnc159 := NB270_311.out; have hnb160 := NB311_272.out; have hnc160 := NB272_311.out; have hnb161 := NB311_302.out; have hnc161 := NB302_311.out; have hnb162 := NB311_307.out; have hnc162 := NB307_311.out; have hcz163_0 : w158.cell? ⟨gb311, 0, none⟩ = some (.int .i64 0) := (blk_cell BK311.out 0).trans rfl; have hcz163_1 : w158.cell? ⟨gb311, 1, none⟩ = some (.int .i64 0) := (blk_cell BK311.out 1).trans rfl; have hcz163_2 : w158.cell? ⟨gb311, 2, none⟩ = some (.int .i64 0) := (blk_cell BK311.out 2).trans rfl; have hfz163_0 := blk_frozen BK311.out 0; have hfz163_1 := blk_frozen BK311.out 1; have hfz163_2 := blk_frozen BK311.out 2; have hcz164_0 : w158.cell? ⟨gb270, 0, none⟩ = some (.int .i64 0) := (blk_cell BK270.out 0).trans rfl; have hcz164_1 : w158.cell? ⟨gb270, 1, none⟩ = some (.int .i64 0) := (blk_cell BK270.out 1).trans rfl; have hcz164_2 : w158.cell? ⟨gb270, 2, none⟩ = some (.int .i64 0) := (blk_cell BK270.out 2).trans rfl; have hfz164_0 := blk_frozen BK270.out 0; have hfz164_1 := blk_frozen BK270.out 1; have hfz164_2 := blk_frozen BK270.out 2))
                              refine bodyPost_ret (results_ct rfl _ _ gb270 144 #[.int .i64 t308, .int .i64 t309, .int .i64 t310] (0, 0) _ rfl (by (with_reducible repeat (first | refine blk_drewN ?_ _ | refine blk_drew ?_ | refine blk_alloc ?_ _)); refine blk_put (cs := #[.int .i64 t308, .int .i64 t309, .int .i64 0]) ?_ 2 _ rfl; (with_reducible repeat (first | refine blk_drewN ?_ _ | refine blk_drew ?_ | refine blk_alloc ?_ _)); refine blk_put (cs := #[.int .i64 t308, .int .i64 0, .int .i64 0]) ?_ 1 _ rfl; (with_reducible repeat (first | refine blk_drewN ?_ _ | refine blk_drew ?_ | refine blk_alloc ?_ _)); refine blk_put (cs := #[.int .i64 0, .int .i64 0, .int .i64 0]) ?_ 0 _ rfl; (with_reducible repeat (first | refine blk_drewN ?_ _ | refine blk_drew ?_ | refine blk_alloc ?_ _)); refine blk_far ?_ NB270_311.out _; (with_reducible repeat (first | refine blk_drewN ?_ _ | refine blk_drew ?_ | refine blk_alloc ?_ _)); refine blk_far ?_ NB270_311.out _; (with_reducible repeat (first | refine blk_drewN ?_ _ | refine blk_drew ?_ | refine blk_alloc ?_ _)); refine blk_far ?_ NB270_311.out _; (with_reducible repeat (first | refine blk_drewN ?_ _ | refine blk_drew ?_ | refine blk_alloc ?_ _)); exact BK270.out) Tryz.underlying144 rfl (by kernel_rfl)) rfl ?_
                              exact ⟨by first | rfl | (simp [errW_none, errW_some] <;> rfl) | (simp [*, errW_none, errW_some] <;> rfl), by repeat (first | (with_reducible first | exact HB.out | apply below_alloc | apply pw_below_drewN | apply below_drew1 | refine below_set ?_ GE270.out | refine below_set ?_ GE272.out | refine below_set ?_ GE302.out | refine below_set ?_ GE307.out | refine below_set ?_ GE311.out) | exact HB.out)⟩
                          · rw [if_neg c117] at H
                            have c117b0 : (t310 == 9) = false := beq_eq_false_iff_ne.mpr c117
                            have c117b1 : (t310 != 9) = true := bne_iff_ne.mpr c117
                            simp only [Option.some.injEq, Prod.mk.injEq] at H
                            obtain ⟨rfl, rfl, rfl, rfl⟩ := H
                            go_wp2_with (first | ((with_reducible refine gate_callee (f := 88) rfl ?_); refine goesL_ (some 126) rfl rfl Tryz.func88 (by kernel_rfl) rfl #[.slice (some ad271) l0.length c0, .int .i64 (wrap64 (a1 - 1)), .slice A2 l2.length c2, .int .i64 a3, .bool a4] rfl (by (try simp only [List.map_toArray, List.map_cons, List.map_nil]); first | done | rfl | (simp only [List.length_drop, List.length_take]; rfl)) ?_; (with_reducible refine (ih kj54 (by have := HJ42.out; have := HJ54.out; omega) _ _ l0 (wrap64 (a1 - 1)) _ _ l2 a3 a4 t298 t299 t300 t301 _ ?side1 ?side2 ?side3 ?side4 A112.out).mono ?_); (case side1 => repeat (first | exact (Kd.C_below HR0.out HB.out) | (with_reducible refine Kd.C_alloc ?_ _) | (with_reducible refine Kd.C_drewN ?_ _) | (with_reducible refine Kd.C_drew ?_))); (case side2 => exact HC0.out); (case side3 => repeat (first | exact (Kd.C_below HR2.out HB.out) | (with_reducible refine Kd.C_alloc ?_ _) | (with_reducible refine Kd.C_drewN ?_ _) | (with_reducible refine Kd.C_drew ?_))); (case side4 => exact HC2.out); rintro e w165 ⟨rfl, hb⟩; refine ⟨_, rfl, ?_⟩; have n0_ := Aside0.mk (blk_below (g := gb270) (o := .cells #[.int .i64 0, .int .i64 0, .int .i64 0] 144 (0, 0)) (by (with_reducible repeat (first | refine blk_drewN ?_ _ | refine blk_drew ?_ | refine blk_alloc ?_ _)); exact BK270.out) hb); have n1_ := Aside0.mk (blk_below (g := gb272) (o := .cells #[.int .i64 ((rd_T91 l0 a1).f0), .int .i64 ((rd_T91 l0 a1).f1), .int .i64 ((rd_T91 l0 a1).f2)] 91 (0, 0)) (by (with_reducible repeat (first | refine blk_drewN ?_ _ | refine blk_drew ?_ | refine blk_alloc ?_ _)); exact BK272.out) hb); have n2_ := Aside0.mk (below_step (by repeat (first | (with_reducible first | exact HB.out | apply below_alloc | apply pw_below_drewN | apply below_drew1 | refine below_set ?_ GE270.out | refine below_set ?_ GE272.out) | exact HB.out)) hb); clear BK270; clear BK272; clear HB; have BK270 := n0_; have BK272 := n1_; have HB := n2_; clear n0_ n1_ n2_; (try clear hb); (try clear hb2); (try clear hk); (try clear hi)) | ((with_reducible refine gate_dst (N := 15) rfl ?_); (try (refine gate_guard (by rfl) ?_; dsimp only)); refine box_event ?hg (N := 15) ?hd (cs := #[.int .i64 0, .int .i64 0, .int .i64 0]) (t := 144) ?hr ?_; (case hd => rfl); (case hg => rfl); (case hr => first | (go_simp; done) | (go_simp; rfl)); intro gb302 hg w166 hbox hb; have n0_ := Aside0.mk (blk_below (g := gb270) (o := .cells #[.int .i64 0, .int .i64 0, .int .i64 0] 144 (0, 0)) (by (with_reducible repeat (first | refine blk_drewN ?_ _ | refine blk_drew ?_ | refine blk_alloc ?_ _)); exact BK270.out) hb); have n1_ := Aside0.mk (blk_below (g := gb272) (o := .cells #[.int .i64 ((rd_T91 l0 a1).f0), .int .i64 ((rd_T91 l0 a1).f1), .int .i64 ((rd_T91 l0 a1).f2)] 91 (0, 0)) (by (with_reducible repeat (first | refine blk_drewN ?_ _ | refine blk_drew ?_ | refine blk_alloc ?_ _)); exact BK272.out) hb); have n2_ := Aside0.mk (below_step (by repeat (first | (with_reducible first | exact HB.out | apply below_alloc | apply pw_below_drewN | apply below_drew1 | refine below_set ?_ GE270.out | refine below_set ?_ GE272.out) | exact HB.out)) hb); have n3_ := Aside0.mk (hbox); have n4_ := Aside0.mk ((by rw [hg]; exact (below_size (by repeat (first | (with_reducible first | exact HB.out | apply below_alloc | apply pw_below_drewN | apply below_drew1 | refine below_set ?_ GE270.out | refine below_set ?_ GE272.out) | exact HB.out))) : w.heap.size ≤ gb302)); have n5_ := Aside0.mk ((by rw [hg]; exact (below_size (by repeat (first | (with_reducible first | exact HB.out | apply below_alloc | apply pw_below_drewN | apply below_drew1 | refine below_set ?_ GE270.out | refine below_set ?_ GE272.out) | exact HB.out))) : w.heap.size ≤ gb302)); have n6_ := Aside0.mk ((by rw [hg]; exact Nat.ne_of_lt (blk_lt (g := gb270) (o := .cells #[.int .i64 0, .int .i64 0, .int .i64 0] 144 (0, 0)) (by (with_reducible repeat (first | refine blk_drewN ?_ _ | refine blk_drew ?_ | refine blk_alloc ?_ _)); exact BK270.out)) : gb270 ≠ gb302)); have n7_ := Aside0.mk ((by rw [hg]; exact Nat.ne_of_gt (blk_lt (g := gb270) (o := .cells #[.int .i64 0, .int .i64 0, .int .i64 0] 144 (0, 0)) (by (with_reducible repeat (first | refine blk_drewN ?_ _ | refine blk_drew ?_ | refine blk_alloc ?_ _)); exact BK270.out)) : gb302 ≠ gb270)); have n8_ := Aside0.mk ((by rw [hg]; exact Nat.ne_of_lt (blk_lt (g := gb272) (o := .cells #[.int .i64 ((rd_T91 l0 a1).f0), .int .i64 ((rd_T91 l0 a1).f1), .int .i64 ((rd_T91 l0 a1).f2)] 91 (0, 0)) (by (with_reducible repeat (first | refine blk_drewN ?_ _ | refine blk_drew ?_ | refine blk_alloc ?_ _)); exact BK272.out)) : gb272 ≠ gb302)); have n9_ := Aside0.mk ((by rw [hg]; exact Nat.ne_of_gt (blk_lt (g := gb272) (o := .cells #[.int .i64 ((rd_T91 l0 a1).f0), .int .i64 ((rd_T91 l0 a1).f1), .int .i64 ((rd_T91 l0 a1).f2)] 91 (0, 0)) (by (with_reducible repeat (first | refine blk_drewN ?_ _ | refine blk_drew ?_ | refine blk_alloc ?_ _)); exact BK272.out)) : gb302 ≠ gb272)); clear BK270; clear BK272; clear HB; have BK270 := n0_; have BK272 := n1_; have HB := n2_; have BK302 := n3_; have GW302 := n4_; have GE302 := n5_; have NB270_302 := n6_; have NB302_270 := n7_; have NB272_302 := n8_; have NB302_272 := n9_; clear n0_ n1_ n2_ n3_ n4_ n5_ n6_ n7_ n8_ n9_; clear hb hbox hg; have hnb167 := NB302_270.out; have hnc167 := NB270_302.out; have hnb168 := NB302_272.out; have hnc168 := NB272_302.out; have hcz169_0 : w166.cell? ⟨gb302, 0, none⟩ = some (.int .i64 0) := (blk_cell BK302.out 0).trans rfl; have hcz169_1 : w166.cell? ⟨gb302, 1, none⟩ = some (.int .i64 0) := (blk_cell BK302.out 1).trans rfl; have hcz169_2 : w166.cell? ⟨gb302, 2, none⟩ = some (.int .i64 0) := (blk_cell BK302.out 2).trans rfl; have hfz169_0 := blk_frozen BK302.out 0; have hfz169_1 := blk_frozen BK302.out 1; have hfz169_2 := blk_frozen BK302.out 2) | ((with_reducible refine gate_callee (f := 88) rfl ?_); refine goesL_ (some 136) rfl rfl Tryz.func88 (by kernel_rfl) rfl #[.slice (some ad271) l0.length c0, .int .i64 (wrap64 (t301 - 1)), .slice A2 l2.length c2, .int .i64 a3, .bool a4] rfl (by (try simp only [List.map_toArray, List.map_cons, List.map_nil]); first | done | rfl | (simp only [List.length_drop, List.length_take]; rfl)) ?_; (with_reducible refine (ih kj54 (by have := HJ42.out; have := HJ54.out; omega) _ _ l0 (wrap64 (t301 - 1)) _ _ l2 a3 a4 t303 t304 t305 t306 _ ?side1 ?side2 ?side3 ?side4 A113.out).mono ?_); (case side1 => exact Kd.C_below HR0.out (by repeat (first | (with_reducible first | exact HB.out | apply below_alloc | apply pw_below_drewN | apply below_drew1 | refine below_set ?_ GE270.out | refine below_set ?_ GE272.out | refine below_set ?_ GE302.out) | exact HB.out))); (case side2 => exact HC0.out); (case side3 => exact Kd.C_below HR2.out (by repeat (first | (with_reducible first | exact HB.out | apply below_alloc | apply pw_below_drewN | apply below_drew1 | refine below_set ?_ GE270.out | refine below_set ?_ GE272.out | refine below_set ?_ GE302.out) | exact HB.out))); (case side4 => exact HC2.out); rintro e w170 ⟨rfl, hb⟩; refine ⟨_, rfl, ?_⟩; have n0_ := Aside0.mk (blk_below (g := gb270) (o := .cells #[.int .i64 0, .int .i64 0, .int .i64 0] 144 (0, 0)) (by (with_reducible repeat (first | refine blk_drewN ?_ _ | refine blk_drew ?_ | refine blk_alloc ?_ _)); refine blk_far ?_ NB270_302.out _; (with_reducible repeat (first | refine blk_drewN ?_ _ | refine blk_drew ?_ | refine blk_alloc ?_ _)); refine blk_far ?_ NB270_302.out _; (with_reducible repeat (first | refine blk_drewN ?_ _ | refine blk_drew ?_ | refine blk_alloc ?_ _)); refine blk_far ?_ NB270_302.out _; (with_reducible repeat (first | refine blk_drewN ?_ _ | refine blk_drew ?_ | refine blk_alloc ?_ _)); exact BK270.out) hb); have n1_ := Aside0.mk (blk_below (g := gb272) (o := .cells #[.int .i64 ((rd_T91 l0 a1).f0), .int .i64 ((rd_T91 l0 a1).f1), .int .i64 ((rd_T91 l0 a1).f2)] 91 (0, 0)) (by (with_reducible repeat (first | refine blk_drewN ?_ _ | refine blk_drew ?_ | refine blk_alloc ?_ _)); refine blk_far ?_ NB272_302.out _; (with_reducible repeat (first | refine blk_drewN ?_ _ | refine blk_drew ?_ | refine blk_alloc ?_ _)); refine blk_far ?_ NB272_302.out _; (with_reducible repeat (first | refine blk_drewN ?_ _ | refine blk_drew ?_ | refine blk_alloc ?_ _)); refine blk_far ?_ NB272_302.out _; (with_reducible repeat (first | refine blk_drewN ?_ _ | refine blk_drew ?_ | refine blk_alloc ?_ _)); exact BK272.out) hb); have n2_ := Aside0.mk (blk_below (g := gb302) (o := .cells #[.int .i64 t298, .int .i64 t299, .int .i64 t300] 144 (0, 0)) (by (with_reducible repeat (first | refine blk_drewN ?_ _ | refine blk_drew ?_ | refine blk_alloc ?_ _)); refine blk_put (cs := #[.int .i64 t298, .int .i64 t299, .int .i64 0]) ?_ 2 _ rfl; (with_reducible repeat (first | refine blk_drewN ?_ _ | refine blk_drew ?_ | refine blk_alloc ?_ _)); refine blk_put (cs := #[.int .i64 t298, .int .i64 0, .int .i64 0]) ?_ 1 _ rfl; (with_reducible repeat (first | refine blk_drewN ?_ _ | refine blk_drew ?_ | refine blk_alloc ?_ _)); refine blk_put (cs := #[.int .i64 0, .int .i64 0, .int .i64 0]) ?_ 0 _ rfl; (with_reducible repeat (first | refine blk_drewN ?_ _ | refine blk_drew ?_ | refine blk_alloc ?_ _)); exact BK302.out) hb); have n3_ := Aside0.mk (below_step (by repeat (first | (with_reducible first | exact HB.out | apply below_alloc | apply pw_below_drewN | apply below_drew1 | refine below_set ?_ GE270.out | refine below_set ?_ GE272.out | refine below_set ?_ GE302.out) | exact HB.out)) hb); clear BK270; clear BK272; clear BK302; clear HB; have BK270 := n0_; have BK272 := n1_; have BK302 := n2_; have HB := n3_; clear n0_ n1_ n2_ n3_; (try clear hb); (try clear hb2); (try clear hk); (try clear hi)) | ((with_reducible refine gate_dst (N := 17) rfl ?_); (try (refine gate_guard (by rfl) ?_; dsimp only)); refine box_event ?hg (N := 17) ?hd (cs := #[.int .i64 0, .int .i64 0, .int .i64 0]) (t := 144) ?hr ?_; (case hd => rfl); (case hg => rfl); (case hr => first | (go_simp; done) | (go_simp; rfl)); intro gb307 hg w171 hbox hb; have n0_ := Aside0.mk (blk_below (g := gb270) (o := .cells #[.int .i64 0, .int .i64 0, .int .i64 0] 144 (0, 0)) (by (with_reducible repeat (first | refine blk_drewN ?_ _ | refine blk_drew ?_ | refine blk_alloc ?_ _)); exact BK270.out) hb); have n1_ := Aside0.mk (blk_below (g := gb272) (o := .cells #[.int .i64 ((rd_T91 l0 a1).f0), .int .i64 ((rd_T91 l0 a1).f1), .int .i64 ((rd_T91 l0 a1).f2)] 91 (0, 0)) (by (with_reducible repeat (first | refine blk_drewN ?_ _ | refine blk_drew ?_ | refine blk_alloc ?_ _)); exact BK272.out) hb); have n2_ := Aside0.mk (blk_below (g := gb302) (o := .cells #[.int .i64 t298, .int .i64 t299, .int .i64 t300] 144 (0, 0)) (by (with_reducible repeat (first | refine blk_drewN ?_ _ | refine blk_drew ?_ | refine blk_alloc ?_ _)); exact BK302.out) hb); have n3_ := Aside0.mk (below_step (by repeat (first | (with_reducible first | exact HB.out | apply below_alloc | apply pw_below_drewN | apply below_drew1 | refine below_set ?_ GE270.out | refine below_set ?_ GE272.out | refine below_set ?_ GE302.out) | exact HB.out)) hb); have n4_ := Aside0.mk (hbox); have n5_ := Aside0.mk ((by rw [hg]; exact (below_size (by repeat (first | (with_reducible first | exact HB.out | apply below_alloc | apply pw_below_drewN | apply below_drew1 | refine below_set ?_ GE270.out | refine below_set ?_ GE272.out | refine below_set ?_ GE302.out) | exact HB.out))) : w.heap.size ≤ gb307)); have n6_ := Aside0.mk ((by rw [hg]; exact (below_size (by repeat (first | (with_reducible first | exact HB.out | apply below_alloc | apply pw_below_drewN | apply below_drew1 | refine below_set ?_ GE270.out | refine below_set ?_ GE272.out | refine below_set ?_ GE302.out) | exact HB.out))) : w.heap.size ≤ gb307)); have n7_ := Aside0.mk ((by rw [hg]; exact Nat.ne_of_lt (blk_lt (g := gb270) (o := .cells #[.int .i64 0, .int .i64 0, .int .i64 0] 144 (0, 0)) (by (with_reducible repeat (first | refine blk_drewN ?_ _ | refine blk_drew ?_ | refine blk_alloc ?_ _)); exact BK270.out)) : gb270 ≠ gb307)); have n8_ := Aside0.mk ((by rw [hg]; exact Nat.ne_of_gt (blk_lt (g := gb270) (o := .cells #[.int .i64 0, .int .i64 0, .int .i64 0] 144 (0, 0)) (by (with_reducible repeat (first | refine blk_drewN ?_ _ | refine blk_drew ?_ | refine blk_alloc ?_ _)); exact BK270.out)) : gb307 ≠ gb270)); have n9_ := Aside0.mk ((by rw [hg]; exact Nat.ne_of_lt (blk_lt (g := gb272) (o := .cells #[.int .i64 ((rd_T91 l0 a1).f0), .int .i64 ((rd_T91 l0 a1).f1), .int .i64 ((rd_T91 l0 a1).f2)] 91 (0, 0)) (by (with_reducible repeat (first | refine blk_drewN ?_ _ | refine blk_drew ?_ | refine blk_alloc ?_ _)); exact BK272.out)) : gb272 ≠ gb307)); have n10_ := Aside0.mk ((by rw [hg]; exact Nat.ne_of_gt (blk_lt (g := gb272) (o := .cells #[.int .i64 ((rd_T91 l0 a1).f0), .int .i64 ((rd_T91 l0 a1).f1), .int .i64 ((rd_T91 l0 a1).f2)] 91 (0, 0)) (by (with_reducible repeat (first | refine blk_drewN ?_ _ | refine blk_drew ?_ | refine blk_alloc ?_ _)); exact BK272.out)) : gb307 ≠ gb272)); have n11_ := Aside0.mk ((by rw [hg]; exact Nat.ne_of_lt (blk_lt (g := gb302) (o := .cells #[.int .i64 t298, .int .i64 t299, .int .i64 t300] 144 (0, 0)) (by (with_reducible repeat (first | refine blk_drewN ?_ _ | refine blk_drew ?_ | refine blk_alloc ?_ _)); exact BK302.out)) : gb302 ≠ gb307)); have n12_ := Aside0.mk ((by rw [hg]; exact Nat.ne_of_gt (blk_lt (g := gb302) (o := .cells #[.int .i64 t298, .int .i64 t299, .int .i64 t300] 144 (0, 0)) (by (with_reducible repeat (first | refine blk_drewN ?_ _ | refine blk_drew ?_ | refine blk_alloc ?_ _)); exact BK302.out)) : gb307 ≠ gb302)); clear BK270; clear BK272; clear BK302; clear HB; have BK270 := n0_; have BK272 := n1_; have BK302 := n2_; have HB := n3_; have BK307 := n4_; have GW307 := n5_; have GE307 := n6_; have NB270_307 := n7_; have NB307_270 := n8_; have NB272_307 := n9_; have NB307_272 := n10_; have NB302_307 := n11_; have NB307_302 := n12_; clear n0_ n1_ n2_ n3_ n4_ n5_ n6_ n7_ n8_ n9_ n10_ n11_ n12_; clear hb hbox hg; have hnb172 := NB307_270.out; have hnc172 := NB270_307.out; have hnb173 := NB307_272.out; have hnc173 := NB272_307.out; have hnb174 := NB307_302.out; have hnc174 := NB302_307.out; have hcz175_0 : w171.cell? ⟨gb307, 0, none⟩ = some (.int .i64 0) := (blk_cell BK307.out 0).trans rfl; have hcz175_1 : w171.cell? ⟨gb307, 1, none⟩ = some (.int .i64 0) := (blk_cell BK307.out 1).trans rfl; have hcz175_2 : w171.cell? ⟨gb307, 2, none⟩ = some (.int .i64 0) := (blk_cell BK307.out 2).trans rfl; have hfz175_0 := blk_frozen BK307.out 0; have hfz175_1 := blk_frozen BK307.out 1; have hfz175_2 := blk_frozen BK307.out 2; have hcz176_0 : w171.cell? ⟨gb302, 0, none⟩ = some (.int .i64 t298) := (blk_cell BK302.out 0).trans rfl; have hcz176_1 : w171.cell? ⟨gb302, 1, none⟩ = some (.int .i64 t299) := (blk_cell BK302.out 1).trans rfl; have hcz176_2 : w171.cell? ⟨gb302, 2, none⟩ = some (.int .i64 t300) := (blk_cell BK302.out 2).trans rfl; have hfz176_0 := blk_frozen BK302.out 0; have hfz176_1 := blk_frozen BK302.out 1; have hfz176_2 := blk_frozen BK302.out 2; have hnb177 := NB272_270.out; have hnc177 := NB270_272.out; have hcz178_0 : w171.cell? ⟨gb272, 0, none⟩ = some (.int .i64 ((rd_T91 l0 a1).f0)) := (blk_cell BK272.out 0).trans rfl; have hcz178_1 : w171.cell? ⟨gb272, 1, none⟩ = some (.int .i64 ((rd_T91 l0 a1).f1)) := (blk_cell BK272.out 1).trans rfl; have hcz178_2 : w171.cell? ⟨gb272, 2, none⟩ = some (.int .i64 ((rd_T91 l0 a1).f2)) := (blk_cell BK272.out 2).trans rfl; have hfz178_0 := blk_frozen BK272.out 0; have hfz178_1 := blk_frozen BK272.out 1; have hfz178_2 := blk_frozen BK272.out 2) | ((with_reducible refine gate_callee (f := 126) rfl ?_); refine goesL_ (some 155) rfl rfl Tryz.func126 (by kernel_rfl) rfl #[.int .i64 ((rd_T91 l0 a1).f0), .agg #[.int .i64 t303, .int .i64 t304], .agg #[.int .i64 t298, .int .i64 t299]] rfl (by (try simp only [List.map_toArray, List.map_cons, List.map_nil]); first | done | rfl | (simp only [List.length_drop, List.length_take]; rfl)) ?_; (with_reducible refine (spinetref04_two.calls kj54 ((rd_T91 l0 a1).f0) t303 t304 t298 t299 t308 t309 t310 _ A116.out).mono ?_); rintro e w179 ⟨rfl, hb⟩; refine ⟨_, rfl, ?_⟩; have n0_ := Aside0.mk (blk_below (g := gb270) (o := .cells #[.int .i64 0, .int .i64 0, .int .i64 0] 144 (0, 0)) (by (with_reducible repeat (first | refine blk_drewN ?_ _ | refine blk_drew ?_ | refine blk_alloc ?_ _)); refine blk_far ?_ NB270_307.out _; (with_reducible repeat (first | refine blk_drewN ?_ _ | refine blk_drew ?_ | refine blk_alloc ?_ _)); refine blk_far ?_ NB270_307.out _; (with_reducible repeat (first | refine blk_drewN ?_ _ | refine blk_drew ?_ | refine blk_alloc ?_ _)); refine blk_far ?_ NB270_307.out _; (with_reducible repeat (first | refine blk_drewN ?_ _ | refine blk_drew ?_ | refine blk_alloc ?_ _)); exact BK270.out) hb); have n1_ := Aside0.mk (blk_below (g := gb272) (o := .cells #[.int .i64 ((rd_T91 l0 a1).f0), .int .i64 ((rd_T91 l0 a1).f1), .int .i64 ((rd_T91 l0 a1).f2)] 91 (0, 0)) (by (with_reducible repeat (first | refine blk_drewN ?_ _ | refine blk_drew ?_ | refine blk_alloc ?_ _)); refine blk_far ?_ NB272_307.out _; (with_reducible repeat (first | refine blk_drewN ?_ _ | refine blk_drew ?_ | refine blk_alloc ?_ _)); refine blk_far ?_ NB272_307.out _; (with_reducible repeat (first | refine blk_drewN ?_ _ | refine blk_drew ?_ | refine blk_alloc ?_ _)); refine blk_far ?_ NB272_307.out _; (with_reducible repeat (first | refine blk_drewN ?_ _ | refine blk_drew ?_ | refine blk_alloc ?_ _)); exact BK272.out) hb); have n2_ := Aside0.mk (blk_below (g := gb302) (o := .cells #[.int .i64 t298, .int .i64 t299, .int .i64 t300] 144 (0, 0)) (by (with_reducible repeat (first | refine blk_drewN ?_ _ | refine blk_drew ?_ | refine blk_alloc ?_ _)); refine blk_far ?_ NB302_307.out _; (with_reducible repeat (first | refine blk_drewN ?_ _ | refine blk_drew ?_ | refine blk_alloc ?_ _)); refine blk_far ?_ NB302_307.out _; (with_reducible repeat (first | refine blk_drewN ?_ _ | refine blk_drew ?_ | refine blk_alloc ?_ _)); refine blk_far ?_ NB302_307.out _; (with_reducible repeat (first | refine blk_drewN ?_ _ | refine blk_drew ?_ | refine blk_alloc ?_ _)); exact BK302.out) hb); have n3_ := Aside0.mk (blk_below (g := gb307) (o := .cells #[.int .i64 t303, .int .i64 t304, .int .i64 t305] 144 (0, 0)) (by (with_reducible repeat (first | refine blk_drewN ?_ _ | refine blk_drew ?_ | refine blk_alloc ?_ _)); refine blk_put (cs := #[.int .i64 t303, .int .i64 t304, .int .i64 0]) ?_ 2 _ rfl; (with_reducible repeat (first | refine blk_drewN ?_ _ | refine blk_drew ?_ | refine blk_alloc ?_ _)); refine blk_put (cs := #[.int .i64 t303, .int .i64 0, .int .i64 0]) ?_ 1 _ rfl; (with_reducible repeat (first | refine blk_drewN ?_ _ | refine blk_drew ?_ | refine blk_alloc ?_ _)); refine blk_put (cs := #[.int .i64 0, .int .i64 0, .int .i64 0]) ?_ 0 _ rfl; (with_reducible repeat (first | refine blk_drewN ?_ _ | refine blk_drew ?_ | refine blk_alloc ?_ _)); exact BK307.out) hb); have n4_ := Aside0.mk (below_step (by repeat (first | (with_reducible first | exact HB.out | apply below_alloc | apply pw_below_drewN | apply below_drew1 | refine below_set ?_ GE270.out | refine below_set ?_ GE272.out | refine below_set ?_ GE302.out | refine below_set ?_ GE307.out) | exact HB.out)) hb); clear BK270; clear BK272; clear BK302; clear BK307; clear HB; have BK270 := n0_; have BK272 := n1_; have BK302 := n2_; have BK307 := n3_; have HB := n4_; clear n0_ n1_ n2_ n3_ n4_; (try clear hb); (try clear hb2); (try clear hk); (try clear hi)) | ((with_reducible refine gate_dst (N := 19) rfl ?_); (try (refine gate_guard (by rfl) ?_; dsimp only)); refine box_event ?hg (N := 19) ?hd (cs := #[.int .i64 0, .int .i64 0, .int .i64 0]) (t := 144) ?hr ?_; (case hd => rfl); (case hg => rfl); (case hr => first | (go_simp; done) | (go_simp; rfl)); intro gb311 hg w180 hbox hb; have n0_ := Aside0.mk (blk_below (g := gb270) (o := .cells #[.int .i64 0, .int .i64 0, .int .i64 0] 144 (0, 0)) (by (with_reducible repeat (first | refine blk_drewN ?_ _ | refine blk_drew ?_ | refine blk_alloc ?_ _)); exact BK270.out) hb); have n1_ := Aside0.mk (blk_below (g := gb272) (o := .cells #[.int .i64 ((rd_T91 l0 a1).f0), .int .i64 ((rd_T91 l0 a1).f1), .int .i64 ((rd_T91 l0 a1).f2)] 91 (0, 0)) (by (with_reducible repeat (first | refine blk_drewN ?_ _ | refine blk_drew ?_ | refine blk_alloc ?_ _)); exact BK272.out) hb); have n2_ := Aside0.mk (blk_below (g := gb302) (o := .cells #[.int .i64 t298, .int .i64 t299, .int .i64 t300] 144 (0, 0)) (by (with_reducible repeat (first | refine blk_drewN ?_ _ | refine blk_drew ?_ | refine blk_alloc ?_ _)); exact BK302.out) hb); have n3_ := Aside0.mk (blk_below (g := gb307) (o := .cells #[.int .i64 t303, .int .i64 t304, .int .i64 t305] 144 (0, 0)) (by (with_reducible repeat (first | refine blk_drewN ?_ _ | refine blk_drew ?_ | refine blk_alloc ?_ _)); exact BK307.out) hb); have n4_ := Aside0.mk (below_step (by repeat (first | (with_reducible first | exact HB.out | apply below_alloc | apply pw_below_drewN | apply below_drew1 | refine below_set ?_ GE270.out | refine below_set ?_ GE272.out | refine below_set ?_ GE302.out | refine below_set ?_ GE307.out) | exact HB.out)) hb); have n5_ := Aside0.mk (hbox); have n6_ := Aside0.mk ((by rw [hg]; exact (below_size (by repeat (first | (with_reducible first | exact HB.out | apply below_alloc | apply pw_below_drewN | apply below_drew1 | refine below_set ?_ GE270.out | refine below_set ?_ GE272.out | refine below_set ?_ GE302.out | refine below_set ?_ GE307.out) | exact HB.out))) : w.heap.size ≤ gb311)); have n7_ := Aside0.mk ((by rw [hg]; exact (below_size (by repeat (first | (with_reducible first | exact HB.out | apply below_alloc | apply pw_below_drewN | apply below_drew1 | refine below_set ?_ GE270.out | refine below_set ?_ GE272.out | refine below_set ?_ GE302.out | refine below_set ?_ GE307.out) | exact HB.out))) : w.heap.size ≤ gb311)); have n8_ := Aside0.mk ((by rw [hg]; exact Nat.ne_of_lt (blk_lt (g := gb270) (o := .cells #[.int .i64 0, .int .i64 0, .int .i64 0] 144 (0, 0)) (by (with_reducible repeat (first | refine blk_drewN ?_ _ | refine blk_drew ?_ | refine blk_alloc ?_ _)); exact BK270.out)) : gb270 ≠ gb311)); have n9_ := Aside0.mk ((by rw [hg]; exact Nat.ne_of_gt (blk_lt (g := gb270) (o := .cells #[.int .i64 0, .int .i64 0, .int .i64 0] 144 (0, 0)) (by (with_reducible repeat (first | refine blk_drewN ?_ _ | refine blk_drew ?_ | refine blk_alloc ?_ _)); exact BK270.out)) : gb311 ≠ gb270)); have n10_ := Aside0.mk ((by rw [hg]; exact Nat.ne_of_lt (blk_lt (g := gb272) (o := .cells #[.int .i64 ((rd_T91 l0 a1).f0), .int .i64 ((rd_T91 l0 a1).f1), .int .i64 ((rd_T91 l0 a1).f2)] 91 (0, 0)) (by (with_reducible repeat (first | refine blk_drewN ?_ _ | refine blk_drew ?_ | refine blk_alloc ?_ _)); exact BK272.out)) : gb272 ≠ gb311)); have n11_ := Aside0.mk ((by rw [hg]; exact Nat.ne_of_gt (blk_lt (g := gb272) (o := .cells #[.int .i64 ((rd_T91 l0 a1).f0), .int .i64 ((rd_T91 l0 a1).f1), .int .i64 ((rd_T91 l0 a1).f2)] 91 (0, 0)) (by (with_reducible repeat (first | refine blk_drewN ?_ _ | refine blk_drew ?_ | refine blk_alloc ?_ _)); exact BK272.out)) : gb311 ≠ gb272)); have n12_ := Aside0.mk ((by rw [hg]; exact Nat.ne_of_lt (blk_lt (g := gb302) (o := .cells #[.int .i64 t298, .int .i64 t299, .int .i64 t300] 144 (0, 0)) (by (with_reducible repeat (first | refine blk_drewN ?_ _ | refine blk_drew ?_ | refine blk_alloc ?_ _)); exact BK302.out)) : gb302 ≠ gb311)); have n13_ := Aside0.mk ((by rw [hg]; exact Nat.ne_of_gt (blk_lt (g := gb302) (o := .cells #[.int .i64 t298, .int .i64 t299, .int .i64 t300] 144 (0, 0)) (by (with_reducible repeat (first | refine blk_drewN ?_ _ | refine blk_drew ?_ | refine blk_alloc ?_ _)); exact BK302.out)) : gb311 ≠ gb302)); have n14_ := Aside0.mk ((by rw [hg]; exact Nat.ne_of_lt (blk_lt (g := gb307) (o := .cells #[.int .i64 t303, .int .i64 t304, .int .i64 t305] 144 (0, 0)) (by (with_reducible repeat (first | refine blk_drewN ?_ _ | refine blk_drew ?_ | refine blk_alloc ?_ _)); exact BK307.out)) : gb307 ≠ gb311)); have n15_ := Aside0.mk ((by rw [hg]; exact Nat.ne_of_gt (blk_lt (g := gb307) (o := .cells #[.int .i64 t303, .int .i64 t304, .int .i64 t305] 144 (0, 0)) (by (with_reducible repeat (first | refine blk_drewN ?_ _ | refine blk_drew ?_ | refine blk_alloc ?_ _)); exact BK307.out)) : gb311 ≠ gb307)); clear BK270; clear BK272; clear BK302; clear BK307; clear HB; have BK270 := n0_; have BK272 := n1_; have BK302 := n2_; have BK307 := n3_; have HB := n4_; have BK311 := n5_; have GW311 := n6_; have GE311 := n7_; have NB270_311 := n8_; have NB311_270 := n9_; have NB272_311 := n10_; have NB311_272 := n11_; have NB302_311 := n12_; have NB311_302 := n13_; have NB307_311 := n14_; have NB311_307 := n15_; clear n0_ n1_ n2_ n3_ n4_ n5_ n6_ n7_ n8_ n9_ n10_ n11_ n12_ n13_ n14_ n15_; clear hb hbox hg; have hnb181 := NB311_270.out; have hnc181 := NB270_311.out; have hnb182 := NB311_272.out; have hnc182 := NB272_311.out; have hnb183 := NB311_302.out; have hnc183 := NB302_311.out; have hnb184 := NB311_307.out; have hnc184 := NB307_311.out; have hcz185_0 : w180.cell? ⟨gb311, 0, none⟩ = some (.int .i64 0) := (blk_cell BK311.out 0).trans rfl; have hcz185_1 : w180.cell? ⟨gb311, 1, none⟩ = some (.int .i64 0) := (blk_cell BK311.out 1).trans rfl; have hcz185_2 : w180.cell? ⟨gb311, 2, none⟩ = some (.int .i64 0) := (blk_cell BK311.out 2).trans rfl; have hfz185_0 := blk_frozen BK311.out 0; have hfz185_1 := blk_frozen BK311.out 1; have hfz185_2 := blk_frozen BK311.out 2; have hcz186_0 : w180.cell? ⟨gb270, 0, none⟩ = some (.int .i64 0) := (blk_cell BK270.out 0).trans rfl; have hcz186_1 : w180.cell? ⟨gb270, 1, none⟩ = some (.int .i64 0) := (blk_cell BK270.out 1).trans rfl; have hcz186_2 : w180.cell? ⟨gb270, 2, none⟩ = some (.int .i64 0) := (blk_cell BK270.out 2).trans rfl; have hfz186_0 := blk_frozen BK270.out 0; have hfz186_1 := blk_frozen BK270.out 1; have hfz186_2 := blk_frozen BK270.out 2))
                            refine bodyPost_ret (results_ct rfl _ _ gb270 144 #[.int .i64 t308, .int .i64 t309, .int .i64 t310] (0, 0) _ rfl (by (with_reducible repeat (first | refine blk_drewN ?_ _ | refine blk_drew ?_ | refine blk_alloc ?_ _)); refine blk_put (cs := #[.int .i64 t308, .int .i64 t309, .int .i64 0]) ?_ 2 _ rfl; (with_reducible repeat (first | refine blk_drewN ?_ _ | refine blk_drew ?_ | refine blk_alloc ?_ _)); refine blk_put (cs := #[.int .i64 t308, .int .i64 0, .int .i64 0]) ?_ 1 _ rfl; (with_reducible repeat (first | refine blk_drewN ?_ _ | refine blk_drew ?_ | refine blk_alloc ?_ _)); refine blk_put (cs := #[.int .i64 0, .int .i64 0, .int .i64 0]) ?_ 0 _ rfl; (with_reducible repeat (first | refine blk_drewN ?_ _ | refine blk_drew ?_ | refine blk_alloc ?_ _)); refine blk_far ?_ NB270_311.out _; (with_reducible repeat (first | refine blk_drewN ?_ _ | refine blk_drew ?_ | refine blk_alloc ?_ _)); refine blk_far ?_ NB270_311.out _; (with_reducible repeat (first | refine blk_drewN ?_ _ | refine blk_drew ?_ | refine blk_alloc ?_ _)); refine blk_far ?_ NB270_311.out _; (with_reducible repeat (first | refine blk_drewN ?_ _ | refine blk_drew ?_ | refine blk_alloc ?_ _)); exact BK270.out) Tryz.underlying144 rfl (by kernel_rfl)) rfl ?_
                            exact ⟨by first | rfl | (simp [errW_none, errW_some] <;> rfl) | (simp [*, errW_none, errW_some] <;> rfl), by repeat (first | (with_reducible first | exact HB.out | apply below_alloc | apply pw_below_drewN | apply below_drew1 | refine below_set ?_ GE270.out | refine below_set ?_ GE272.out | refine below_set ?_ GE302.out | refine below_set ?_ GE307.out | refine below_set ?_ GE311.out) | exact HB.out)⟩
                        · rw [if_neg c115] at H
                          have c115b0 : (t300 == 0) = false := beq_eq_false_iff_ne.mpr c115
                          have c115b1 : (t300 != 0) = true := bne_iff_ne.mpr c115
                          simp only [Option.some.injEq, Prod.mk.injEq] at H
                          obtain ⟨rfl, rfl, rfl, rfl⟩ := H
                          go_wp2_with (first | ((with_reducible refine gate_callee (f := 88) rfl ?_); refine goesL_ (some 126) rfl rfl Tryz.func88 (by kernel_rfl) rfl #[.slice (some ad271) l0.length c0, .int .i64 (wrap64 (a1 - 1)), .slice A2 l2.length c2, .int .i64 a3, .bool a4] rfl (by (try simp only [List.map_toArray, List.map_cons, List.map_nil]); first | done | rfl | (simp only [List.length_drop, List.length_take]; rfl)) ?_; (with_reducible refine (ih kj54 (by have := HJ42.out; have := HJ54.out; omega) _ _ l0 (wrap64 (a1 - 1)) _ _ l2 a3 a4 t298 t299 t300 t301 _ ?side1 ?side2 ?side3 ?side4 A112.out).mono ?_); (case side1 => repeat (first | exact (Kd.C_below HR0.out HB.out) | (with_reducible refine Kd.C_alloc ?_ _) | (with_reducible refine Kd.C_drewN ?_ _) | (with_reducible refine Kd.C_drew ?_))); (case side2 => exact HC0.out); (case side3 => repeat (first | exact (Kd.C_below HR2.out HB.out) | (with_reducible refine Kd.C_alloc ?_ _) | (with_reducible refine Kd.C_drewN ?_ _) | (with_reducible refine Kd.C_drew ?_))); (case side4 => exact HC2.out); rintro e w187 ⟨rfl, hb⟩; refine ⟨_, rfl, ?_⟩; have n0_ := Aside0.mk (blk_below (g := gb270) (o := .cells #[.int .i64 0, .int .i64 0, .int .i64 0] 144 (0, 0)) (by (with_reducible repeat (first | refine blk_drewN ?_ _ | refine blk_drew ?_ | refine blk_alloc ?_ _)); exact BK270.out) hb); have n1_ := Aside0.mk (blk_below (g := gb272) (o := .cells #[.int .i64 ((rd_T91 l0 a1).f0), .int .i64 ((rd_T91 l0 a1).f1), .int .i64 ((rd_T91 l0 a1).f2)] 91 (0, 0)) (by (with_reducible repeat (first | refine blk_drewN ?_ _ | refine blk_drew ?_ | refine blk_alloc ?_ _)); exact BK272.out) hb); have n2_ := Aside0.mk (below_step (by repeat (first | (with_reducible first | exact HB.out | apply below_alloc | apply pw_below_drewN | apply below_drew1 | refine below_set ?_ GE270.out | refine below_set ?_ GE272.out) | exact HB.out)) hb); clear BK270; clear BK272; clear HB; have BK270 := n0_; have BK272 := n1_; have HB := n2_; clear n0_ n1_ n2_; (try clear hb); (try clear hb2); (try clear hk); (try clear hi)) | ((with_reducible refine gate_dst (N := 15) rfl ?_); (try (refine gate_guard (by rfl) ?_; dsimp only)); refine box_event ?hg (N := 15) ?hd (cs := #[.int .i64 0, .int .i64 0, .int .i64 0]) (t := 144) ?hr ?_; (case hd => rfl); (case hg => rfl); (case hr => first | (go_simp; done) | (go_simp; rfl)); intro gb302 hg w188 hbox hb; have n0_ := Aside0.mk (blk_below (g := gb270) (o := .cells #[.int .i64 0, .int .i64 0, .int .i64 0] 144 (0, 0)) (by (with_reducible repeat (first | refine blk_drewN ?_ _ | refine blk_drew ?_ | refine blk_alloc ?_ _)); exact BK270.out) hb); have n1_ := Aside0.mk (blk_below (g := gb272) (o := .cells #[.int .i64 ((rd_T91 l0 a1).f0), .int .i64 ((rd_T91 l0 a1).f1), .int .i64 ((rd_T91 l0 a1).f2)] 91 (0, 0)) (by (with_reducible repeat (first | refine blk_drewN ?_ _ | refine blk_drew ?_ | refine blk_alloc ?_ _)); exact BK272.out) hb); have n2_ := Aside0.mk (below_step (by repeat (first | (with_reducible first | exact HB.out | apply below_alloc | apply pw_below_drewN | apply below_drew1 | refine below_set ?_ GE270.out | refine below_set ?_ GE272.out) | exact HB.out)) hb); have n3_ := Aside0.mk (hbox); have n4_ := Aside0.mk ((by rw [hg]; exact (below_size (by repeat (first | (with_reducible first | exact HB.out | apply below_alloc | apply pw_below_drewN | apply below_drew1 | refine below_set ?_ GE270.out | refine below_set ?_ GE272.out) | exact HB.out))) : w.heap.size ≤ gb302)); have n5_ := Aside0.mk ((by rw [hg]; exact (below_size (by repeat (first | (with_reducible first | exact HB.out | apply below_alloc | apply pw_below_drewN | apply below_drew1 | refine below_set ?_ GE270.out | refine below_set ?_ GE272.out) | exact HB.out))) : w.heap.size ≤ gb302)); have n6_ := Aside0.mk ((by rw [hg]; exact Nat.ne_of_lt (blk_lt (g := gb270) (o := .cells #[.int .i64 0, .int .i64 0, .int .i64 0] 144 (0, 0)) (by (with_reducible repeat (first | refine blk_drewN ?_ _ | refine blk_drew ?_ | refine blk_alloc ?_ _)); exact BK270.out)) : gb270 ≠ gb302)); have n7_ := Aside0.mk ((by rw [hg]; exact Nat.ne_of_gt (blk_lt (g := gb270) (o := .cells #[.int .i64 0, .int .i64 0, .int .i64 0] 144 (0, 0)) (by (with_reducible repeat (first | refine blk_drewN ?_ _ | refine blk_drew ?_ | refine blk_alloc ?_ _)); exact BK270.out)) : gb302 ≠ gb270)); have n8_ := Aside0.mk ((by rw [hg]; exact Nat.ne_of_lt (blk_lt (g := gb272) (o := .cells #[.int .i64 ((rd_T91 l0 a1).f0), .int .i64 ((rd_T91 l0 a1).f1), .int .i64 ((rd_T91 l0 a1).f2)] 91 (0, 0)) (by (with_reducible repeat (first | refine blk_drewN ?_ _ | refine blk_drew ?_ | refine blk_alloc ?_ _)); exact BK272.out)) : gb272 ≠ gb302)); have n9_ := Aside0.mk ((by rw [hg]; exact Nat.ne_of_gt (blk_lt (g := gb272) (o := .cells #[.int .i64 ((rd_T91 l0 a1).f0), .int .i64 ((rd_T91 l0 a1).f1), .int .i64 ((rd_T91 l0 a1).f2)] 91 (0, 0)) (by (with_reducible repeat (first | refine blk_drewN ?_ _ | refine blk_drew ?_ | refine blk_alloc ?_ _)); exact BK272.out)) : gb302 ≠ gb272)); clear BK270; clear BK272; clear HB; have BK270 := n0_; have BK272 := n1_; have HB := n2_; have BK302 := n3_; have GW302 := n4_; have GE302 := n5_; have NB270_302 := n6_; have NB302_270 := n7_; have NB272_302 := n8_; have NB302_272 := n9_; clear n0_ n1_ n2_ n3_ n4_ n5_ n6_ n7_ n8_ n9_; clear hb hbox hg; have hnb189 := NB302_270.out; have hnc189 := NB270_302.out; have hnb190 := NB302_272.out; have hnc190 := NB272_302.out; have hcz191_0 : w188.cell? ⟨gb302, 0, none⟩ = some (.int .i64 0) := (blk_cell BK302.out 0).trans rfl; have hcz191_1 : w188.cell? ⟨gb302, 1, none⟩ = some (.int .i64 0) := (blk_cell BK302.out 1).trans rfl; have hcz191_2 : w188.cell? ⟨gb302, 2, none⟩ = some (.int .i64 0) := (blk_cell BK302.out 2).trans rfl; have hfz191_0 := blk_frozen BK302.out 0; have hfz191_1 := blk_frozen BK302.out 1; have hfz191_2 := blk_frozen BK302.out 2) | ((with_reducible refine gate_callee (f := 88) rfl ?_); refine goesL_ (some 136) rfl rfl Tryz.func88 (by kernel_rfl) rfl #[.slice (some ad271) l0.length c0, .int .i64 (wrap64 (t301 - 1)), .slice A2 l2.length c2, .int .i64 a3, .bool a4] rfl (by (try simp only [List.map_toArray, List.map_cons, List.map_nil]); first | done | rfl | (simp only [List.length_drop, List.length_take]; rfl)) ?_; (with_reducible refine (ih kj54 (by have := HJ42.out; have := HJ54.out; omega) _ _ l0 (wrap64 (t301 - 1)) _ _ l2 a3 a4 t303 t304 t305 t306 _ ?side1 ?side2 ?side3 ?side4 A113.out).mono ?_); (case side1 => exact Kd.C_below HR0.out (by repeat (first | (with_reducible first | exact HB.out | apply below_alloc | apply pw_below_drewN | apply below_drew1 | refine below_set ?_ GE270.out | refine below_set ?_ GE272.out | refine below_set ?_ GE302.out) | exact HB.out))); (case side2 => exact HC0.out); (case side3 => exact Kd.C_below HR2.out (by repeat (first | (with_reducible first | exact HB.out | apply below_alloc | apply pw_below_drewN | apply below_drew1 | refine below_set ?_ GE270.out | refine below_set ?_ GE272.out | refine below_set ?_ GE302.out) | exact HB.out))); (case side4 => exact HC2.out); rintro e w192 ⟨rfl, hb⟩; refine ⟨_, rfl, ?_⟩; have n0_ := Aside0.mk (blk_below (g := gb270) (o := .cells #[.int .i64 0, .int .i64 0, .int .i64 0] 144 (0, 0)) (by (with_reducible repeat (first | refine blk_drewN ?_ _ | refine blk_drew ?_ | refine blk_alloc ?_ _)); refine blk_far ?_ NB270_302.out _; (with_reducible repeat (first | refine blk_drewN ?_ _ | refine blk_drew ?_ | refine blk_alloc ?_ _)); refine blk_far ?_ NB270_302.out _; (with_reducible repeat (first | refine blk_drewN ?_ _ | refine blk_drew ?_ | refine blk_alloc ?_ _)); refine blk_far ?_ NB270_302.out _; (with_reducible repeat (first | refine blk_drewN ?_ _ | refine blk_drew ?_ | refine blk_alloc ?_ _)); exact BK270.out) hb); have n1_ := Aside0.mk (blk_below (g := gb272) (o := .cells #[.int .i64 ((rd_T91 l0 a1).f0), .int .i64 ((rd_T91 l0 a1).f1), .int .i64 ((rd_T91 l0 a1).f2)] 91 (0, 0)) (by (with_reducible repeat (first | refine blk_drewN ?_ _ | refine blk_drew ?_ | refine blk_alloc ?_ _)); refine blk_far ?_ NB272_302.out _; (with_reducible repeat (first | refine blk_drewN ?_ _ | refine blk_drew ?_ | refine blk_alloc ?_ _)); refine blk_far ?_ NB272_302.out _; (with_reducible repeat (first | refine blk_drewN ?_ _ | refine blk_drew ?_ | refine blk_alloc ?_ _)); refine blk_far ?_ NB272_302.out _; (with_reducible repeat (first | refine blk_drewN ?_ _ | refine blk_drew ?_ | refine blk_alloc ?_ _)); exact BK272.out) hb); have n2_ := Aside0.mk (blk_below (g := gb302) (o := .cells #[.int .i64 t298, .int .i64 t299, .int .i64 t300] 144 (0, 0)) (by (with_reducible repeat (first | refine blk_drewN ?_ _ | refine blk_drew ?_ | refine blk_alloc ?_ _)); refine blk_put (cs := #[.int .i64 t298, .int .i64 t299, .int .i64 0]) ?_ 2 _ rfl; (with_reducible repeat (first | refine blk_drewN ?_ _ | refine blk_drew ?_ | refine blk_alloc ?_ _)); refine blk_put (cs := #[.int .i64 t298, .int .i64 0, .int .i64 0]) ?_ 1 _ rfl; (with_reducible repeat (first | refine blk_drewN ?_ _ | refine blk_drew ?_ | refine blk_alloc ?_ _)); refine blk_put (cs := #[.int .i64 0, .int .i64 0, .int .i64 0]) ?_ 0 _ rfl; (with_reducible repeat (first | refine blk_drewN ?_ _ | refine blk_drew ?_ | refine blk_alloc ?_ _)); exact BK302.out) hb); have n3_ := Aside0.mk (below_step (by repeat (first | (with_reducible first | exact HB.out | apply below_alloc | apply pw_below_drewN | apply below_drew1 | refine below_set ?_ GE270.out | refine below_set ?_ GE272.out | refine below_set ?_ GE302.out) | exact HB.out)) hb); clear BK270; clear BK272; clear BK302; clear HB; have BK270 := n0_; have BK272 := n1_; have BK302 := n2_; have HB := n3_; clear n0_ n1_ n2_ n3_; (try clear hb); (try clear hb2); (try clear hk); (try clear hi)) | ((with_reducible refine gate_dst (N := 17) rfl ?_); (try (refine gate_guard (by rfl) ?_; dsimp only)); refine box_event ?hg (N := 17) ?hd (cs := #[.int .i64 0, .int .i64 0, .int .i64 0]) (t := 144) ?hr ?_; (case hd => rfl); (case hg => rfl); (case hr => first | (go_simp; done) | (go_simp; rfl)); intro gb307 hg w193 hbox hb; have n0_ := Aside0.mk (blk_below (g := gb270) (o := .cells #[.int .i64 0, .int .i64 0, .int .i64 0] 144 (0, 0)) (by (with_reducible repeat (first | refine blk_drewN ?_ _ | refine blk_drew ?_ | refine blk_alloc ?_ _)); exact BK270.out) hb); have n1_ := Aside0.mk (blk_below (g := gb272) (o := .cells #[.int .i64 ((rd_T91 l0 a1).f0), .int .i64 ((rd_T91 l0 a1).f1), .int .i64 ((rd_T91 l0 a1).f2)] 91 (0, 0)) (by (with_reducible repeat (first | refine blk_drewN ?_ _ | refine blk_drew ?_ | refine blk_alloc ?_ _)); exact BK272.out) hb); have n2_ := Aside0.mk (blk_below (g := gb302) (o := .cells #[.int .i64 t298, .int .i64 t299, .int .i64 t300] 144 (0, 0)) (by (with_reducible repeat (first | refine blk_drewN ?_ _ | refine blk_drew ?_ | refine blk_alloc ?_ _)); exact BK302.out) hb); have n3_ := Aside0.mk (below_step (by repeat (first | (with_reducible first | exact HB.out | apply below_alloc | apply pw_below_drewN | apply below_drew1 | refine below_set ?_ GE270.out | refine below_set ?_ GE272.out | refine below_set ?_ GE302.out) | exact HB.out)) hb); have n4_ := Aside0.mk (hbox); have n5_ := Aside0.mk ((by rw [hg]; exact (below_size (by repeat (first | (with_reducible first | exact HB.out | apply below_alloc | apply pw_below_drewN | apply below_drew1 | refine below_set ?_ GE270.out | refine below_set ?_ GE272.out | refine below_set ?_ GE302.out) | exact HB.out))) : w.heap.size ≤ gb307)); have n6_ := Aside0.mk ((by rw [hg]; exact (below_size (by repeat (first | (with_reducible first | exact HB.out | apply below_alloc | apply pw_below_drewN | apply below_drew1 | refine below_set ?_ GE270.out | refine below_set ?_ GE272.out | refine below_set ?_ GE302.out) | exact HB.out))) : w.heap.size ≤ gb307)); have n7_ := Aside0.mk ((by rw [hg]; exact Nat.ne_of_lt (blk_lt (g := gb270) (o := .cells #[.int .i64 0, .int .i64 0, .int .i64 0] 144 (0, 0)) (by (with_reducible repeat (first | refine blk_drewN ?_ _ | refine blk_drew ?_ | refine blk_alloc ?_ _)); exact BK270.out)) : gb270 ≠ gb307)); have n8_ := Aside0.mk ((by rw [hg]; exact Nat.ne_of_gt (blk_lt (g := gb270) (o := .cells #[.int .i64 0, .int .i64 0, .int .i64 0] 144 (0, 0)) (by (with_reducible repeat (first | refine blk_drewN ?_ _ | refine blk_drew ?_ | refine blk_alloc ?_ _)); exact BK270.out)) : gb307 ≠ gb270)); have n9_ := Aside0.mk ((by rw [hg]; exact Nat.ne_of_lt (blk_lt (g := gb272) (o := .cells #[.int .i64 ((rd_T91 l0 a1).f0), .int .i64 ((rd_T91 l0 a1).f1), .int .i64 ((rd_T91 l0 a1).f2)] 91 (0, 0)) (by (with_reducible repeat (first | refine blk_drewN ?_ _ | refine blk_drew ?_ | refine blk_alloc ?_ _)); exact BK272.out)) : gb272 ≠ gb307)); have n10_ := Aside0.mk ((by rw [hg]; exact Nat.ne_of_gt (blk_lt (g := gb272) (o := .cells #[.int .i64 ((rd_T91 l0 a1).f0), .int .i64 ((rd_T91 l0 a1).f1), .int .i64 ((rd_T91 l0 a1).f2)] 91 (0, 0)) (by (with_reducible repeat (first | refine blk_drewN ?_ _ | refine blk_drew ?_ | refine blk_alloc ?_ _)); exact BK272.out)) : gb307 ≠ gb272)); have n11_ := Aside0.mk ((by rw [hg]; exact Nat.ne_of_lt (blk_lt (g := gb302) (o := .cells #[.int .i64 t298, .int .i64 t299, .int .i64 t300] 144 (0, 0)) (by (with_reducible repeat (first | refine blk_drewN ?_ _ | refine blk_drew ?_ | refine blk_alloc ?_ _)); exact BK302.out)) : gb302 ≠ gb307)); have n12_ := Aside0.mk ((by rw [hg]; exact Nat.ne_of_gt (blk_lt (g := gb302) (o := .cells #[.int .i64 t298, .int .i64 t299, .int .i64 t300] 144 (0, 0)) (by (with_reducible repeat (first | refine blk_drewN ?_ _ | refine blk_drew ?_ | refine blk_alloc ?_ _)); exact BK302.out)) : gb307 ≠ gb302)); clear BK270; clear BK272; clear BK302; clear HB; have BK270 := n0_; have BK272 := n1_; have BK302 := n2_; have HB := n3_; have BK307 := n4_; have GW307 := n5_; have GE307 := n6_; have NB270_307 := n7_; have NB307_270 := n8_; have NB272_307 := n9_; have NB307_272 := n10_; have NB302_307 := n11_; have NB307_302 := n12_; clear n0_ n1_ n2_ n3_ n4_ n5_ n6_ n7_ n8_ n9_ n10_ n11_ n12_; clear hb hbox hg; have hnb194 := NB307_270.out; have hnc194 := NB270_307.out; have hnb195 := NB307_272.out; have hnc195 := NB272_307.out; have hnb196 := NB307_302.out; have hnc196 := NB302_307.out; have hcz197_0 : w193.cell? ⟨gb307, 0, none⟩ = some (.int .i64 0) := (blk_cell BK307.out 0).trans rfl; have hcz197_1 : w193.cell? ⟨gb307, 1, none⟩ = some (.int .i64 0) := (blk_cell BK307.out 1).trans rfl; have hcz197_2 : w193.cell? ⟨gb307, 2, none⟩ = some (.int .i64 0) := (blk_cell BK307.out 2).trans rfl; have hfz197_0 := blk_frozen BK307.out 0; have hfz197_1 := blk_frozen BK307.out 1; have hfz197_2 := blk_frozen BK307.out 2; have hcz198_0 : w193.cell? ⟨gb302, 0, none⟩ = some (.int .i64 t298) := (blk_cell BK302.out 0).trans rfl; have hcz198_1 : w193.cell? ⟨gb302, 1, none⟩ = some (.int .i64 t299) := (blk_cell BK302.out 1).trans rfl; have hcz198_2 : w193.cell? ⟨gb302, 2, none⟩ = some (.int .i64 t300) := (blk_cell BK302.out 2).trans rfl; have hfz198_0 := blk_frozen BK302.out 0; have hfz198_1 := blk_frozen BK302.out 1; have hfz198_2 := blk_frozen BK302.out 2; have hnb199 := NB270_272.out; have hnc199 := NB272_270.out; have hcz200_0 : w193.cell? ⟨gb270, 0, none⟩ = some (.int .i64 0) := (blk_cell BK270.out 0).trans rfl; have hcz200_1 : w193.cell? ⟨gb270, 1, none⟩ = some (.int .i64 0) := (blk_cell BK270.out 1).trans rfl; have hcz200_2 : w193.cell? ⟨gb270, 2, none⟩ = some (.int .i64 0) := (blk_cell BK270.out 2).trans rfl; have hfz200_0 := blk_frozen BK270.out 0; have hfz200_1 := blk_frozen BK270.out 1; have hfz200_2 := blk_frozen BK270.out 2))
                          refine bodyPost_ret (results_ct rfl _ _ gb270 144 #[.int .i64 t298, .int .i64 t299, .int .i64 t300] (0, 0) _ rfl (by (with_reducible repeat (first | refine blk_drewN ?_ _ | refine blk_drew ?_ | refine blk_alloc ?_ _)); refine blk_put (cs := #[.int .i64 t298, .int .i64 t299, .int .i64 0]) ?_ 2 _ rfl; (with_reducible repeat (first | refine blk_drewN ?_ _ | refine blk_drew ?_ | refine blk_alloc ?_ _)); refine blk_put (cs := #[.int .i64 t298, .int .i64 0, .int .i64 0]) ?_ 1 _ rfl; (with_reducible repeat (first | refine blk_drewN ?_ _ | refine blk_drew ?_ | refine blk_alloc ?_ _)); refine blk_put (cs := #[.int .i64 0, .int .i64 0, .int .i64 0]) ?_ 0 _ rfl; (with_reducible repeat (first | refine blk_drewN ?_ _ | refine blk_drew ?_ | refine blk_alloc ?_ _)); refine blk_far ?_ NB270_307.out _; (with_reducible repeat (first | refine blk_drewN ?_ _ | refine blk_drew ?_ | refine blk_alloc ?_ _)); refine blk_far ?_ NB270_307.out _; (with_reducible repeat (first | refine blk_drewN ?_ _ | refine blk_drew ?_ | refine blk_alloc ?_ _)); refine blk_far ?_ NB270_307.out _; (with_reducible repeat (first | refine blk_drewN ?_ _ | refine blk_drew ?_ | refine blk_alloc ?_ _)); exact BK270.out) Tryz.underlying144 rfl (by kernel_rfl)) rfl ?_
                          exact ⟨by first | rfl | (simp [errW_none, errW_some] <;> rfl) | (simp [*, errW_none, errW_some] <;> rfl), by repeat (first | (with_reducible first | exact HB.out | apply below_alloc | apply pw_below_drewN | apply below_drew1 | refine below_set ?_ GE270.out | refine below_set ?_ GE272.out | refine below_set ?_ GE302.out | refine below_set ?_ GE307.out) | exact HB.out)⟩
                      · rw [if_neg c114] at H
                        have c114b0 : (t305 == 0) = false := beq_eq_false_iff_ne.mpr c114
                        have c114b1 : (t305 != 0) = true := bne_iff_ne.mpr c114
                        simp only [Option.some.injEq, Prod.mk.injEq] at H
                        obtain ⟨rfl, rfl, rfl, rfl⟩ := H
                        go_wp2_with (first | ((with_reducible refine gate_callee (f := 88) rfl ?_); refine goesL_ (some 126) rfl rfl Tryz.func88 (by kernel_rfl) rfl #[.slice (some ad271) l0.length c0, .int .i64 (wrap64 (a1 - 1)), .slice A2 l2.length c2, .int .i64 a3, .bool a4] rfl (by (try simp only [List.map_toArray, List.map_cons, List.map_nil]); first | done | rfl | (simp only [List.length_drop, List.length_take]; rfl)) ?_; (with_reducible refine (ih kj54 (by have := HJ42.out; have := HJ54.out; omega) _ _ l0 (wrap64 (a1 - 1)) _ _ l2 a3 a4 t298 t299 t300 t301 _ ?side1 ?side2 ?side3 ?side4 A112.out).mono ?_); (case side1 => repeat (first | exact (Kd.C_below HR0.out HB.out) | (with_reducible refine Kd.C_alloc ?_ _) | (with_reducible refine Kd.C_drewN ?_ _) | (with_reducible refine Kd.C_drew ?_))); (case side2 => exact HC0.out); (case side3 => repeat (first | exact (Kd.C_below HR2.out HB.out) | (with_reducible refine Kd.C_alloc ?_ _) | (with_reducible refine Kd.C_drewN ?_ _) | (with_reducible refine Kd.C_drew ?_))); (case side4 => exact HC2.out); rintro e w201 ⟨rfl, hb⟩; refine ⟨_, rfl, ?_⟩; have n0_ := Aside0.mk (blk_below (g := gb270) (o := .cells #[.int .i64 0, .int .i64 0, .int .i64 0] 144 (0, 0)) (by (with_reducible repeat (first | refine blk_drewN ?_ _ | refine blk_drew ?_ | refine blk_alloc ?_ _)); exact BK270.out) hb); have n1_ := Aside0.mk (blk_below (g := gb272) (o := .cells #[.int .i64 ((rd_T91 l0 a1).f0), .int .i64 ((rd_T91 l0 a1).f1), .int .i64 ((rd_T91 l0 a1).f2)] 91 (0, 0)) (by (with_reducible repeat (first | refine blk_drewN ?_ _ | refine blk_drew ?_ | refine blk_alloc ?_ _)); exact BK272.out) hb); have n2_ := Aside0.mk (below_step (by repeat (first | (with_reducible first | exact HB.out | apply below_alloc | apply pw_below_drewN | apply below_drew1 | refine below_set ?_ GE270.out | refine below_set ?_ GE272.out) | exact HB.out)) hb); clear BK270; clear BK272; clear HB; have BK270 := n0_; have BK272 := n1_; have HB := n2_; clear n0_ n1_ n2_; (try clear hb); (try clear hb2); (try clear hk); (try clear hi)) | ((with_reducible refine gate_dst (N := 15) rfl ?_); (try (refine gate_guard (by rfl) ?_; dsimp only)); refine box_event ?hg (N := 15) ?hd (cs := #[.int .i64 0, .int .i64 0, .int .i64 0]) (t := 144) ?hr ?_; (case hd => rfl); (case hg => rfl); (case hr => first | (go_simp; done) | (go_simp; rfl)); intro gb302 hg w202 hbox hb; have n0_ := Aside0.mk (blk_below (g := gb270) (o := .cells #[.int .i64 0, .int .i64 0, .int .i64 0] 144 (0, 0)) (by (with_reducible repeat (first | refine blk_drewN ?_ _ | refine blk_drew ?_ | refine blk_alloc ?_ _)); exact BK270.out) hb); have n1_ := Aside0.mk (blk_below (g := gb272) (o := .cells #[.int .i64 ((rd_T91 l0 a1).f0), .int .i64 ((rd_T91 l0 a1).f1), .int .i64 ((rd_T91 l0 a1).f2)] 91 (0, 0)) (by (with_reducible repeat (first | refine blk_drewN ?_ _ | refine blk_drew ?_ | refine blk_alloc ?_ _)); exact BK272.out) hb); have n2_ := Aside0.mk (below_step (by repeat (first | (with_reducible first | exact HB.out | apply below_alloc | apply pw_below_drewN | apply below_drew1 | refine below_set ?_ GE270.out | refine below_set ?_ GE272.out) | exact HB.out)) hb); have n3_ := Aside0.mk (hbox); have n4_ := Aside0.mk ((by rw [hg]; exact (below_size (by repeat (first | (with_reducible first | exact HB.out | apply below_alloc | apply pw_below_drewN | apply below_drew1 | refine below_set ?_ GE270.out | refine below_set ?_ GE272.out) | exact HB.out))) : w.heap.size ≤ gb302)); have n5_ := Aside0.mk ((by rw [hg]; exact (below_size (by repeat (first | (with_reducible first | exact HB.out | apply below_alloc | apply pw_below_drewN | apply below_drew1 | refine below_set ?_ GE270.out | refine below_set ?_ GE272.out) | exact HB.out))) : w.heap.size ≤ gb302)); have n6_ := Aside0.mk ((by rw [hg]; exact Nat.ne_of_lt (blk_lt (g := gb270) (o := .cells #[.int .i64 0, .int .i64 0, .int .i64 0] 144 (0, 0)) (by (with_reducible repeat (first | refine blk_drewN ?_ _ | refine blk_drew ?_ | refine blk_alloc ?_ _)); exact BK270.out)) : gb270 ≠ gb302)); have n7_ := Aside0.mk ((by rw [hg]; exact Nat.ne_of_gt (blk_lt (g := gb270) (o := .cells #[.int .i64 0, .int .i64 0, .int .i64 0] 144 (0, 0)) (by (with_reducible repeat (first | refine blk_drewN ?_ _ | refine blk_drew ?_ | refine blk_alloc ?_ _)); exact BK270.out)) : gb302 ≠ gb270)); have n8_ := Aside0.mk ((by rw [hg]; exact Nat.ne_of_lt (blk_lt (g := gb272) (o := .cells #[.int .i64 ((rd_T91 l0 a1).f0), .int .i64 ((rd_T91 l0 a1).f1), .int .i64 ((rd_T91 l0 a1).f2)] 91 (0, 0)) (by (with_reducible repeat (first | refine blk_drewN ?_ _ | refine blk_drew ?_ | refine blk_alloc ?_ _)); exact BK272.out)) : gb272 ≠ gb302)); have n9_ := Aside0.mk ((by rw [hg]; exact Nat.ne_of_gt (blk_lt (g := gb272) (o := .cells #[.int .i64 ((rd_T91 l0 a1).f0), .int .i64 ((rd_T91 l0 a1).f1), .int .i64 ((rd_T91 l0 a1).f2)] 91 (0, 0)) (by (with_reducible repeat (first | refine blk_drewN ?_ _ | refine blk_drew ?_ | refine blk_alloc ?_ _)); exact BK272.out)) : gb302 ≠ gb272)); clear BK270; clear BK272; clear HB; have BK270 := n0_; have BK272 := n1_; have HB := n2_; have BK302 := n3_; have GW302 := n4_; have GE302 := n5_; have NB270_302 := n6_; have NB302_270 := n7_; have NB272_302 := n8_; have NB302_272 := n9_; clear n0_ n1_ n2_ n3_ n4_ n5_ n6_ n7_ n8_ n9_; clear hb hbox hg; have hnb203 := NB302_270.out; have hnc203 := NB270_302.out; have hnb204 := NB302_272.out; have hnc204 := NB272_302.out; have hcz205_0 : w202.cell? ⟨gb302, 0, none⟩ = some (.int .i64 0) := (blk_cell BK302.out 0).trans rfl; have hcz205_1 : w202.cell? ⟨gb302, 1, none⟩ = some (.int .i64 0) := (blk_cell BK302.out 1).trans rfl; have hcz205_2 : w202.cell? ⟨gb302, 2, none⟩ = some (.int .i64 0) := (blk_cell BK302.out 2).trans rfl; have hfz205_0 := blk_frozen BK302.out 0; have hfz205_1 := blk_frozen BK302.out 1; have hfz205_2 := blk_frozen BK302.out 2) | ((with_reducible refine gate_callee (f := 88) rfl ?_); refine goesL_ (some 136) rfl rfl Tryz.func88 (by kernel_rfl) rfl #[.slice (some ad271) l0.length c0, .int .i64 (wrap64 (t301 - 1)), .slice A2 l2.length c2, .int .i64 a3, .bool a4] rfl (by (try simp only [List.map_toArray, List.map_cons, List.map_nil]); first | done | rfl | (simp only [List.length_drop, List.length_take]; rfl)) ?_; (with_reducible refine (ih kj54 (by have := HJ42.out; have := HJ54.out; omega) _ _ l0 (wrap64 (t301 - 1)) _ _ l2 a3 a4 t303 t304 t305 t306 _ ?side1 ?side2 ?side3 ?side4 A113.out).mono ?_); (case side1 => exact Kd.C_below HR0.out (by repeat (first | (with_reducible first | exact HB.out | apply below_alloc | apply pw_below_drewN | apply below_drew1 | refine below_set ?_ GE270.out | refine below_set ?_ GE272.out | refine below_set ?_ GE302.out) | exact HB.out))); (case side2 => exact HC0.out); (case side3 => exact Kd.C_below HR2.out (by repeat (first | (with_reducible first | exact HB.out | apply below_alloc | apply pw_below_drewN | apply below_drew1 | refine below_set ?_ GE270.out | refine below_set ?_ GE272.out | refine below_set ?_ GE302.out) | exact HB.out))); (case side4 => exact HC2.out); rintro e w206 ⟨rfl, hb⟩; refine ⟨_, rfl, ?_⟩; have n0_ := Aside0.mk (blk_below (g := gb270) (o := .cells #[.int .i64 0, .int .i64 0, .int .i64 0] 144 (0, 0)) (by (with_reducible repeat (first | refine blk_drewN ?_ _ | refine blk_drew ?_ | refine blk_alloc ?_ _)); refine blk_far ?_ NB270_302.out _; (with_reducible repeat (first | refine blk_drewN ?_ _ | refine blk_drew ?_ | refine blk_alloc ?_ _)); refine blk_far ?_ NB270_302.out _; (with_reducible repeat (first | refine blk_drewN ?_ _ | refine blk_drew ?_ | refine blk_alloc ?_ _)); refine blk_far ?_ NB270_302.out _; (with_reducible repeat (first | refine blk_drewN ?_ _ | refine blk_drew ?_ | refine blk_alloc ?_ _)); exact BK270.out) hb); have n1_ := Aside0.mk (blk_below (g := gb272) (o := .cells #[.int .i64 ((rd_T91 l0 a1).f0), .int .i64 ((rd_T91 l0 a1).f1), .int .i64 ((rd_T91 l0 a1).f2)] 91 (0, 0)) (by (with_reducible repeat (first | refine blk_drewN ?_ _ | refine blk_drew ?_ | refine blk_alloc ?_ _)); refine blk_far ?_ NB272_302.out _; (with_reducible repeat (first | refine blk_drewN ?_ _ | refine blk_drew ?_ | refine blk_alloc ?_ _)); refine blk_far ?_ NB272_302.out _; (with_reducible repeat (first | refine blk_drewN ?_ _ | refine blk_drew ?_ | refine blk_alloc ?_ _)); refine blk_far ?_ NB272_302.out _; (with_reducible repeat (first | refine blk_drewN ?_ _ | refine blk_drew ?_ | refine blk_alloc ?_ _)); exact BK272.out) hb); have n2_ := Aside0.mk (blk_below (g := gb302) (o := .cells #[.int .i64 t298, .int .i64 t299, .int .i64 t300] 144 (0, 0)) (by (with_reducible repeat (first | refine blk_drewN ?_ _ | refine blk_drew ?_ | refine blk_alloc ?_ _)); refine blk_put (cs := #[.int .i64 t298, .int .i64 t299, .int .i64 0]) ?_ 2 _ rfl; (with_reducible repeat (first | refine blk_drewN ?_ _ | refine blk_drew ?_ | refine blk_alloc ?_ _)); refine blk_put (cs := #[.int .i64 t298, .int .i64 0, .int .i64 0]) ?_ 1 _ rfl; (with_reducible repeat (first | refine blk_drewN ?_ _ | refine blk_drew ?_ | refine blk_alloc ?_ _)); refine blk_put (cs := #[.int .i64 0, .int .i64 0, .int .i64 0]) ?_ 0 _ rfl; (with_reducible repeat (first | refine blk_drewN ?_ _ | refine blk_drew ?_ | refine blk_alloc ?_ _)); exact BK302.out) hb); have n3_ := Aside0.mk (below_step (by repeat (first | (with_reducible first | exact HB.out | apply below_alloc | apply pw_below_drewN | apply below_drew1 | refine below_set ?_ GE270.out | refine below_set ?_ GE272.out | refine below_set ?_ GE302.out) | exact HB.out)) hb); clear BK270; clear BK272; clear BK302; clear HB; have BK270 := n0_; have BK272 := n1_; have BK302 := n2_; have HB := n3_; clear n0_ n1_ n2_ n3_; (try clear hb); (try clear hb2); (try clear hk); (try clear hi)) | ((with_reducible refine gate_dst (N := 17) rfl ?_); (try (refine gate_guard (by rfl) ?_; dsimp only)); refine box_event ?hg (N := 17) ?hd (cs := #[.int .i64 0, .int .i64 0, .int .i64 0]) (t := 144) ?hr ?_; (case hd => rfl); (case hg => rfl); (case hr => first | (go_simp; done) | (go_simp; rfl)); intro gb307 hg w207 hbox hb; have n0_ := Aside0.mk (blk_below (g := gb270) (o := .cells #[.int .i64 0, .int .i64 0, .int .i64 0] 144 (0, 0)) (by (with_reducible repeat (first | refine blk_drewN ?_ _ | refine blk_drew ?_ | refine blk_alloc ?_ _)); exact BK270.out) hb); have n1_ := Aside0.mk (blk_below (g := gb272) (o := .cells #[.int .i64 ((rd_T91 l0 a1).f0), .int .i64 ((rd_T91 l0 a1).f1), .int .i64 ((rd_T91 l0 a1).f2)] 91 (0, 0)) (by (with_reducible repeat (first | refine blk_drewN ?_ _ | refine blk_drew ?_ | refine blk_alloc ?_ _)); exact BK272.out) hb); have n2_ := Aside0.mk (blk_below (g := gb302) (o := .cells #[.int .i64 t298, .int .i64 t299, .int .i64 t300] 144 (0, 0)) (by (with_reducible repeat (first | refine blk_drewN ?_ _ | refine blk_drew ?_ | refine blk_alloc ?_ _)); exact BK302.out) hb); have n3_ := Aside0.mk (below_step (by repeat (first | (with_reducible first | exact HB.out | apply below_alloc | apply pw_below_drewN | apply below_drew1 | refine below_set ?_ GE270.out | refine below_set ?_ GE272.out | refine below_set ?_ GE302.out) | exact HB.out)) hb); have n4_ := Aside0.mk (hbox); have n5_ := Aside0.mk ((by rw [hg]; exact (below_size (by repeat (first | (with_reducible first | exact HB.out | apply below_alloc | apply pw_below_drewN | apply below_drew1 | refine below_set ?_ GE270.out | refine below_set ?_ GE272.out | refine below_set ?_ GE302.out) | exact HB.out))) : w.heap.size ≤ gb307)); have n6_ := Aside0.mk ((by rw [hg]; exact (below_size (by repeat (first | (with_reducible first | exact HB.out | apply below_alloc | apply pw_below_drewN | apply below_drew1 | refine below_set ?_ GE270.out | refine below_set ?_ GE272.out | refine below_set ?_ GE302.out) | exact HB.out))) : w.heap.size ≤ gb307)); have n7_ := Aside0.mk ((by rw [hg]; exact Nat.ne_of_lt (blk_lt (g := gb270) (o := .cells #[.int .i64 0, .int .i64 0, .int .i64 0] 144 (0, 0)) (by (with_reducible repeat (first | refine blk_drewN ?_ _ | refine blk_drew ?_ | refine blk_alloc ?_ _)); exact BK270.out)) : gb270 ≠ gb307)); have n8_ := Aside0.mk ((by rw [hg]; exact Nat.ne_of_gt (blk_lt (g := gb270) (o := .cells #[.int .i64 0, .int .i64 0, .int .i64 0] 144 (0, 0)) (by (with_reducible repeat (first | refine blk_drewN ?_ _ | refine blk_drew ?_ | refine blk_alloc ?_ _)); exact BK270.out)) : gb307 ≠ gb270)); have n9_ := Aside0.mk ((by rw [hg]; exact Nat.ne_of_lt (blk_lt (g := gb272) (o := .cells #[.int .i64 ((rd_T91 l0 a1).f0), .int .i64 ((rd_T91 l0 a1).f1), .int .i64 ((rd_T91 l0 a1).f2)] 91 (0, 0)) (by (with_reducible repeat (first | refine blk_drewN ?_ _ | refine blk_drew ?_ | refine blk_alloc ?_ _)); exact BK272.out)) : gb272 ≠ gb307)); have n10_ := Aside0.mk ((by rw [hg]; exact Nat.ne_of_gt (blk_lt (g := gb272) (o := .cells #[.int .i64 ((rd_T91 l0 a1).f0), .int .i64 ((rd_T91 l0 a1).f1), .int .i64 ((rd_T91 l0 a1).f2)] 91 (0, 0)) (by (with_reducible repeat (first | refine blk_drewN ?_ _ | refine blk_drew ?_ | refine blk_alloc ?_ _)); exact BK272.out)) : gb307 ≠ gb272)); have n11_ := Aside0.mk ((by rw [hg]; exact Nat.ne_of_lt (blk_lt (g := gb302) (o := .cells #[.int .i64 t298, .int .i64 t299, .int .i64 t300] 144 (0, 0)) (by (with_reducible repeat (first | refine blk_drewN ?_ _ | refine blk_drew ?_ | refine blk_alloc ?_ _)); exact BK302.out)) : gb302 ≠ gb307)); have n12_ := Aside0.mk ((by rw [hg]; exact Nat.ne_of_gt (blk_lt (g := gb302) (o := .cells #[.int .i64 t298, .int .i64 t299, .int .i64 t300] 144 (0, 0)) (by (with_reducible repeat (first | refine blk_drewN ?_ _ | refine blk_drew ?_ | refine blk_alloc ?_ _)); exact BK302.out)) : gb307 ≠ gb302)); clear BK270; clear BK272; clear BK302; clear HB; have BK270 := n0_; have BK272 := n1_; have BK302 := n2_; have HB := n3_; have BK307 := n4_; have GW307 := n5_; have GE307 := n6_; have NB270_307 := n7_; have NB307_270 := n8_; have NB272_307 := n9_; have NB307_272 := n10_; have NB302_307 := n11_; have NB307_302 := n12_; clear n0_ n1_ n2_ n3_ n4_ n5_ n6_ n7_ n8_ n9_ n10_ n11_ n12_; clear hb hbox hg; have hnb208 := NB307_270.out; have hnc208 := NB270_307.out; have hnb209 := NB307_272.out; have hnc209 := NB272_307.out; have hnb210 := NB307_302.out; have hnc210 := NB302_307.out; have hcz211_0 : w207.cell? ⟨gb307, 0, none⟩ = some (.int .i64 0) := (blk_cell BK307.out 0).trans rfl; have hcz211_1 : w207.cell? ⟨gb307, 1, none⟩ = some (.int .i64 0) := (blk_cell BK307.out 1).trans rfl; have hcz211_2 : w207.cell? ⟨gb307, 2, none⟩ = some (.int .i64 0) := (blk_cell BK307.out 2).trans rfl; have hfz211_0 := blk_frozen BK307.out 0; have hfz211_1 := blk_frozen BK307.out 1; have hfz211_2 := blk_frozen BK307.out 2; have hnb212 := NB270_272.out; have hnc212 := NB272_270.out; have hcz213_0 : w207.cell? ⟨gb270, 0, none⟩ = some (.int .i64 0) := (blk_cell BK270.out 0).trans rfl; have hcz213_1 : w207.cell? ⟨gb270, 1, none⟩ = some (.int .i64 0) := (blk_cell BK270.out 1).trans rfl; have hcz213_2 : w207.cell? ⟨gb270, 2, none⟩ = some (.int .i64 0) := (blk_cell BK270.out 2).trans rfl; have hfz213_0 := blk_frozen BK270.out 0; have hfz213_1 := blk_frozen BK270.out 1; have hfz213_2 := blk_frozen BK270.out 2))
                        refine bodyPost_ret (results_ct rfl _ _ gb270 144 #[.int .i64 t303, .int .i64 t304, .int .i64 t305] (0, 0) _ rfl (by (with_reducible repeat (first | refine blk_drewN ?_ _ | refine blk_drew ?_ | refine blk_alloc ?_ _)); refine blk_put (cs := #[.int .i64 t303, .int .i64 t304, .int .i64 0]) ?_ 2 _ rfl; (with_reducible repeat (first | refine blk_drewN ?_ _ | refine blk_drew ?_ | refine blk_alloc ?_ _)); refine blk_put (cs := #[.int .i64 t303, .int .i64 0, .int .i64 0]) ?_ 1 _ rfl; (with_reducible repeat (first | refine blk_drewN ?_ _ | refine blk_drew ?_ | refine blk_alloc ?_ _)); refine blk_put (cs := #[.int .i64 0, .int .i64 0, .int .i64 0]) ?_ 0 _ rfl; (with_reducible repeat (first | refine blk_drewN ?_ _ | refine blk_drew ?_ | refine blk_alloc ?_ _)); refine blk_far ?_ NB270_307.out _; (with_reducible repeat (first | refine blk_drewN ?_ _ | refine blk_drew ?_ | refine blk_alloc ?_ _)); refine blk_far ?_ NB270_307.out _; (with_reducible repeat (first | refine blk_drewN ?_ _ | refine blk_drew ?_ | refine blk_alloc ?_ _)); refine blk_far ?_ NB270_307.out _; (with_reducible repeat (first | refine blk_drewN ?_ _ | refine blk_drew ?_ | refine blk_alloc ?_ _)); exact BK270.out) Tryz.underlying144 rfl (by kernel_rfl)) rfl ?_
                        exact ⟨by first | rfl | (simp [errW_none, errW_some] <;> rfl) | (simp [*, errW_none, errW_some] <;> rfl), by repeat (first | (with_reducible first | exact HB.out | apply below_alloc | apply pw_below_drewN | apply below_drew1 | refine below_set ?_ GE270.out | refine below_set ?_ GE272.out | refine below_set ?_ GE302.out | refine below_set ?_ GE307.out) | exact HB.out)⟩
    · rw [if_neg c7] at H
      exact absurd H (by simp)
  · rw [if_neg c6] at H
    exact absurd H (by simp)
end Go.Proofs.YtemoonhnncopoaaGreatDoor.PAll
end
