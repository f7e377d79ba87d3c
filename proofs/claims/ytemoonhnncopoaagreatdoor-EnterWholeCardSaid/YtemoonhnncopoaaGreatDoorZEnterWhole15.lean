/- Texts of this claim, merged (PAllR5). -/
import Derived.Test.YtemoonhnncopoaaGreatDoorZEnterWhole2
set_option linter.unusedVariables false
set_option linter.unusedSimpArgs false
set_option maxRecDepth 100000
set_option maxHeartbeats 8000000
section
namespace Go.Proofs.YtemoonhnncopoaaGreatDoor.PAll
open Go.RowKit Go.Proofs.YtemoonhnncopoaaGreatDoorW.PrintWords Go.Proofs.YtemoonhnncopoaaGreatDoorW.PrintLast Go.Proofs.YtemoonhnncopoaaGreatDoorW.PrintMore
attribute [local go_sem] max2_int min2_int max_two min_two max_three min_three max_four min_four   -- for this text's walks alone
def spinetref05_Kids.l0 : Nat → Int → List Int → Int → Int → List (S54) → List (S56) → Option (List Int)
 | 0, _, _, _, _, _, _ => none
 | k + 1, x1, x5, x6, x429000, x429001, x429002 => if x6 < (x429001.length : Int) then (if 0 ≤ x6 then (if ((rd_T54 x429001 x6).f1) = x1 then (if ((rd_T54 x429001 x6).f0) = 5 then (spinetref05_Kids.l0 k x1 x5 (wrap64 (x6 + 1)) x429000 x429001 x429002) else (if ((rd_T54 x429001 x6).f0) = 6 then (spinetref05_Kids.l0 k x1 x5 (wrap64 (x6 + 1)) x429000 x429001 x429002) else (if x5.length < 17592186044416 then (spinetref05_Kids.l0 k x1 (x5 ++ [x6]) (wrap64 (x6 + 1)) x429000 x429001 x429002) else (none)))) else (spinetref05_Kids.l0 k x1 x5 (wrap64 (x6 + 1)) x429000 x429001 x429002)) else (none)) else (some x5)
def spinetref05_Kids.f (k : Nat) (a0_0 : Int) (l0_1 : List (S54)) (l0_2 : List (S56)) (a1 : Int) : Option (List Int) := spinetref05_Kids.l0 k a1 ([] : List Int) 0 a0_0 l0_1 l0_2
theorem spinetref05_Kids.calls (k : Nat) (a0_0 : Int) (A0_1 : Option Addr) (c0_1 : Nat) (l0_1 : List (S54)) (A0_2 : Option Addr) (c0_2 : Nat) (l0_2 : List (S56)) (a1 : Int) (r : List Int) (w : World) (hr0_1 : Kd.C k54 w A0_1 l0_1.length l0_1) (hc0_1 : l0_1.length ≤ c0_1) (hr0_2 : Kd.C k56 w A0_2 l0_2.length l0_2) (hc0_2 : l0_2.length ≤ c0_2) (h : spinetref05_Kids.f k a0_0 l0_1 l0_2 a1 = some r) :
  Calls Tryz.prog 44 #[.agg #[.int .i64 a0_0, .slice A0_1 l0_1.length c0_1, .slice A0_2 l0_2.length c0_2], .int .i64 a1] w fun e w' => ∃ v0_ : Value, e = .returned (v0_) ∧ Kd.R (Kd.int .i64) 3 w' w.heap.size (fun _ => True) v0_ r ∧ Below w.heap.size w w' := by
 have hu47 := Tryz.underlying47
 have HR0_1 := Aside0.mk hr0_1
 have HC0_1 := Aside0.mk hc0_1
 clear hr0_1 hc0_1
 have HR0_2 := Aside0.mk hr0_2
 have HC0_2 := Aside0.mk hc0_2
 clear hr0_2 hc0_2
 have HB := Aside0.mk (Below.refl w.heap.size w)
 have H : (spinetref05_Kids.l0 k a1 ([] : List Int) 0 a0_0 l0_1 l0_2) = some r := h
 clear h
 have H' := Aside0.mk H
 clear H
 go_enter Tryz.func44, Tryz.ntmps44
 go_wp2_with (first | ((with_reducible refine gate_dst (N := 2) rfl ?_); refine box_event ?hg (N := 2) ?hd (cs := #[.int .i64 a0_0, .slice A0_1 l0_1.length c0_1, .slice A0_2 l0_2.length c0_2]) (t := 47) ?hr ?_; (case hd => rfl); (case hg => rfl); (case hr => first | (go_simp; done) | (go_simp; rfl)); intro gb428 hg w3 hbox hb; have n0_ := Aside0.mk (below_step (by repeat (first | (with_reducible first | exact HB.out | apply below_alloc | apply pw_below_drewN | apply below_drew1) | exact HB.out)) hb); have n1_ := Aside0.mk (hbox); have n2_ := Aside0.mk ((by rw [hg]; exact (below_size (by repeat (first | (with_reducible first | exact HB.out | apply below_alloc | apply pw_below_drewN | apply below_drew1) | exact HB.out))) : w.heap.size ≤ gb428)); have n3_ := Aside0.mk ((by rw [hg]; exact (below_size (by repeat (first | (with_reducible first | exact HB.out | apply below_alloc | apply pw_below_drewN | apply below_drew1) | exact HB.out))) : w.heap.size ≤ gb428)); clear HB; have HB := n0_; have BK428 := n1_; have GW428 := n2_; have GE428 := n3_; clear n0_ n1_ n2_ n3_; clear hb hbox hg))
 go_loopg [5, 6] k (fun kq v5 v6 w' => ∃ (x5_1 : List Int) (x6_1 : Int), v6 = .int .i64 x6_1 ∧ Aside0 (spinetref05_Kids.l0 kq a1 x5_1 x6_1 a0_0 l0_1 l0_2 = some r) ∧ Aside0 (kq ≤ k) ∧ Aside0 (Kd.R (Kd.int .i64) 3 w' w.heap.size (fun _ => True) v5 x5_1) ∧ Aside0 (w'.heap[gb428]? = some (.cells #[.int .i64 a0_0, (.slice A0_1 l0_1.length c0_1), (.slice A0_2 l0_2.length c0_2)] 47 (0, 0))) ∧ Aside0 (Below w.heap.size w w'))
 case atStart => exact ⟨(([] : List Int)), (0), (by first | rfl | (simp; done) | (simp [*]; done)), H', ⟨Nat.le_refl _⟩, ⟨by first | exact Kd.R_nil _ _ _ _ _ | exact Kd.N_nil _ _ _ _ _ | exact Kd.V_nil _ _ _ _ _ | exact Kd.Q_nil _ _ _ _ _ | exact Kd.S_nil _ _ _ _ _⟩, ⟨by (with_reducible repeat (first | refine blk_drewN ?_ _ | refine blk_drew ?_ | refine blk_alloc ?_ _)); exact BK428.out⟩, ⟨by repeat (first | (with_reducible first | exact HB.out | apply below_alloc | apply pw_below_drewN | apply below_drew1 | refine below_set ?_ GE428.out) | exact HB.out)⟩⟩
 case round =>
  clear H'
  try clear p2
  obtain ⟨x5_1, x6_1, rfl, HA, HK1, HO_5, BK428, HB⟩ := hrel
  cases gk with
  | zero => exact absurd HA.out (by simp [spinetref05_Kids.l0])
  | succ k1 =>
   have H := HA.out
   clear HA
   simp only [spinetref05_Kids.l0] at H
   by_cases c4 : x6_1 < (l0_1.length : Int)
   ·rw [if_pos c4] at H
    have c4b0 : decide (x6_1 < (l0_1.length : Int)) = true := decide_eq_true c4
    clear c4
    by_cases c5 : 0 ≤ x6_1
    ·rw [if_pos c5] at H
     have c5b0 : decide (0 ≤ x6_1) = true := decide_eq_true c5
     clear c5
     by_cases c6 : ((rd_T54 l0_1 x6_1).f1) = a1
     ·rw [if_pos c6] at H
      have c6b0 : (((rd_T54 l0_1 x6_1).f1) == a1) = true := beq_iff_eq.mpr c6
      have c6b1 : (((rd_T54 l0_1 x6_1).f1) != a1) = false := bne_eq_false_iff_eq.mpr c6
      clear c6
      by_cases c7 : ((rd_T54 l0_1 x6_1).f0) = 5
      ·rw [if_pos c7] at H
       have c7b0 : (((rd_T54 l0_1 x6_1).f0) == 5) = true := beq_iff_eq.mpr c7
       have c7b1 : (((rd_T54 l0_1 x6_1).f0) != 5) = false := bne_eq_false_iff_eq.mpr c7
       clear c7
       have H' := Aside0.mk H
       clear H
       have hcz8_0 : wr.cell? ⟨gb428, 0, none⟩ = some (.int .i64 a0_0) := (blk_cell BK428.out 0).trans rfl
       have hcz8_1 : wr.cell? ⟨gb428, 1, none⟩ = some (.slice A0_1 l0_1.length c0_1) := (blk_cell BK428.out 1).trans rfl
       have hcz8_2 : wr.cell? ⟨gb428, 2, none⟩ = some (.slice A0_2 l0_2.length c0_2) := (blk_cell BK428.out 2).trans rfl
       have hfz8_0 := blk_frozen BK428.out 0
       have hfz8_1 := blk_frozen BK428.out 1
       have hfz8_2 := blk_frozen BK428.out 2
       have p429 : 0 ≤ (x6_1 : Int) := of_decide_eq_true (by first | (with_reducible assumption) | assumption)
       have q429 : x6_1 < (l0_1.length : Int) := of_decide_eq_true (by first | (with_reducible assumption) | assumption)
       obtain ⟨ad429, A429_2, c429_2, A429_3, c429_3, A429_4, c429_4, e429, hx429_0, hx429_1, hx429_2, hx429_3, hx429_4, hl429_2, hi429_2, hl429_3, hi429_3, hl429_4, hi429_4⟩ := at_T54 HR0_1.out x6_1 p429 q429
       cases e429
       replace hx429_0 := (HB.out.cell (World.block_lt_of_cell? w _ hx429_0)).trans hx429_0
       replace hx429_1 := (HB.out.cell (World.block_lt_of_cell? w _ hx429_1)).trans hx429_1
       replace hx429_2 := (HB.out.cell (World.block_lt_of_cell? w _ hx429_2)).trans hx429_2
       replace hx429_3 := (HB.out.cell (World.block_lt_of_cell? w _ hx429_3)).trans hx429_3
       replace hx429_4 := (HB.out.cell (World.block_lt_of_cell? w _ hx429_4)).trans hx429_4
       have HR429_2 := Aside0.mk hi429_2
       have HC429_2 := Aside0.mk hl429_2
       clear hi429_2 hl429_2
       have HR429_3 := Aside0.mk hi429_3
       have HC429_3 := Aside0.mk hl429_3
       clear hi429_3 hl429_3
       have HR429_4 := Aside0.mk hi429_4
       have HC429_4 := Aside0.mk hl429_4
       clear hi429_4 hl429_4
       replace p429 := eq_true p429
       replace q429 := eq_true q429
       have p430 : 0 ≤ (x6_1 : Int) := of_decide_eq_true (by first | (with_reducible assumption) | assumption)
       have q430 : x6_1 < (l0_1.length : Int) := of_decide_eq_true (by first | (with_reducible assumption) | assumption)
       obtain ⟨ad430, A430_2, c430_2, A430_3, c430_3, A430_4, c430_4, e430, hx430_0, hx430_1, hx430_2, hx430_3, hx430_4, hl430_2, hi430_2, hl430_3, hi430_3, hl430_4, hi430_4⟩ := at_T54 HR0_1.out x6_1 p430 q430
       obtain rfl : ad429 = ad430 := (by injection e430)
       replace hx430_0 := (HB.out.cell (World.block_lt_of_cell? w _ hx430_0)).trans hx430_0
       replace hx430_1 := (HB.out.cell (World.block_lt_of_cell? w _ hx430_1)).trans hx430_1
       replace hx430_2 := (HB.out.cell (World.block_lt_of_cell? w _ hx430_2)).trans hx430_2
       replace hx430_3 := (HB.out.cell (World.block_lt_of_cell? w _ hx430_3)).trans hx430_3
       replace hx430_4 := (HB.out.cell (World.block_lt_of_cell? w _ hx430_4)).trans hx430_4
       have HR430_2 := Aside0.mk hi430_2
       have HC430_2 := Aside0.mk hl430_2
       clear hi430_2 hl430_2
       have HR430_3 := Aside0.mk hi430_3
       have HC430_3 := Aside0.mk hl430_3
       clear hi430_3 hl430_3
       have HR430_4 := Aside0.mk hi430_4
       have HC430_4 := Aside0.mk hl430_4
       clear hi430_4 hl430_4
       replace p430 := eq_true p430
       replace q430 := eq_true q430
       have ea_ := Option.some.inj (hx429_2.symm.trans hx430_2)
       injection ea_ with ea_ en_ ec_
       subst ea_
       subst ec_
       clear en_
       have ea_ := Option.some.inj (hx429_3.symm.trans hx430_3)
       injection ea_ with ea_ en_ ec_
       subst ea_
       subst ec_
       clear en_
       have ea_ := Option.some.inj (hx429_4.symm.trans hx430_4)
       injection ea_ with ea_ en_ ec_
       subst ea_
       subst ec_
       clear en_
       go_wp2
       go_roundg k1
       case measure => have := HK1.out; omega
       case rel => exact ⟨(x5_1), (wrap64 (x6_1 + 1)), (by first | rfl | (simp; done) | (simp [*]; done)), H', ⟨by have := HK1.out; omega⟩, ⟨by (with_reducible repeat (first | apply Kd.R_alloc | apply Kd.R_drewN | apply Kd.R_drew)); exact HO_5.out⟩, ⟨by (with_reducible repeat (first | refine blk_drewN ?_ _ | refine blk_drew ?_ | refine blk_alloc ?_ _)); exact BK428.out⟩, ⟨by repeat (first | (with_reducible first | exact HB.out | apply below_alloc | apply pw_below_drewN | apply below_drew1 | refine below_set ?_ GE428.out) | exact HB.out)⟩⟩
      ·rw [if_neg c7] at H
       have c7b0 : (((rd_T54 l0_1 x6_1).f0) == 5) = false := beq_eq_false_iff_ne.mpr c7
       have c7b1 : (((rd_T54 l0_1 x6_1).f0) != 5) = true := bne_iff_ne.mpr c7
       by_cases c9 : ((rd_T54 l0_1 x6_1).f0) = 6
       ·rw [if_pos c9] at H
        have c9b0 : (((rd_T54 l0_1 x6_1).f0) == 6) = true := beq_iff_eq.mpr c9
        have c9b1 : (((rd_T54 l0_1 x6_1).f0) != 6) = false := bne_eq_false_iff_eq.mpr c9
        clear c9
        have H' := Aside0.mk H
        clear H
        have hcz10_0 : wr.cell? ⟨gb428, 0, none⟩ = some (.int .i64 a0_0) := (blk_cell BK428.out 0).trans rfl
        have hcz10_1 : wr.cell? ⟨gb428, 1, none⟩ = some (.slice A0_1 l0_1.length c0_1) := (blk_cell BK428.out 1).trans rfl
        have hcz10_2 : wr.cell? ⟨gb428, 2, none⟩ = some (.slice A0_2 l0_2.length c0_2) := (blk_cell BK428.out 2).trans rfl
        have hfz10_0 := blk_frozen BK428.out 0
        have hfz10_1 := blk_frozen BK428.out 1
        have hfz10_2 := blk_frozen BK428.out 2
        have p429 : 0 ≤ (x6_1 : Int) := of_decide_eq_true (by first | (with_reducible assumption) | assumption)
        have q429 : x6_1 < (l0_1.length : Int) := of_decide_eq_true (by first | (with_reducible assumption) | assumption)
        obtain ⟨ad429, A429_2, c429_2, A429_3, c429_3, A429_4, c429_4, e429, hx429_0, hx429_1, hx429_2, hx429_3, hx429_4, hl429_2, hi429_2, hl429_3, hi429_3, hl429_4, hi429_4⟩ := at_T54 HR0_1.out x6_1 p429 q429
        cases e429
        replace hx429_0 := (HB.out.cell (World.block_lt_of_cell? w _ hx429_0)).trans hx429_0
        replace hx429_1 := (HB.out.cell (World.block_lt_of_cell? w _ hx429_1)).trans hx429_1
        replace hx429_2 := (HB.out.cell (World.block_lt_of_cell? w _ hx429_2)).trans hx429_2
        replace hx429_3 := (HB.out.cell (World.block_lt_of_cell? w _ hx429_3)).trans hx429_3
        replace hx429_4 := (HB.out.cell (World.block_lt_of_cell? w _ hx429_4)).trans hx429_4
        have HR429_2 := Aside0.mk hi429_2
        have HC429_2 := Aside0.mk hl429_2
        clear hi429_2 hl429_2
        have HR429_3 := Aside0.mk hi429_3
        have HC429_3 := Aside0.mk hl429_3
        clear hi429_3 hl429_3
        have HR429_4 := Aside0.mk hi429_4
        have HC429_4 := Aside0.mk hl429_4
        clear hi429_4 hl429_4
        replace p429 := eq_true p429
        replace q429 := eq_true q429
        have p430 : 0 ≤ (x6_1 : Int) := of_decide_eq_true (by first | (with_reducible assumption) | assumption)
        have q430 : x6_1 < (l0_1.length : Int) := of_decide_eq_true (by first | (with_reducible assumption) | assumption)
        obtain ⟨ad430, A430_2, c430_2, A430_3, c430_3, A430_4, c430_4, e430, hx430_0, hx430_1, hx430_2, hx430_3, hx430_4, hl430_2, hi430_2, hl430_3, hi430_3, hl430_4, hi430_4⟩ := at_T54 HR0_1.out x6_1 p430 q430
        obtain rfl : ad429 = ad430 := (by injection e430)
        replace hx430_0 := (HB.out.cell (World.block_lt_of_cell? w _ hx430_0)).trans hx430_0
        replace hx430_1 := (HB.out.cell (World.block_lt_of_cell? w _ hx430_1)).trans hx430_1
        replace hx430_2 := (HB.out.cell (World.block_lt_of_cell? w _ hx430_2)).trans hx430_2
        replace hx430_3 := (HB.out.cell (World.block_lt_of_cell? w _ hx430_3)).trans hx430_3
        replace hx430_4 := (HB.out.cell (World.block_lt_of_cell? w _ hx430_4)).trans hx430_4
        have HR430_2 := Aside0.mk hi430_2
        have HC430_2 := Aside0.mk hl430_2
        clear hi430_2 hl430_2
        have HR430_3 := Aside0.mk hi430_3
        have HC430_3 := Aside0.mk hl430_3
        clear hi430_3 hl430_3
        have HR430_4 := Aside0.mk hi430_4
        have HC430_4 := Aside0.mk hl430_4
        clear hi430_4 hl430_4
        replace p430 := eq_true p430
        replace q430 := eq_true q430
        have ea_ := Option.some.inj (hx429_2.symm.trans hx430_2)
        injection ea_ with ea_ en_ ec_
        subst ea_
        subst ec_
        clear en_
        have ea_ := Option.some.inj (hx429_3.symm.trans hx430_3)
        injection ea_ with ea_ en_ ec_
        subst ea_
        subst ec_
        clear en_
        have ea_ := Option.some.inj (hx429_4.symm.trans hx430_4)
        injection ea_ with ea_ en_ ec_
        subst ea_
        subst ec_
        clear en_
        have p431 : 0 ≤ (x6_1 : Int) := of_decide_eq_true (by first | (with_reducible assumption) | assumption)
        have q431 : x6_1 < (l0_1.length : Int) := of_decide_eq_true (by first | (with_reducible assumption) | assumption)
        obtain ⟨ad431, A431_2, c431_2, A431_3, c431_3, A431_4, c431_4, e431, hx431_0, hx431_1, hx431_2, hx431_3, hx431_4, hl431_2, hi431_2, hl431_3, hi431_3, hl431_4, hi431_4⟩ := at_T54 HR0_1.out x6_1 p431 q431
        obtain rfl : ad429 = ad431 := (by injection e431)
        replace hx431_0 := (HB.out.cell (World.block_lt_of_cell? w _ hx431_0)).trans hx431_0
        replace hx431_1 := (HB.out.cell (World.block_lt_of_cell? w _ hx431_1)).trans hx431_1
        replace hx431_2 := (HB.out.cell (World.block_lt_of_cell? w _ hx431_2)).trans hx431_2
        replace hx431_3 := (HB.out.cell (World.block_lt_of_cell? w _ hx431_3)).trans hx431_3
        replace hx431_4 := (HB.out.cell (World.block_lt_of_cell? w _ hx431_4)).trans hx431_4
        have HR431_2 := Aside0.mk hi431_2
        have HC431_2 := Aside0.mk hl431_2
        clear hi431_2 hl431_2
        have HR431_3 := Aside0.mk hi431_3
        have HC431_3 := Aside0.mk hl431_3
        clear hi431_3 hl431_3
        have HR431_4 := Aside0.mk hi431_4
        have HC431_4 := Aside0.mk hl431_4
        clear hi431_4 hl431_4
        replace p431 := eq_true p431
        replace q431 := eq_true q431
        have ea_ := Option.some.inj (hx429_2.symm.trans hx431_2)
        injection ea_ with ea_ en_ ec_
        subst ea_
        subst ec_
        clear en_
        have ea_ := Option.some.inj (hx429_3.symm.trans hx431_3)
        injection ea_ with ea_ en_ ec_
        subst ea_
        subst ec_
        clear en_
        have ea_ := Option.some.inj (hx429_4.symm.trans hx431_4)
        injection ea_ with ea_ en_ ec_
        subst ea_
        subst ec_
        clear en_
        go_wp2
        go_roundg k1
        case measure => have := HK1.out; omega
        case rel => exact ⟨(x5_1), (wrap64 (x6_1 + 1)), (by first | rfl | (simp; done) | (simp [*]; done)), H', ⟨by have := HK1.out; omega⟩, ⟨by (with_reducible repeat (first | apply Kd.R_alloc | apply Kd.R_drewN | apply Kd.R_drew)); exact HO_5.out⟩, ⟨by (with_reducible repeat (first | refine blk_drewN ?_ _ | refine blk_drew ?_ | refine blk_alloc ?_ _)); exact BK428.out⟩, ⟨by repeat (first | (with_reducible first | exact HB.out | apply below_alloc | apply pw_below_drewN | apply below_drew1 | refine below_set ?_ GE428.out) | exact HB.out)⟩⟩
       ·rw [if_neg c9] at H
        have c9b0 : (((rd_T54 l0_1 x6_1).f0) == 6) = false := beq_eq_false_iff_ne.mpr c9
        have c9b1 : (((rd_T54 l0_1 x6_1).f0) != 6) = true := bne_iff_ne.mpr c9
        by_cases c11 : x5_1.length < 17592186044416
        ·rw [if_pos c11] at H
         have LMc11 := Aside0.mk c11
         clear c11
         obtain ⟨y432, hy432⟩ : ∃ y_ : List Int, y_ = (x5_1 ++ [x6_1]) := ⟨_, rfl⟩
         replace H : (spinetref05_Kids.l0 k1 a1 y432 (wrap64 (x6_1 + 1)) a0_0 l0_1 l0_2) = some r := by first | (rw [hy432]; with_reducible exact H) | (have H2_ := (Option.bind_some _ _).symm.trans H; rw [hy432]; with_reducible exact H2_) | (have H2_ := (Option.bind_some _ _).symm.trans H; with_reducible exact H2_) | with_reducible exact H | (rw [hy432]; exact H) | exact H
         have Ny432 := Aside0.mk hy432
         clear hy432
         have H' := Aside0.mk H
         clear H
         have hcz12_0 : wr.cell? ⟨gb428, 0, none⟩ = some (.int .i64 a0_0) := (blk_cell BK428.out 0).trans rfl
         have hcz12_1 : wr.cell? ⟨gb428, 1, none⟩ = some (.slice A0_1 l0_1.length c0_1) := (blk_cell BK428.out 1).trans rfl
         have hcz12_2 : wr.cell? ⟨gb428, 2, none⟩ = some (.slice A0_2 l0_2.length c0_2) := (blk_cell BK428.out 2).trans rfl
         have hfz12_0 := blk_frozen BK428.out 0
         have hfz12_1 := blk_frozen BK428.out 1
         have hfz12_2 := blk_frozen BK428.out 2
         have p429 : 0 ≤ (x6_1 : Int) := of_decide_eq_true (by first | (with_reducible assumption) | assumption)
         have q429 : x6_1 < (l0_1.length : Int) := of_decide_eq_true (by first | (with_reducible assumption) | assumption)
         obtain ⟨ad429, A429_2, c429_2, A429_3, c429_3, A429_4, c429_4, e429, hx429_0, hx429_1, hx429_2, hx429_3, hx429_4, hl429_2, hi429_2, hl429_3, hi429_3, hl429_4, hi429_4⟩ := at_T54 HR0_1.out x6_1 p429 q429
         cases e429
         replace hx429_0 := (HB.out.cell (World.block_lt_of_cell? w _ hx429_0)).trans hx429_0
         replace hx429_1 := (HB.out.cell (World.block_lt_of_cell? w _ hx429_1)).trans hx429_1
         replace hx429_2 := (HB.out.cell (World.block_lt_of_cell? w _ hx429_2)).trans hx429_2
         replace hx429_3 := (HB.out.cell (World.block_lt_of_cell? w _ hx429_3)).trans hx429_3
         replace hx429_4 := (HB.out.cell (World.block_lt_of_cell? w _ hx429_4)).trans hx429_4
         have HR429_2 := Aside0.mk hi429_2
         have HC429_2 := Aside0.mk hl429_2
         clear hi429_2 hl429_2
         have HR429_3 := Aside0.mk hi429_3
         have HC429_3 := Aside0.mk hl429_3
         clear hi429_3 hl429_3
         have HR429_4 := Aside0.mk hi429_4
         have HC429_4 := Aside0.mk hl429_4
         clear hi429_4 hl429_4
         replace p429 := eq_true p429
         replace q429 := eq_true q429
         have p430 : 0 ≤ (x6_1 : Int) := of_decide_eq_true (by first | (with_reducible assumption) | assumption)
         have q430 : x6_1 < (l0_1.length : Int) := of_decide_eq_true (by first | (with_reducible assumption) | assumption)
         obtain ⟨ad430, A430_2, c430_2, A430_3, c430_3, A430_4, c430_4, e430, hx430_0, hx430_1, hx430_2, hx430_3, hx430_4, hl430_2, hi430_2, hl430_3, hi430_3, hl430_4, hi430_4⟩ := at_T54 HR0_1.out x6_1 p430 q430
         obtain rfl : ad429 = ad430 := (by injection e430)
         replace hx430_0 := (HB.out.cell (World.block_lt_of_cell? w _ hx430_0)).trans hx430_0
         replace hx430_1 := (HB.out.cell (World.block_lt_of_cell? w _ hx430_1)).trans hx430_1
         replace hx430_2 := (HB.out.cell (World.block_lt_of_cell? w _ hx430_2)).trans hx430_2
         replace hx430_3 := (HB.out.cell (World.block_lt_of_cell? w _ hx430_3)).trans hx430_3
         replace hx430_4 := (HB.out.cell (World.block_lt_of_cell? w _ hx430_4)).trans hx430_4
         have HR430_2 := Aside0.mk hi430_2
         have HC430_2 := Aside0.mk hl430_2
         clear hi430_2 hl430_2
         have HR430_3 := Aside0.mk hi430_3
         have HC430_3 := Aside0.mk hl430_3
         clear hi430_3 hl430_3
         have HR430_4 := Aside0.mk hi430_4
         have HC430_4 := Aside0.mk hl430_4
         clear hi430_4 hl430_4
         replace p430 := eq_true p430
         replace q430 := eq_true q430
         have ea_ := Option.some.inj (hx429_2.symm.trans hx430_2)
         injection ea_ with ea_ en_ ec_
         subst ea_
         subst ec_
         clear en_
         have ea_ := Option.some.inj (hx429_3.symm.trans hx430_3)
         injection ea_ with ea_ en_ ec_
         subst ea_
         subst ec_
         clear en_
         have ea_ := Option.some.inj (hx429_4.symm.trans hx430_4)
         injection ea_ with ea_ en_ ec_
         subst ea_
         subst ec_
         clear en_
         have p431 : 0 ≤ (x6_1 : Int) := of_decide_eq_true (by first | (with_reducible assumption) | assumption)
         have q431 : x6_1 < (l0_1.length : Int) := of_decide_eq_true (by first | (with_reducible assumption) | assumption)
         obtain ⟨ad431, A431_2, c431_2, A431_3, c431_3, A431_4, c431_4, e431, hx431_0, hx431_1, hx431_2, hx431_3, hx431_4, hl431_2, hi431_2, hl431_3, hi431_3, hl431_4, hi431_4⟩ := at_T54 HR0_1.out x6_1 p431 q431
         obtain rfl : ad429 = ad431 := (by injection e431)
         replace hx431_0 := (HB.out.cell (World.block_lt_of_cell? w _ hx431_0)).trans hx431_0
         replace hx431_1 := (HB.out.cell (World.block_lt_of_cell? w _ hx431_1)).trans hx431_1
         replace hx431_2 := (HB.out.cell (World.block_lt_of_cell? w _ hx431_2)).trans hx431_2
         replace hx431_3 := (HB.out.cell (World.block_lt_of_cell? w _ hx431_3)).trans hx431_3
         replace hx431_4 := (HB.out.cell (World.block_lt_of_cell? w _ hx431_4)).trans hx431_4
         have HR431_2 := Aside0.mk hi431_2
         have HC431_2 := Aside0.mk hl431_2
         clear hi431_2 hl431_2
         have HR431_3 := Aside0.mk hi431_3
         have HC431_3 := Aside0.mk hl431_3
         clear hi431_3 hl431_3
         have HR431_4 := Aside0.mk hi431_4
         have HC431_4 := Aside0.mk hl431_4
         clear hi431_4 hl431_4
         replace p431 := eq_true p431
         replace q431 := eq_true q431
         have ea_ := Option.some.inj (hx429_2.symm.trans hx431_2)
         injection ea_ with ea_ en_ ec_
         subst ea_
         subst ec_
         clear en_
         have ea_ := Option.some.inj (hx429_3.symm.trans hx431_3)
         injection ea_ with ea_ en_ ec_
         subst ea_
         subst ec_
         clear en_
         have ea_ := Option.some.inj (hx429_4.symm.trans hx431_4)
         injection ea_ with ea_ en_ ec_
         subst ea_
         subst ec_
         clear en_
         go_wp2_with (first | ((with_reducible refine gate_builtin (b := .append) (xs := #[.tmp 40, .tmp 42]) rfl ?_); at_builtin; refine Kd.R_append (Kd.int .i64) (w0 := w) w.heap.size rfl (.tmp 40) (.tmp 42) 27 3 (.int .i64 0) 8 rfl Tryz.underlying27 info3 rfl (by decide) (by omega) u5 x5_1 x6_1 [.int .i64 x6_1] (fun _ => True) (fun _ => False) rfl rfl ?aP (fun _ hk => hk.elim) ?aF ?aO ?aB ?aS ?aL ?_; (case aP => exact rfl); (case aB => exact (by repeat (first | (with_reducible first | exact HB.out | apply below_alloc | apply pw_below_drewN | apply below_drew1 | refine below_set ?_ GE428.out) | exact HB.out))); (case aF => exact (fun _ _ => trivial)); (case aO => exact (by (with_reducible repeat (first | apply Kd.R_alloc | apply Kd.R_drewN | apply Kd.R_drew)); exact HO_5.out)); (case aS => exact (below_size (by repeat (first | (with_reducible first | exact HB.out | apply below_alloc | apply pw_below_drewN | apply below_drew1 | refine below_set ?_ GE428.out) | exact HB.out)))); (case aL => have := LMc11.out; omega); intro v433 w13 ho hb hg hat; rw [← Ny432.out] at ho; have n0_ := Aside0.mk (blk_grown (g := gb428) (o := .cells #[.int .i64 a0_0, .slice (some ad429) l0_1.length c0_1, .slice A0_2 l0_2.length c0_2] 47 (0, 0)) (by (with_reducible repeat (first | refine blk_drewN ?_ _ | refine blk_drew ?_ | refine blk_alloc ?_ _)); exact BK428.out) hg (Kd.R_ne HO_5.out BK428.out (by decide))); have n1_ := Aside0.mk (hb); have n2_ := Aside0.mk (ho); clear BK428; clear HB; clear HO_5; have BK428 := n0_; have HB := n1_; have HO434 := n2_; clear n0_ n1_ n2_; clear ho hb hg hat))
         go_roundg k1
         case measure => have := HK1.out; omega
         case rel => exact ⟨(y432), (wrap64 (x6_1 + 1)), (by first | rfl | (simp; done) | (simp [*]; done)), H', ⟨by have := HK1.out; omega⟩, ⟨by (with_reducible repeat (first | apply Kd.R_alloc | apply Kd.R_drewN | apply Kd.R_drew)); exact HO434.out⟩, ⟨by (with_reducible repeat (first | refine blk_drewN ?_ _ | refine blk_drew ?_ | refine blk_alloc ?_ _)); exact BK428.out⟩, ⟨by repeat (first | (with_reducible first | exact HB.out | apply below_alloc | apply pw_below_drewN | apply below_drew1 | refine below_set ?_ GE428.out) | exact HB.out)⟩⟩
        ·rw [if_neg c11] at H
         exact absurd H (by simp)
     ·rw [if_neg c6] at H
      have c6b0 : (((rd_T54 l0_1 x6_1).f1) == a1) = false := beq_eq_false_iff_ne.mpr c6
      have c6b1 : (((rd_T54 l0_1 x6_1).f1) != a1) = true := bne_iff_ne.mpr c6
      have H' := Aside0.mk H
      clear H
      have hcz14_0 : wr.cell? ⟨gb428, 0, none⟩ = some (.int .i64 a0_0) := (blk_cell BK428.out 0).trans rfl
      have hcz14_1 : wr.cell? ⟨gb428, 1, none⟩ = some (.slice A0_1 l0_1.length c0_1) := (blk_cell BK428.out 1).trans rfl
      have hcz14_2 : wr.cell? ⟨gb428, 2, none⟩ = some (.slice A0_2 l0_2.length c0_2) := (blk_cell BK428.out 2).trans rfl
      have hfz14_0 := blk_frozen BK428.out 0
      have hfz14_1 := blk_frozen BK428.out 1
      have hfz14_2 := blk_frozen BK428.out 2
      have p429 : 0 ≤ (x6_1 : Int) := of_decide_eq_true (by first | (with_reducible assumption) | assumption)
      have q429 : x6_1 < (l0_1.length : Int) := of_decide_eq_true (by first | (with_reducible assumption) | assumption)
      obtain ⟨ad429, A429_2, c429_2, A429_3, c429_3, A429_4, c429_4, e429, hx429_0, hx429_1, hx429_2, hx429_3, hx429_4, hl429_2, hi429_2, hl429_3, hi429_3, hl429_4, hi429_4⟩ := at_T54 HR0_1.out x6_1 p429 q429
      cases e429
      replace hx429_0 := (HB.out.cell (World.block_lt_of_cell? w _ hx429_0)).trans hx429_0
      replace hx429_1 := (HB.out.cell (World.block_lt_of_cell? w _ hx429_1)).trans hx429_1
      replace hx429_2 := (HB.out.cell (World.block_lt_of_cell? w _ hx429_2)).trans hx429_2
      replace hx429_3 := (HB.out.cell (World.block_lt_of_cell? w _ hx429_3)).trans hx429_3
      replace hx429_4 := (HB.out.cell (World.block_lt_of_cell? w _ hx429_4)).trans hx429_4
      have HR429_2 := Aside0.mk hi429_2
      have HC429_2 := Aside0.mk hl429_2
      clear hi429_2 hl429_2
      have HR429_3 := Aside0.mk hi429_3
      have HC429_3 := Aside0.mk hl429_3
      clear hi429_3 hl429_3
      have HR429_4 := Aside0.mk hi429_4
      have HC429_4 := Aside0.mk hl429_4
      clear hi429_4 hl429_4
      replace p429 := eq_true p429
      replace q429 := eq_true q429
      go_wp2
      go_roundg k1
      case measure => have := HK1.out; omega
      case rel => exact ⟨(x5_1), (wrap64 (x6_1 + 1)), (by first | rfl | (simp; done) | (simp [*]; done)), H', ⟨by have := HK1.out; omega⟩, ⟨by (with_reducible repeat (first | apply Kd.R_alloc | apply Kd.R_drewN | apply Kd.R_drew)); exact HO_5.out⟩, ⟨by (with_reducible repeat (first | refine blk_drewN ?_ _ | refine blk_drew ?_ | refine blk_alloc ?_ _)); exact BK428.out⟩, ⟨by repeat (first | (with_reducible first | exact HB.out | apply below_alloc | apply pw_below_drewN | apply below_drew1 | refine below_set ?_ GE428.out) | exact HB.out)⟩⟩
    ·rw [if_neg c5] at H
     exact absurd H (by simp)
   ·rw [if_neg c4] at H
    have c4b0 : decide (x6_1 < (l0_1.length : Int)) = false := decide_eq_false c4
    clear c4
    obtain rfl := Option.some.inj H
    have hcz15_0 : wr.cell? ⟨gb428, 0, none⟩ = some (.int .i64 a0_0) := (blk_cell BK428.out 0).trans rfl
    have hcz15_1 : wr.cell? ⟨gb428, 1, none⟩ = some (.slice A0_1 l0_1.length c0_1) := (blk_cell BK428.out 1).trans rfl
    have hcz15_2 : wr.cell? ⟨gb428, 2, none⟩ = some (.slice A0_2 l0_2.length c0_2) := (blk_cell BK428.out 2).trans rfl
    have hfz15_0 := blk_frozen BK428.out 0
    have hfz15_1 := blk_frozen BK428.out 1
    have hfz15_2 := blk_frozen BK428.out 2
    go_wp2
    go_ret
    exact ⟨_, by first | rfl | (simp [errW_none, errW_some] <;> rfl) | (simp [*, errW_none, errW_some] <;> rfl), by (with_reducible repeat (first | apply Kd.R_alloc | apply Kd.R_drewN | apply Kd.R_drew)); exact HO_5.out, by repeat (first | (with_reducible first | exact HB.out | apply below_alloc | apply pw_below_drewN | apply below_drew1 | refine below_set ?_ GE428.out) | exact HB.out)⟩
mutual
def spinetref05_In.j0 : Nat → Int → Int → Bool → Int → List (S54) → List (S56) → Option (Bool)
 | 0, _, _, _, _, _, _ => none
 | k + 1, x1, x2, x20, x437000, x437001, x437002 => if x20 = true then (some false) else (if 0 ≤ x1 then (if x1 < (x437001.length : Int) then (if ((rd_T54 x437001 x1).f1) < 0 then (some false) else (if ((rd_T54 x437001 x1).f1) ≥ x1 then (some false) else (if ((rd_T54 x437001 x1).f1) = x2 then (some true) else ((spinetref05_In.f k x437000 x437001 x437002 ((rd_T54 x437001 x1).f1) x2).bind fun t438 => (some t438))))) else (none)) else (none))
def spinetref05_In.f : Nat → Int → List (S54) → List (S56) → Int → Int → Option (Bool)
 | 0, _, _, _, _, _ => none
 | k + 1, a0_0, l0_1, l0_2, a1, a2 => if a1 < 1 then (spinetref05_In.j0 k a1 a2 true a0_0 l0_1 l0_2) else (if a1 ≥ (l0_1.length : Int) then (spinetref05_In.j0 k a1 a2 true a0_0 l0_1 l0_2) else (spinetref05_In.j0 k a1 a2 (decide (a2 < 0)) a0_0 l0_1 l0_2))
end
end Go.Proofs.YtemoonhnncopoaaGreatDoor.PAll
end
