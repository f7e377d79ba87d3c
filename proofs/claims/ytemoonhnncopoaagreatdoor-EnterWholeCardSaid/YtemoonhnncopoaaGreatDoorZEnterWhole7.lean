/- Texts of this claim, merged (PAllCtg). -/
import Derived.Test.YtemoonhnncopoaaGreatDoorZEnterWhole2
import Derived.Test.YtemoonhnncopoaaGreatDoorZEnterWhole3
set_option linter.unusedVariables false
set_option linter.unusedSimpArgs false
set_option maxRecDepth 100000
set_option maxHeartbeats 8000000
section
namespace Go.Proofs.YtemoonhnncopoaaGreatDoor.PAll
open Go.RowKit Go.Proofs.YtemoonhnncopoaaGreatDoorW.PrintWords Go.Proofs.YtemoonhnncopoaaGreatDoorW.PrintLast Go.Proofs.YtemoonhnncopoaaGreatDoorW.PrintMore
attribute [local go_sem] max2_int min2_int max_two min_two max_three min_three max_four min_four   -- for this text's walks alone
def chart_checker_own.f (a0_0 : Int) (l0_1 : List (S54)) (l0_2 : List (S56)) (a1 : Int) : Option (Int) := if 0 ≤ a1 then (if a1 < (l0_1.length : Int) then ((chart_history.f ((rd_T54 l0_1 a1).f0)).bind fun t402 => (if t402 = true then (some ((rd_T54 l0_1 a1).f1)) else (some a1))) else (none)) else (none)
theorem chart_checker_own.calls (a0_0 : Int) (A0_1 : Option Addr) (c0_1 : Nat) (l0_1 : List (S54)) (A0_2 : Option Addr) (c0_2 : Nat) (l0_2 : List (S56)) (a1 : Int) (r : Int) (w : World) (hr0_1 : Kd.C k54 w A0_1 l0_1.length l0_1) (hc0_1 : l0_1.length ≤ c0_1) (hr0_2 : Kd.C k56 w A0_2 l0_2.length l0_2) (hc0_2 : l0_2.length ≤ c0_2) (h : chart_checker_own.f a0_0 l0_1 l0_2 a1 = some r) :
  Calls Tryz.prog 140 #[.agg #[.int .i64 a0_0, .slice A0_1 l0_1.length c0_1, .slice A0_2 l0_2.length c0_2], .int .i64 a1] w fun e w' => e = .returned (.int .i64 r) ∧ Below w.heap.size w w' := by
 have hu124 := Tryz.underlying124
 have HR0_1 := Aside0.mk hr0_1
 have HC0_1 := Aside0.mk hc0_1
 clear hr0_1 hc0_1
 have HR0_2 := Aside0.mk hr0_2
 have HC0_2 := Aside0.mk hc0_2
 clear hr0_2 hc0_2
 have HB := Aside0.mk (Below.refl w.heap.size w)
 have H : (if 0 ≤ a1 then (if a1 < (l0_1.length : Int) then ((chart_history.f ((rd_T54 l0_1 a1).f0)).bind fun t402 => (if t402 = true then (some ((rd_T54 l0_1 a1).f1)) else (some a1))) else (none)) else (none)) = some r := h
 clear h
 by_cases c3 : 0 ≤ a1
 ·rw [if_pos c3] at H
  have c3b0 : decide (0 ≤ a1) = true := decide_eq_true c3
  clear c3
  by_cases c4 : a1 < (l0_1.length : Int)
  ·rw [if_pos c4] at H
   have c4b0 : decide (a1 < (l0_1.length : Int)) = true := decide_eq_true c4
   clear c4
   replace H := Option.bind_eq_some_iff.mp H
   obtain ⟨t402, A50, H⟩ := H
   replace H : (if t402 = true then (some ((rd_T54 l0_1 a1).f1)) else (some a1)) = some r := H
   have A5 := Aside0.mk A50
   clear A50
   by_cases c6 : t402 = true
   ·subst c6
    have H1 : (some ((rd_T54 l0_1 a1).f1)) = some r := by rw [if_pos rfl] at H; exact H
    clear H
    have H := H1
    clear H1
    obtain rfl := Option.some.inj H
    go_enter Tryz.func140, Tryz.ntmps140
    go_wp2_with (first | ((with_reducible refine gate_dst (N := 2) rfl ?_); refine box_event ?hg (N := 2) ?hd (cs := #[.int .i64 a0_0, .slice A0_1 l0_1.length c0_1, .slice A0_2 l0_2.length c0_2]) (t := 124) ?hr ?_; (case hd => rfl); (case hg => rfl); (case hr => first | (go_simp; done) | (go_simp; rfl)); intro gb400 hg w7 hbox hb; have n0_ := Aside0.mk (below_step (by repeat (first | (with_reducible first | exact HB.out | apply below_alloc | apply pw_below_drewN | apply below_drew1) | exact HB.out)) hb); have n1_ := Aside0.mk (hbox); have n2_ := Aside0.mk ((by rw [hg]; exact (below_size (by repeat (first | (with_reducible first | exact HB.out | apply below_alloc | apply pw_below_drewN | apply below_drew1) | exact HB.out))) : w.heap.size ≤ gb400)); have n3_ := Aside0.mk ((by rw [hg]; exact (below_size (by repeat (first | (with_reducible first | exact HB.out | apply below_alloc | apply pw_below_drewN | apply below_drew1) | exact HB.out))) : w.heap.size ≤ gb400)); clear HB; have HB := n0_; have BK400 := n1_; have GW400 := n2_; have GE400 := n3_; clear n0_ n1_ n2_ n3_; clear hb hbox hg; have hcz8_0 : w7.cell? ⟨gb400, 0, none⟩ = some (.int .i64 a0_0) := (blk_cell BK400.out 0).trans rfl; have hcz8_1 : w7.cell? ⟨gb400, 1, none⟩ = some (.slice A0_1 l0_1.length c0_1) := (blk_cell BK400.out 1).trans rfl; have hcz8_2 : w7.cell? ⟨gb400, 2, none⟩ = some (.slice A0_2 l0_2.length c0_2) := (blk_cell BK400.out 2).trans rfl; have hfz8_0 := blk_frozen BK400.out 0; have hfz8_1 := blk_frozen BK400.out 1; have hfz8_2 := blk_frozen BK400.out 2; have p401 : 0 ≤ (a1 : Int) := of_decide_eq_true (by first | (with_reducible assumption) | assumption); have q401 : a1 < (l0_1.length : Int) := of_decide_eq_true (by first | (with_reducible assumption) | assumption); obtain ⟨ad401, A401_2, c401_2, A401_3, c401_3, A401_4, c401_4, e401, hx401_0, hx401_1, hx401_2, hx401_3, hx401_4, hl401_2, hi401_2, hl401_3, hi401_3, hl401_4, hi401_4⟩ := at_T54 HR0_1.out a1 p401 q401; cases e401; replace hx401_0 := (HB.out.cell (World.block_lt_of_cell? w _ hx401_0)).trans hx401_0; replace hx401_1 := (HB.out.cell (World.block_lt_of_cell? w _ hx401_1)).trans hx401_1; replace hx401_2 := (HB.out.cell (World.block_lt_of_cell? w _ hx401_2)).trans hx401_2; replace hx401_3 := (HB.out.cell (World.block_lt_of_cell? w _ hx401_3)).trans hx401_3; replace hx401_4 := (HB.out.cell (World.block_lt_of_cell? w _ hx401_4)).trans hx401_4; have HR401_2 := Aside0.mk hi401_2; have HC401_2 := Aside0.mk hl401_2; clear hi401_2 hl401_2; have HR401_3 := Aside0.mk hi401_3; have HC401_3 := Aside0.mk hl401_3; clear hi401_3 hl401_3; have HR401_4 := Aside0.mk hi401_4; have HC401_4 := Aside0.mk hl401_4; clear hi401_4 hl401_4; replace p401 := eq_true p401; replace q401 := eq_true q401) | ((with_reducible refine gate_callee (f := 76) rfl ?_); refine goesL_ (some 12) rfl rfl Tryz.func76 (by kernel_rfl) rfl #[.int .i64 ((rd_T54 l0_1 a1).f0)] rfl (by (try simp only [List.map_toArray, List.map_cons, List.map_nil]); first | done | rfl | (simp only [List.length_drop, List.length_take]; rfl)) ?_; (with_reducible refine (chart_history.calls ((rd_T54 l0_1 a1).f0) true _ A5.out).mono ?_); rintro e w' ⟨rfl, ⟨nd, rfl⟩⟩; refine ⟨_, rfl, ?_⟩; have p403 : 0 ≤ (a1 : Int) := of_decide_eq_true (by first | (with_reducible assumption) | assumption); have q403 : a1 < (l0_1.length : Int) := of_decide_eq_true (by first | (with_reducible assumption) | assumption); obtain ⟨ad403, A403_2, c403_2, A403_3, c403_3, A403_4, c403_4, e403, hx403_0, hx403_1, hx403_2, hx403_3, hx403_4, hl403_2, hi403_2, hl403_3, hi403_3, hl403_4, hi403_4⟩ := at_T54 HR0_1.out a1 p403 q403; obtain rfl : ad401 = ad403 := (by injection e403); replace hx403_0 := (HB.out.cell (World.block_lt_of_cell? w _ hx403_0)).trans hx403_0; replace hx403_1 := (HB.out.cell (World.block_lt_of_cell? w _ hx403_1)).trans hx403_1; replace hx403_2 := (HB.out.cell (World.block_lt_of_cell? w _ hx403_2)).trans hx403_2; replace hx403_3 := (HB.out.cell (World.block_lt_of_cell? w _ hx403_3)).trans hx403_3; replace hx403_4 := (HB.out.cell (World.block_lt_of_cell? w _ hx403_4)).trans hx403_4; have HR403_2 := Aside0.mk hi403_2; have HC403_2 := Aside0.mk hl403_2; clear hi403_2 hl403_2; have HR403_3 := Aside0.mk hi403_3; have HC403_3 := Aside0.mk hl403_3; clear hi403_3 hl403_3; have HR403_4 := Aside0.mk hi403_4; have HC403_4 := Aside0.mk hl403_4; clear hi403_4 hl403_4; replace p403 := eq_true p403; replace q403 := eq_true q403; have ea_ := Option.some.inj (hx401_2.symm.trans hx403_2); injection ea_ with ea_ en_ ec_; subst ea_; subst ec_; clear en_; have ea_ := Option.some.inj (hx401_3.symm.trans hx403_3); injection ea_ with ea_ en_ ec_; subst ea_; subst ec_; clear en_; have ea_ := Option.some.inj (hx401_4.symm.trans hx403_4); injection ea_ with ea_ en_ ec_; subst ea_; subst ec_; clear en_))
    go_ret
    exact ⟨by first | rfl | (simp [errW_none, errW_some] <;> rfl) | (simp [*, errW_none, errW_some] <;> rfl), by repeat (first | (with_reducible first | exact HB.out | apply below_alloc | apply pw_below_drewN | apply below_drew1 | refine below_set ?_ GE400.out) | exact HB.out)⟩
   ·replace c6 := Bool.eq_false_iff.mpr c6
    subst c6
    have H1 : (some a1) = some r := by rw [if_neg (show ¬ (false = true) by decide)] at H; exact H
    clear H
    have H := H1
    clear H1
    obtain rfl := Option.some.inj H
    go_enter Tryz.func140, Tryz.ntmps140
    go_wp2_with (first | ((with_reducible refine gate_dst (N := 2) rfl ?_); refine box_event ?hg (N := 2) ?hd (cs := #[.int .i64 a0_0, .slice A0_1 l0_1.length c0_1, .slice A0_2 l0_2.length c0_2]) (t := 124) ?hr ?_; (case hd => rfl); (case hg => rfl); (case hr => first | (go_simp; done) | (go_simp; rfl)); intro gb400 hg w9 hbox hb; have n0_ := Aside0.mk (below_step (by repeat (first | (with_reducible first | exact HB.out | apply below_alloc | apply pw_below_drewN | apply below_drew1) | exact HB.out)) hb); have n1_ := Aside0.mk (hbox); have n2_ := Aside0.mk ((by rw [hg]; exact (below_size (by repeat (first | (with_reducible first | exact HB.out | apply below_alloc | apply pw_below_drewN | apply below_drew1) | exact HB.out))) : w.heap.size ≤ gb400)); have n3_ := Aside0.mk ((by rw [hg]; exact (below_size (by repeat (first | (with_reducible first | exact HB.out | apply below_alloc | apply pw_below_drewN | apply below_drew1) | exact HB.out))) : w.heap.size ≤ gb400)); clear HB; have HB := n0_; have BK400 := n1_; have GW400 := n2_; have GE400 := n3_; clear n0_ n1_ n2_ n3_; clear hb hbox hg; have hcz10_0 : w9.cell? ⟨gb400, 0, none⟩ = some (.int .i64 a0_0) := (blk_cell BK400.out 0).trans rfl; have hcz10_1 : w9.cell? ⟨gb400, 1, none⟩ = some (.slice A0_1 l0_1.length c0_1) := (blk_cell BK400.out 1).trans rfl; have hcz10_2 : w9.cell? ⟨gb400, 2, none⟩ = some (.slice A0_2 l0_2.length c0_2) := (blk_cell BK400.out 2).trans rfl; have hfz10_0 := blk_frozen BK400.out 0; have hfz10_1 := blk_frozen BK400.out 1; have hfz10_2 := blk_frozen BK400.out 2; have p401 : 0 ≤ (a1 : Int) := of_decide_eq_true (by first | (with_reducible assumption) | assumption); have q401 : a1 < (l0_1.length : Int) := of_decide_eq_true (by first | (with_reducible assumption) | assumption); obtain ⟨ad401, A401_2, c401_2, A401_3, c401_3, A401_4, c401_4, e401, hx401_0, hx401_1, hx401_2, hx401_3, hx401_4, hl401_2, hi401_2, hl401_3, hi401_3, hl401_4, hi401_4⟩ := at_T54 HR0_1.out a1 p401 q401; cases e401; replace hx401_0 := (HB.out.cell (World.block_lt_of_cell? w _ hx401_0)).trans hx401_0; replace hx401_1 := (HB.out.cell (World.block_lt_of_cell? w _ hx401_1)).trans hx401_1; replace hx401_2 := (HB.out.cell (World.block_lt_of_cell? w _ hx401_2)).trans hx401_2; replace hx401_3 := (HB.out.cell (World.block_lt_of_cell? w _ hx401_3)).trans hx401_3; replace hx401_4 := (HB.out.cell (World.block_lt_of_cell? w _ hx401_4)).trans hx401_4; have HR401_2 := Aside0.mk hi401_2; have HC401_2 := Aside0.mk hl401_2; clear hi401_2 hl401_2; have HR401_3 := Aside0.mk hi401_3; have HC401_3 := Aside0.mk hl401_3; clear hi401_3 hl401_3; have HR401_4 := Aside0.mk hi401_4; have HC401_4 := Aside0.mk hl401_4; clear hi401_4 hl401_4; replace p401 := eq_true p401; replace q401 := eq_true q401) | ((with_reducible refine gate_callee (f := 76) rfl ?_); refine goesL_ (some 12) rfl rfl Tryz.func76 (by kernel_rfl) rfl #[.int .i64 ((rd_T54 l0_1 a1).f0)] rfl (by (try simp only [List.map_toArray, List.map_cons, List.map_nil]); first | done | rfl | (simp only [List.length_drop, List.length_take]; rfl)) ?_; (with_reducible refine (chart_history.calls ((rd_T54 l0_1 a1).f0) false _ A5.out).mono ?_); rintro e w' ⟨rfl, ⟨nd, rfl⟩⟩; refine ⟨_, rfl, ?_⟩))
    go_ret
    exact ⟨by first | rfl | (simp [errW_none, errW_some] <;> rfl) | (simp [*, errW_none, errW_some] <;> rfl), by repeat (first | (with_reducible first | exact HB.out | apply below_alloc | apply pw_below_drewN | apply below_drew1 | refine below_set ?_ GE400.out) | exact HB.out)⟩
  ·rw [if_neg c4] at H
   exact absurd H (by simp)
 ·rw [if_neg c3] at H
  exact absurd H (by simp)
def chart_checker_innermost.l0 : Nat → Int → Int → Int → List (S54) → List (S56) → Option (Int)
 | 0, _, _, _, _, _ => none
 | k + 1, x2, x7, x405000, x405001, x405002 => if x7 ≥ 0 then ((chart_checker_in.f k x405000 x405001 x405002 x2 x7).bind fun t406 => (if t406 = true then (some x7) else (if 0 ≤ x7 then (if x7 < (x405001.length : Int) then (chart_checker_innermost.l0 k x2 ((rd_T54 x405001 x7).f1) x405000 x405001 x405002) else (none)) else (none)))) else (some (-1))
def chart_checker_innermost.f (k : Nat) (a0_0 : Int) (l0_1 : List (S54)) (l0_2 : List (S56)) (a1 : Int) (a2 : Int) : Option (Int) := if 0 ≤ a1 then (if a1 < (l0_1.length : Int) then (chart_checker_innermost.l0 k a2 ((rd_T54 l0_1 a1).f1) a0_0 l0_1 l0_2) else (none)) else (none)
theorem chart_checker_innermost.calls (k : Nat) (a0_0 : Int) (A0_1 : Option Addr) (c0_1 : Nat) (l0_1 : List (S54)) (A0_2 : Option Addr) (c0_2 : Nat) (l0_2 : List (S56)) (a1 : Int) (a2 : Int) (r : Int) (w : World) (hr0_1 : Kd.C k54 w A0_1 l0_1.length l0_1) (hc0_1 : l0_1.length ≤ c0_1) (hr0_2 : Kd.C k56 w A0_2 l0_2.length l0_2) (hc0_2 : l0_2.length ≤ c0_2) (h : chart_checker_innermost.f k a0_0 l0_1 l0_2 a1 a2 = some r) :
  Calls Tryz.prog 141 #[.agg #[.int .i64 a0_0, .slice A0_1 l0_1.length c0_1, .slice A0_2 l0_2.length c0_2], .int .i64 a1, .int .i64 a2] w fun e w' => e = .returned (.int .i64 r) ∧ Below w.heap.size w w' := by
 have hu124 := Tryz.underlying124
 have HR0_1 := Aside0.mk hr0_1
 have HC0_1 := Aside0.mk hc0_1
 clear hr0_1 hc0_1
 have HR0_2 := Aside0.mk hr0_2
 have HC0_2 := Aside0.mk hc0_2
 clear hr0_2 hc0_2
 have HB := Aside0.mk (Below.refl w.heap.size w)
 have H : (if 0 ≤ a1 then (if a1 < (l0_1.length : Int) then (chart_checker_innermost.l0 k a2 ((rd_T54 l0_1 a1).f1) a0_0 l0_1 l0_2) else (none)) else (none)) = some r := h
 clear h
 by_cases c4 : 0 ≤ a1
 ·rw [if_pos c4] at H
  have c4b0 : decide (0 ≤ a1) = true := decide_eq_true c4
  clear c4
  by_cases c5 : a1 < (l0_1.length : Int)
  ·rw [if_pos c5] at H
   have c5b0 : decide (a1 < (l0_1.length : Int)) = true := decide_eq_true c5
   clear c5
   have H' := Aside0.mk H
   clear H
   go_enter Tryz.func141, Tryz.ntmps141
   go_wp2_with (first | ((with_reducible refine gate_dst (N := 3) rfl ?_); refine box_event ?hg (N := 3) ?hd (cs := #[.int .i64 a0_0, .slice A0_1 l0_1.length c0_1, .slice A0_2 l0_2.length c0_2]) (t := 124) ?hr ?_; (case hd => rfl); (case hg => rfl); (case hr => first | (go_simp; done) | (go_simp; rfl)); intro gb404 hg w6 hbox hb; have n0_ := Aside0.mk (below_step (by repeat (first | (with_reducible first | exact HB.out | apply below_alloc | apply pw_below_drewN | apply below_drew1) | exact HB.out)) hb); have n1_ := Aside0.mk (hbox); have n2_ := Aside0.mk ((by rw [hg]; exact (below_size (by repeat (first | (with_reducible first | exact HB.out | apply below_alloc | apply pw_below_drewN | apply below_drew1) | exact HB.out))) : w.heap.size ≤ gb404)); have n3_ := Aside0.mk ((by rw [hg]; exact (below_size (by repeat (first | (with_reducible first | exact HB.out | apply below_alloc | apply pw_below_drewN | apply below_drew1) | exact HB.out))) : w.heap.size ≤ gb404)); clear HB; have HB := n0_; have BK404 := n1_; have GW404 := n2_; have GE404 := n3_; clear n0_ n1_ n2_ n3_; clear hb hbox hg; have hcz7_0 : w6.cell? ⟨gb404, 0, none⟩ = some (.int .i64 a0_0) := (blk_cell BK404.out 0).trans rfl; have hcz7_1 : w6.cell? ⟨gb404, 1, none⟩ = some (.slice A0_1 l0_1.length c0_1) := (blk_cell BK404.out 1).trans rfl; have hcz7_2 : w6.cell? ⟨gb404, 2, none⟩ = some (.slice A0_2 l0_2.length c0_2) := (blk_cell BK404.out 2).trans rfl; have hfz7_0 := blk_frozen BK404.out 0; have hfz7_1 := blk_frozen BK404.out 1; have hfz7_2 := blk_frozen BK404.out 2; have p405 : 0 ≤ (a1 : Int) := of_decide_eq_true (by first | (with_reducible assumption) | assumption); have q405 : a1 < (l0_1.length : Int) := of_decide_eq_true (by first | (with_reducible assumption) | assumption); obtain ⟨ad405, A405_2, c405_2, A405_3, c405_3, A405_4, c405_4, e405, hx405_0, hx405_1, hx405_2, hx405_3, hx405_4, hl405_2, hi405_2, hl405_3, hi405_3, hl405_4, hi405_4⟩ := at_T54 HR0_1.out a1 p405 q405; cases e405; replace hx405_0 := (HB.out.cell (World.block_lt_of_cell? w _ hx405_0)).trans hx405_0; replace hx405_1 := (HB.out.cell (World.block_lt_of_cell? w _ hx405_1)).trans hx405_1; replace hx405_2 := (HB.out.cell (World.block_lt_of_cell? w _ hx405_2)).trans hx405_2; replace hx405_3 := (HB.out.cell (World.block_lt_of_cell? w _ hx405_3)).trans hx405_3; replace hx405_4 := (HB.out.cell (World.block_lt_of_cell? w _ hx405_4)).trans hx405_4; have HR405_2 := Aside0.mk hi405_2; have HC405_2 := Aside0.mk hl405_2; clear hi405_2 hl405_2; have HR405_3 := Aside0.mk hi405_3; have HC405_3 := Aside0.mk hl405_3; clear hi405_3 hl405_3; have HR405_4 := Aside0.mk hi405_4; have HC405_4 := Aside0.mk hl405_4; clear hi405_4 hl405_4; replace p405 := eq_true p405; replace q405 := eq_true q405))
   go_loopg [7] k (fun kq v7 w' => ∃ (x7_1 : Int), v7 = .int .i64 x7_1 ∧ Aside0 (chart_checker_innermost.l0 kq a2 x7_1 a0_0 l0_1 l0_2 = some r) ∧ Aside0 (kq ≤ k) ∧ Aside0 (w'.heap[gb404]? = some (.cells #[.int .i64 a0_0, (.slice (some ad405) l0_1.length c0_1), (.slice A0_2 l0_2.length c0_2)] 124 (0, 0))) ∧ Aside0 (Below w.heap.size w w'))
   case atStart => exact ⟨((rd_T54 l0_1 a1).f1), (by first | rfl | (simp; done) | (simp [*]; done)), H', ⟨Nat.le_refl _⟩, ⟨by (with_reducible repeat (first | refine blk_drewN ?_ _ | refine blk_drew ?_ | refine blk_alloc ?_ _)); exact BK404.out⟩, ⟨by repeat (first | (with_reducible first | exact HB.out | apply below_alloc | apply pw_below_drewN | apply below_drew1 | refine below_set ?_ GE404.out) | exact HB.out)⟩⟩
   case round =>
    clear H'
    try clear c1
    try clear p2
    try clear c4
    try clear c4b0
    try clear p4
    try clear q4
    try clear hx4
    try clear c5
    try clear c5b0
    try clear hcz7_0
    try clear hcz7_1
    try clear hcz7_2
    try clear hfz7_0
    try clear hfz7_1
    try clear hfz7_2
    try clear hx405_0
    try clear hx405_1
    try clear hx405_2
    try clear hx405_3
    try clear hx405_4
    try clear p405
    try clear q405
    obtain ⟨x7_1, rfl, HA, HK1, BK404, HB⟩ := hrel
    cases gk with
    | zero => exact absurd HA.out (by simp [chart_checker_innermost.l0])
    | succ k1 =>
     have H := HA.out
     clear HA
     simp only [chart_checker_innermost.l0] at H
     by_cases c8 : x7_1 ≥ 0
     ·rw [if_pos c8] at H
      have c8b0 : decide (0 ≤ x7_1) = true := decide_eq_true c8
      clear c8
      replace H := Option.bind_eq_some_iff.mp H
      obtain ⟨t406, A90, H⟩ := H
      replace H : (if t406 = true then (some x7_1) else (if 0 ≤ x7_1 then (if x7_1 < (l0_1.length : Int) then (chart_checker_innermost.l0 k1 a2 ((rd_T54 l0_1 x7_1).f1) a0_0 l0_1 l0_2) else (none)) else (none))) = some r := H
      have A9 := Aside0.mk A90
      clear A90
      by_cases c10 : t406 = true
      ·subst c10
       have H1 : (some x7_1) = some r := by rw [if_pos rfl] at H; exact H
       clear H
       have H := H1
       clear H1
       obtain rfl := Option.some.inj H
       have hcz11_0 : wr.cell? ⟨gb404, 0, none⟩ = some (.int .i64 a0_0) := (blk_cell BK404.out 0).trans rfl
       have hcz11_1 : wr.cell? ⟨gb404, 1, none⟩ = some (.slice (some ad405) l0_1.length c0_1) := (blk_cell BK404.out 1).trans rfl
       have hcz11_2 : wr.cell? ⟨gb404, 2, none⟩ = some (.slice A0_2 l0_2.length c0_2) := (blk_cell BK404.out 2).trans rfl
       have hfz11_0 := blk_frozen BK404.out 0
       have hfz11_1 := blk_frozen BK404.out 1
       have hfz11_2 := blk_frozen BK404.out 2
       go_wp2_with (first | ((with_reducible refine gate_callee (f := 136) rfl ?_); refine goesL_ (some 27) rfl rfl Tryz.func136 (by kernel_rfl) rfl #[.agg #[.int .i64 a0_0, .slice (some ad405) l0_1.length c0_1, .slice A0_2 l0_2.length c0_2], .int .i64 a2, .int .i64 x7_1] rfl (by (try simp only [List.map_toArray, List.map_cons, List.map_nil]); first | done | rfl | (simp only [List.length_drop, List.length_take]; rfl)) ?_; (with_reducible refine (chart_checker_in.calls k1 a0_0 _ _ l0_1 _ _ l0_2 a2 x7_1 true _ ?side1 ?side2 ?side3 ?side4 A9.out).mono ?_); (case side1 => repeat (first | exact (Kd.C_below HR0_1.out HB.out) | (with_reducible refine Kd.C_alloc ?_ _) | (with_reducible refine Kd.C_drewN ?_ _) | (with_reducible refine Kd.C_drew ?_))); (case side2 => exact HC0_1.out); (case side3 => repeat (first | exact (Kd.C_below HR0_2.out HB.out) | (with_reducible refine Kd.C_alloc ?_ _) | (with_reducible refine Kd.C_drewN ?_ _) | (with_reducible refine Kd.C_drew ?_))); (case side4 => exact HC0_2.out); rintro e w12 ⟨rfl, hb⟩; refine ⟨_, rfl, ?_⟩; have n0_ := Aside0.mk (blk_below (g := gb404) (o := .cells #[.int .i64 a0_0, .slice (some ad405) l0_1.length c0_1, .slice A0_2 l0_2.length c0_2] 124 (0, 0)) (by (with_reducible repeat (first | refine blk_drewN ?_ _ | refine blk_drew ?_ | refine blk_alloc ?_ _)); exact BK404.out) hb); have n1_ := Aside0.mk (below_step (by repeat (first | (with_reducible first | exact HB.out | apply below_alloc | apply pw_below_drewN | apply below_drew1 | refine below_set ?_ GE404.out) | exact HB.out)) hb); clear BK404; clear HB; have BK404 := n0_; have HB := n1_; clear n0_ n1_; (try clear hb); (try clear hb2); (try clear hk); (try clear hi)))
       go_ret
       exact ⟨by first | rfl | (simp [errW_none, errW_some] <;> rfl) | (simp [*, errW_none, errW_some] <;> rfl), by repeat (first | (with_reducible first | exact HB.out | apply below_alloc | apply pw_below_drewN | apply below_drew1 | refine below_set ?_ GE404.out) | exact HB.out)⟩
      ·replace c10 := Bool.eq_false_iff.mpr c10
       subst c10
       have H1 : (if 0 ≤ x7_1 then (if x7_1 < (l0_1.length : Int) then (chart_checker_innermost.l0 k1 a2 ((rd_T54 l0_1 x7_1).f1) a0_0 l0_1 l0_2) else (none)) else (none)) = some r := by rw [if_neg (show ¬ (false = true) by decide)] at H; exact H
       clear H
       have H := H1
       clear H1
       by_cases c13 : 0 ≤ x7_1
       ·rw [if_pos c13] at H
        have c13b0 : decide (0 ≤ x7_1) = true := decide_eq_true c13
        clear c13
        by_cases c14 : x7_1 < (l0_1.length : Int)
        ·rw [if_pos c14] at H
         have c14b0 : decide (x7_1 < (l0_1.length : Int)) = true := decide_eq_true c14
         clear c14
         have H' := Aside0.mk H
         clear H
         have hcz15_0 : wr.cell? ⟨gb404, 0, none⟩ = some (.int .i64 a0_0) := (blk_cell BK404.out 0).trans rfl
         have hcz15_1 : wr.cell? ⟨gb404, 1, none⟩ = some (.slice (some ad405) l0_1.length c0_1) := (blk_cell BK404.out 1).trans rfl
         have hcz15_2 : wr.cell? ⟨gb404, 2, none⟩ = some (.slice A0_2 l0_2.length c0_2) := (blk_cell BK404.out 2).trans rfl
         have hfz15_0 := blk_frozen BK404.out 0
         have hfz15_1 := blk_frozen BK404.out 1
         have hfz15_2 := blk_frozen BK404.out 2
         go_wp2_with (first | ((with_reducible refine gate_callee (f := 136) rfl ?_); refine goesL_ (some 27) rfl rfl Tryz.func136 (by kernel_rfl) rfl #[.agg #[.int .i64 a0_0, .slice (some ad405) l0_1.length c0_1, .slice A0_2 l0_2.length c0_2], .int .i64 a2, .int .i64 x7_1] rfl (by (try simp only [List.map_toArray, List.map_cons, List.map_nil]); first | done | rfl | (simp only [List.length_drop, List.length_take]; rfl)) ?_; (with_reducible refine (chart_checker_in.calls k1 a0_0 _ _ l0_1 _ _ l0_2 a2 x7_1 false _ ?side1 ?side2 ?side3 ?side4 A9.out).mono ?_); (case side1 => repeat (first | exact (Kd.C_below HR0_1.out HB.out) | (with_reducible refine Kd.C_alloc ?_ _) | (with_reducible refine Kd.C_drewN ?_ _) | (with_reducible refine Kd.C_drew ?_))); (case side2 => exact HC0_1.out); (case side3 => repeat (first | exact (Kd.C_below HR0_2.out HB.out) | (with_reducible refine Kd.C_alloc ?_ _) | (with_reducible refine Kd.C_drewN ?_ _) | (with_reducible refine Kd.C_drew ?_))); (case side4 => exact HC0_2.out); rintro e w16 ⟨rfl, hb⟩; refine ⟨_, rfl, ?_⟩; have n0_ := Aside0.mk (blk_below (g := gb404) (o := .cells #[.int .i64 a0_0, .slice (some ad405) l0_1.length c0_1, .slice A0_2 l0_2.length c0_2] 124 (0, 0)) (by (with_reducible repeat (first | refine blk_drewN ?_ _ | refine blk_drew ?_ | refine blk_alloc ?_ _)); exact BK404.out) hb); have n1_ := Aside0.mk (below_step (by repeat (first | (with_reducible first | exact HB.out | apply below_alloc | apply pw_below_drewN | apply below_drew1 | refine below_set ?_ GE404.out) | exact HB.out)) hb); clear BK404; clear HB; have BK404 := n0_; have HB := n1_; clear n0_ n1_; (try clear hb); (try clear hb2); (try clear hk); (try clear hi); have hcz17_0 : w16.cell? ⟨gb404, 0, none⟩ = some (.int .i64 a0_0) := (blk_cell BK404.out 0).trans rfl; have hcz17_1 : w16.cell? ⟨gb404, 1, none⟩ = some (.slice (some ad405) l0_1.length c0_1) := (blk_cell BK404.out 1).trans rfl; have hcz17_2 : w16.cell? ⟨gb404, 2, none⟩ = some (.slice A0_2 l0_2.length c0_2) := (blk_cell BK404.out 2).trans rfl; have hfz17_0 := blk_frozen BK404.out 0; have hfz17_1 := blk_frozen BK404.out 1; have hfz17_2 := blk_frozen BK404.out 2; have p407 : 0 ≤ (x7_1 : Int) := of_decide_eq_true (by first | (with_reducible assumption) | assumption); have q407 : x7_1 < (l0_1.length : Int) := of_decide_eq_true (by first | (with_reducible assumption) | assumption); obtain ⟨ad407, A407_2, c407_2, A407_3, c407_3, A407_4, c407_4, e407, hx407_0, hx407_1, hx407_2, hx407_3, hx407_4, hl407_2, hi407_2, hl407_3, hi407_3, hl407_4, hi407_4⟩ := at_T54 HR0_1.out x7_1 p407 q407; obtain rfl : ad405 = ad407 := (by injection e407); replace hx407_0 := (HB.out.cell (World.block_lt_of_cell? w _ hx407_0)).trans hx407_0; replace hx407_1 := (HB.out.cell (World.block_lt_of_cell? w _ hx407_1)).trans hx407_1; replace hx407_2 := (HB.out.cell (World.block_lt_of_cell? w _ hx407_2)).trans hx407_2; replace hx407_3 := (HB.out.cell (World.block_lt_of_cell? w _ hx407_3)).trans hx407_3; replace hx407_4 := (HB.out.cell (World.block_lt_of_cell? w _ hx407_4)).trans hx407_4; have HR407_2 := Aside0.mk hi407_2; have HC407_2 := Aside0.mk hl407_2; clear hi407_2 hl407_2; have HR407_3 := Aside0.mk hi407_3; have HC407_3 := Aside0.mk hl407_3; clear hi407_3 hl407_3; have HR407_4 := Aside0.mk hi407_4; have HC407_4 := Aside0.mk hl407_4; clear hi407_4 hl407_4; replace p407 := eq_true p407; replace q407 := eq_true q407))
         go_roundg k1
         case measure => have := HK1.out; omega
         case rel => exact ⟨((rd_T54 l0_1 x7_1).f1), (by first | rfl | (simp; done) | (simp [*]; done)), H', ⟨by have := HK1.out; omega⟩, ⟨by (with_reducible repeat (first | refine blk_drewN ?_ _ | refine blk_drew ?_ | refine blk_alloc ?_ _)); exact BK404.out⟩, ⟨by repeat (first | (with_reducible first | exact HB.out | apply below_alloc | apply pw_below_drewN | apply below_drew1 | refine below_set ?_ GE404.out) | exact HB.out)⟩⟩
        ·rw [if_neg c14] at H
         exact absurd H (by simp)
       ·rw [if_neg c13] at H
        exact absurd H (by simp)
     ·rw [if_neg c8] at H
      have c8b0 : decide (0 ≤ x7_1) = false := decide_eq_false c8
      clear c8
      obtain rfl := Option.some.inj H
      go_wp2
      go_ret
      exact ⟨by first | rfl | (simp [errW_none, errW_some] <;> rfl) | (simp [*, errW_none, errW_some] <;> rfl), by repeat (first | (with_reducible first | exact HB.out | apply below_alloc | apply pw_below_drewN | apply below_drew1 | refine below_set ?_ GE404.out) | exact HB.out)⟩
  ·rw [if_neg c5] at H
   exact absurd H (by simp)
 ·rw [if_neg c4] at H
  exact absurd H (by simp)
end Go.Proofs.YtemoonhnncopoaaGreatDoor.PAll
end
