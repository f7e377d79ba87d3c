/- Texts of this claim, merged (PAllR7). -/
import Derived.Test.YtemoonhnncopoaaGreatDoorZEnterWhole2
set_option linter.unusedVariables false
set_option linter.unusedSimpArgs false
set_option maxRecDepth 100000
set_option maxHeartbeats 8000000
section
namespace Go.Proofs.YtemoonhnncopoaaGreatDoor.PAll
open Go.RowKit Go.Proofs.YtemoonhnncopoaaGreatDoorW.PrintWords Go.Proofs.YtemoonhnncopoaaGreatDoorW.PrintLast Go.Proofs.YtemoonhnncopoaaGreatDoorW.PrintMore
attribute [local go_sem] max2_int min2_int max_two min_two max_three min_three max_four min_four   -- for this text's walks alone
attribute [local go_sem high] eqA80
def spinetref07_Past.f (a0_0 : Int) (l0_1 : List (S54)) (l0_2 : List (S56)) (a1 : Int) : Option (Bool) := if 0 ≤ a1 then (if a1 < (l0_1.length : Int) then (if ((rd_T54 l0_1 a1).f0) = 5 then (some true) else (some (((rd_T54 l0_1 a1).f0) == 6))) else (none)) else (none)
theorem spinetref07_Past.calls (a0_0 : Int) (A0_1 : Option Addr) (c0_1 : Nat) (l0_1 : List (S54)) (A0_2 : Option Addr) (c0_2 : Nat) (l0_2 : List (S56)) (a1 : Int) (r : Bool) (w : World) (hr0_1 : Kd.C k54 w A0_1 l0_1.length l0_1) (hc0_1 : l0_1.length ≤ c0_1) (hr0_2 : Kd.C k56 w A0_2 l0_2.length l0_2) (hc0_2 : l0_2.length ≤ c0_2) (h : spinetref07_Past.f a0_0 l0_1 l0_2 a1 = some r) :
  Calls Tryz.prog 32 #[.agg #[.int .i64 a0_0, .slice A0_1 l0_1.length c0_1, .slice A0_2 l0_2.length c0_2], .int .i64 a1] w fun e w' => e = .returned (.bool r) ∧ Below w.heap.size w w' := by
 have hu47 := Tryz.underlying47
 have HR0_1 := Aside0.mk hr0_1
 have HC0_1 := Aside0.mk hc0_1
 clear hr0_1 hc0_1
 have HR0_2 := Aside0.mk hr0_2
 have HC0_2 := Aside0.mk hc0_2
 clear hr0_2 hc0_2
 have HB := Aside0.mk (Below.refl w.heap.size w)
 have H : (if 0 ≤ a1 then (if a1 < (l0_1.length : Int) then (if ((rd_T54 l0_1 a1).f0) = 5 then (some true) else (some (((rd_T54 l0_1 a1).f0) == 6))) else (none)) else (none)) = some r := h
 clear h
 by_cases c3 : 0 ≤ a1
 ·rw [if_pos c3] at H
  have c3b0 : decide (0 ≤ a1) = true := decide_eq_true c3
  clear c3
  by_cases c4 : a1 < (l0_1.length : Int)
  ·rw [if_pos c4] at H
   have c4b0 : decide (a1 < (l0_1.length : Int)) = true := decide_eq_true c4
   clear c4
   by_cases c5 : ((rd_T54 l0_1 a1).f0) = 5
   ·rw [if_pos c5] at H
    have c5b0 : (((rd_T54 l0_1 a1).f0) == 5) = true := beq_iff_eq.mpr c5
    have c5b1 : (((rd_T54 l0_1 a1).f0) != 5) = false := bne_eq_false_iff_eq.mpr c5
    clear c5
    obtain rfl := Option.some.inj H
    go_enter Tryz.func32, Tryz.ntmps32
    go_wp2_with (first | ((with_reducible refine gate_dst (N := 2) rfl ?_); refine box_event ?hg (N := 2) ?hd (cs := #[.int .i64 a0_0, .slice A0_1 l0_1.length c0_1, .slice A0_2 l0_2.length c0_2]) (t := 47) ?hr ?_; (case hd => rfl); (case hg => rfl); (case hr => first | (go_simp; done) | (go_simp; rfl)); intro gb474 hg w6 hbox hb; have n0_ := Aside0.mk (below_step (by repeat (first | (with_reducible first | exact HB.out | apply below_alloc | apply pw_below_drewN | apply below_drew1) | exact HB.out)) hb); have n1_ := Aside0.mk (hbox); have n2_ := Aside0.mk ((by rw [hg]; exact (below_size (by repeat (first | (with_reducible first | exact HB.out | apply below_alloc | apply pw_below_drewN | apply below_drew1) | exact HB.out))) : w.heap.size ≤ gb474)); have n3_ := Aside0.mk ((by rw [hg]; exact (below_size (by repeat (first | (with_reducible first | exact HB.out | apply below_alloc | apply pw_below_drewN | apply below_drew1) | exact HB.out))) : w.heap.size ≤ gb474)); clear HB; have HB := n0_; have BK474 := n1_; have GW474 := n2_; have GE474 := n3_; clear n0_ n1_ n2_ n3_; clear hb hbox hg; have hcz7_0 : w6.cell? ⟨gb474, 0, none⟩ = some (.int .i64 a0_0) := (blk_cell BK474.out 0).trans rfl; have hcz7_1 : w6.cell? ⟨gb474, 1, none⟩ = some (.slice A0_1 l0_1.length c0_1) := (blk_cell BK474.out 1).trans rfl; have hcz7_2 : w6.cell? ⟨gb474, 2, none⟩ = some (.slice A0_2 l0_2.length c0_2) := (blk_cell BK474.out 2).trans rfl; have hfz7_0 := blk_frozen BK474.out 0; have hfz7_1 := blk_frozen BK474.out 1; have hfz7_2 := blk_frozen BK474.out 2; have p475 : 0 ≤ (a1 : Int) := of_decide_eq_true (by first | (with_reducible assumption) | assumption); have q475 : a1 < (l0_1.length : Int) := of_decide_eq_true (by first | (with_reducible assumption) | assumption); obtain ⟨ad475, A475_2, c475_2, A475_3, c475_3, A475_4, c475_4, e475, hx475_0, hx475_1, hx475_2, hx475_3, hx475_4, hl475_2, hi475_2, hl475_3, hi475_3, hl475_4, hi475_4⟩ := at_T54 HR0_1.out a1 p475 q475; cases e475; replace hx475_0 := (HB.out.cell (World.block_lt_of_cell? w _ hx475_0)).trans hx475_0; replace hx475_1 := (HB.out.cell (World.block_lt_of_cell? w _ hx475_1)).trans hx475_1; replace hx475_2 := (HB.out.cell (World.block_lt_of_cell? w _ hx475_2)).trans hx475_2; replace hx475_3 := (HB.out.cell (World.block_lt_of_cell? w _ hx475_3)).trans hx475_3; replace hx475_4 := (HB.out.cell (World.block_lt_of_cell? w _ hx475_4)).trans hx475_4; have HR475_2 := Aside0.mk hi475_2; have HC475_2 := Aside0.mk hl475_2; clear hi475_2 hl475_2; have HR475_3 := Aside0.mk hi475_3; have HC475_3 := Aside0.mk hl475_3; clear hi475_3 hl475_3; have HR475_4 := Aside0.mk hi475_4; have HC475_4 := Aside0.mk hl475_4; clear hi475_4 hl475_4; replace p475 := eq_true p475; replace q475 := eq_true q475))
    go_ret
    exact ⟨by first | rfl | (simp [errW_none, errW_some] <;> rfl) | (simp [*, errW_none, errW_some] <;> rfl), by repeat (first | (with_reducible first | exact HB.out | apply below_alloc | apply pw_below_drewN | apply below_drew1 | refine below_set ?_ GE474.out) | exact HB.out)⟩
   ·rw [if_neg c5] at H
    have c5b0 : (((rd_T54 l0_1 a1).f0) == 5) = false := beq_eq_false_iff_ne.mpr c5
    have c5b1 : (((rd_T54 l0_1 a1).f0) != 5) = true := bne_iff_ne.mpr c5
    obtain rfl := Option.some.inj H
    go_enter Tryz.func32, Tryz.ntmps32
    go_wp2_with (first | ((with_reducible refine gate_dst (N := 2) rfl ?_); refine box_event ?hg (N := 2) ?hd (cs := #[.int .i64 a0_0, .slice A0_1 l0_1.length c0_1, .slice A0_2 l0_2.length c0_2]) (t := 47) ?hr ?_; (case hd => rfl); (case hg => rfl); (case hr => first | (go_simp; done) | (go_simp; rfl)); intro gb474 hg w8 hbox hb; have n0_ := Aside0.mk (below_step (by repeat (first | (with_reducible first | exact HB.out | apply below_alloc | apply pw_below_drewN | apply below_drew1) | exact HB.out)) hb); have n1_ := Aside0.mk (hbox); have n2_ := Aside0.mk ((by rw [hg]; exact (below_size (by repeat (first | (with_reducible first | exact HB.out | apply below_alloc | apply pw_below_drewN | apply below_drew1) | exact HB.out))) : w.heap.size ≤ gb474)); have n3_ := Aside0.mk ((by rw [hg]; exact (below_size (by repeat (first | (with_reducible first | exact HB.out | apply below_alloc | apply pw_below_drewN | apply below_drew1) | exact HB.out))) : w.heap.size ≤ gb474)); clear HB; have HB := n0_; have BK474 := n1_; have GW474 := n2_; have GE474 := n3_; clear n0_ n1_ n2_ n3_; clear hb hbox hg; have hcz9_0 : w8.cell? ⟨gb474, 0, none⟩ = some (.int .i64 a0_0) := (blk_cell BK474.out 0).trans rfl; have hcz9_1 : w8.cell? ⟨gb474, 1, none⟩ = some (.slice A0_1 l0_1.length c0_1) := (blk_cell BK474.out 1).trans rfl; have hcz9_2 : w8.cell? ⟨gb474, 2, none⟩ = some (.slice A0_2 l0_2.length c0_2) := (blk_cell BK474.out 2).trans rfl; have hfz9_0 := blk_frozen BK474.out 0; have hfz9_1 := blk_frozen BK474.out 1; have hfz9_2 := blk_frozen BK474.out 2; have p475 : 0 ≤ (a1 : Int) := of_decide_eq_true (by first | (with_reducible assumption) | assumption); have q475 : a1 < (l0_1.length : Int) := of_decide_eq_true (by first | (with_reducible assumption) | assumption); obtain ⟨ad475, A475_2, c475_2, A475_3, c475_3, A475_4, c475_4, e475, hx475_0, hx475_1, hx475_2, hx475_3, hx475_4, hl475_2, hi475_2, hl475_3, hi475_3, hl475_4, hi475_4⟩ := at_T54 HR0_1.out a1 p475 q475; cases e475; replace hx475_0 := (HB.out.cell (World.block_lt_of_cell? w _ hx475_0)).trans hx475_0; replace hx475_1 := (HB.out.cell (World.block_lt_of_cell? w _ hx475_1)).trans hx475_1; replace hx475_2 := (HB.out.cell (World.block_lt_of_cell? w _ hx475_2)).trans hx475_2; replace hx475_3 := (HB.out.cell (World.block_lt_of_cell? w _ hx475_3)).trans hx475_3; replace hx475_4 := (HB.out.cell (World.block_lt_of_cell? w _ hx475_4)).trans hx475_4; have HR475_2 := Aside0.mk hi475_2; have HC475_2 := Aside0.mk hl475_2; clear hi475_2 hl475_2; have HR475_3 := Aside0.mk hi475_3; have HC475_3 := Aside0.mk hl475_3; clear hi475_3 hl475_3; have HR475_4 := Aside0.mk hi475_4; have HC475_4 := Aside0.mk hl475_4; clear hi475_4 hl475_4; replace p475 := eq_true p475; replace q475 := eq_true q475; have p476 : 0 ≤ (a1 : Int) := of_decide_eq_true (by first | (with_reducible assumption) | assumption); have q476 : a1 < (l0_1.length : Int) := of_decide_eq_true (by first | (with_reducible assumption) | assumption); obtain ⟨ad476, A476_2, c476_2, A476_3, c476_3, A476_4, c476_4, e476, hx476_0, hx476_1, hx476_2, hx476_3, hx476_4, hl476_2, hi476_2, hl476_3, hi476_3, hl476_4, hi476_4⟩ := at_T54 HR0_1.out a1 p476 q476; obtain rfl : ad475 = ad476 := (by injection e476); replace hx476_0 := (HB.out.cell (World.block_lt_of_cell? w _ hx476_0)).trans hx476_0; replace hx476_1 := (HB.out.cell (World.block_lt_of_cell? w _ hx476_1)).trans hx476_1; replace hx476_2 := (HB.out.cell (World.block_lt_of_cell? w _ hx476_2)).trans hx476_2; replace hx476_3 := (HB.out.cell (World.block_lt_of_cell? w _ hx476_3)).trans hx476_3; replace hx476_4 := (HB.out.cell (World.block_lt_of_cell? w _ hx476_4)).trans hx476_4; have HR476_2 := Aside0.mk hi476_2; have HC476_2 := Aside0.mk hl476_2; clear hi476_2 hl476_2; have HR476_3 := Aside0.mk hi476_3; have HC476_3 := Aside0.mk hl476_3; clear hi476_3 hl476_3; have HR476_4 := Aside0.mk hi476_4; have HC476_4 := Aside0.mk hl476_4; clear hi476_4 hl476_4; replace p476 := eq_true p476; replace q476 := eq_true q476; have ea_ := Option.some.inj (hx475_2.symm.trans hx476_2); injection ea_ with ea_ en_ ec_; subst ea_; subst ec_; clear en_; have ea_ := Option.some.inj (hx475_3.symm.trans hx476_3); injection ea_ with ea_ en_ ec_; subst ea_; subst ec_; clear en_; have ea_ := Option.some.inj (hx475_4.symm.trans hx476_4); injection ea_ with ea_ en_ ec_; subst ea_; subst ec_; clear en_))
    go_ret
    exact ⟨by first | rfl | (simp [errW_none, errW_some] <;> rfl) | (simp [*, errW_none, errW_some] <;> rfl), by repeat (first | (with_reducible first | exact HB.out | apply below_alloc | apply pw_below_drewN | apply below_drew1 | refine below_set ?_ GE474.out) | exact HB.out)⟩
  ·rw [if_neg c4] at H
   exact absurd H (by simp)
 ·rw [if_neg c3] at H
  exact absurd H (by simp)
attribute [local go_sem high] eqA80
def spinetref07_Has.l0 : Nat → Int → Int → Int → Option (Bool)
 | 0, _, _, _ => none
 | k + 1, x0, x1, x5 => if x5 < x1 then (spinetref07_Has.l0 k ((Int.tdiv x0 2) % 4294967296) x1 (wrap64 (x5 + 1))) else (if x1 ≥ 0 then (some ((Int.tmod x0 2) == 1)) else (some false))
def spinetref07_Has.f (k : Nat) (a0 : Int) (a1 : Int) : Option (Bool) := spinetref07_Has.l0 k a0 a1 0
theorem spinetref07_Has.calls (k : Nat) (a0 : Int) (a1 : Int) (r : Bool) (w : World) (h : spinetref07_Has.f k a0 a1 = some r) :
  Calls Tryz.prog 33 #[.int .u32 a0, .int .i64 a1] w fun e w' => e = .returned (.bool r) ∧ Drawn0 w w' := by
 have H : (spinetref07_Has.l0 k a0 a1 0) = some r := h
 clear h
 have H' := Aside0.mk H
 clear H
 go_enter Tryz.func33, Tryz.ntmps33
 go_wp2
 go_loopg [0, 5] k (fun kq v0 v5 w' => ∃ (x0_1 : Int) (x5_1 : Int), v0 = .int .u32 x0_1 ∧ v5 = .int .i64 x5_1 ∧ Aside0 (spinetref07_Has.l0 kq x0_1 a1 x5_1 = some r) ∧ Aside0 (kq ≤ k) ∧ Drawn0 w w')
 case atStart => exact ⟨(a0), (0), (by first | rfl | (simp; done) | (simp [*]; done)), (by first | rfl | (simp; done) | (simp [*]; done)), H', ⟨Nat.le_refl _⟩, by repeat (first | exact Drawn0.refl _ | apply Drawn0.step)⟩
 case round =>
  clear H'
  try clear p2
  obtain ⟨x0_1, x5_1, rfl, rfl, HA, HK1, ⟨m1, rfl⟩⟩ := hrel
  cases gk with
  | zero => exact absurd HA.out (by simp [spinetref07_Has.l0])
  | succ k1 =>
   have H := HA.out
   clear HA
   simp only [spinetref07_Has.l0] at H
   by_cases c3 : x5_1 < a1
   ·rw [if_pos c3] at H
    have c3b0 : decide (x5_1 < a1) = true := decide_eq_true c3
    clear c3
    have H' := Aside0.mk H
    clear H
    go_wp2
    go_roundg k1
    case measure => have := HK1.out; omega
    case rel => exact ⟨((Int.tdiv x0_1 2) % 4294967296), (wrap64 (x5_1 + 1)), (by first | rfl | (simp; done) | (simp [*]; done)), (by first | rfl | (simp; done) | (simp [*]; done)), H', ⟨by have := HK1.out; omega⟩, by repeat (first | exact Drawn0.refl _ | apply Drawn0.step)⟩
   ·rw [if_neg c3] at H
    have c3b0 : decide (x5_1 < a1) = false := decide_eq_false c3
    clear c3
    by_cases c4 : a1 ≥ 0
    ·rw [if_pos c4] at H
     have c4b0 : decide (0 ≤ a1) = true := decide_eq_true c4
     clear c4
     obtain rfl := Option.some.inj H
     go_wp2
     go_ret
     exact ⟨by first | rfl | (simp; done) | (simp [*]; done), by repeat (first | exact Drawn0.refl _ | apply Drawn0.step)⟩
    ·rw [if_neg c4] at H
     have c4b0 : decide (0 ≤ a1) = false := decide_eq_false c4
     clear c4
     obtain rfl := Option.some.inj H
     go_wp2
     go_ret
     exact ⟨by first | rfl | (simp; done) | (simp [*]; done), by repeat (first | exact Drawn0.refl _ | apply Drawn0.step)⟩
attribute [local go_sem high] eqA80
def spinetref05_SameActs.l0 : Nat → List (S80) → List (S80) → Int → Option (Bool)
 | 0, _, _, _ => none
 | k + 1, x0, x1, x5 => if x5 < (x0.length : Int) then (if 0 ≤ x5 then (if x5 < (x1.length : Int) then (if (!(((rd_T80 x0 x5).f0) == ((rd_T80 x1 x5).f0)) || (!(((rd_T80 x0 x5).f1) == ((rd_T80 x1 x5).f1)) || (!(((rd_T80 x0 x5).f2) == ((rd_T80 x1 x5).f2)) || (!((((rd_T80 x0 x5).f3).toList) == (((rd_T80 x1 x5).f3).toList)))))) = true then (some false) else (spinetref05_SameActs.l0 k x0 x1 (wrap64 (x5 + 1)))) else (none)) else (none)) else (some true)
def spinetref05_SameActs.f (k : Nat) (l0 : List (S80)) (l1 : List (S80)) : Option (Bool) := if (l0.length : Int) = (l1.length : Int) then (spinetref05_SameActs.l0 k l0 l1 0) else (some false)
end Go.Proofs.YtemoonhnncopoaaGreatDoor.PAll
end
