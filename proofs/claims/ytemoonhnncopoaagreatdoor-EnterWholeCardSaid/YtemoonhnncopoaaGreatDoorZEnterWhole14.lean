/- Texts of this claim, merged (PAllFew). -/
import Derived.Test.YtemoonhnncopoaaGreatDoorZEnterWhole2
set_option linter.unusedVariables false
set_option linter.unusedSimpArgs false
set_option maxRecDepth 100000
set_option maxHeartbeats 8000000
section
namespace Go.Proofs.YtemoonhnncopoaaGreatDoor.PAll
open Go.RowKit Go.Proofs.YtemoonhnncopoaaGreatDoorW.PrintWords Go.Proofs.YtemoonhnncopoaaGreatDoorW.PrintLast Go.Proofs.YtemoonhnncopoaaGreatDoorW.PrintMore
attribute [local go_sem] max2_int min2_int max_two min_two max_three min_three max_four min_four   -- for this text's walks alone
attribute [local go_sem high] eqA87
def spinetref05_fewActs.l0 : Nat → List (S80) → Int → Option (Bool)
 | 0, _, _ => none
 | k + 1, x0, x3 => if x3 < (x0.length : Int) then (if 0 ≤ x3 then (if (((rd_T80 x0 x3).f3).size : Int) > 500 then (some false) else (spinetref05_fewActs.l0 k x0 (wrap64 (x3 + 1)))) else (none)) else (some (decide ((x0.length : Int) ≤ 20)))
def spinetref05_fewActs.f (k : Nat) (l0 : List (S80)) : Option (Bool) := spinetref05_fewActs.l0 k l0 0
theorem spinetref05_fewActs.calls (k : Nat) (A0 : Option Addr) (c0 : Nat) (l0 : List (S80)) (r : Bool) (w : World) (hr0 : Kd.C k80 w A0 l0.length l0) (hc0 : l0.length ≤ c0) (h : spinetref05_fewActs.f k l0 = some r) :
  Calls Tryz.prog 58 #[.slice A0 l0.length c0] w fun e w' => e = .returned (.bool r) ∧ Drawn0 w w' := by
 have HR0 := Aside0.mk hr0
 have HC0 := Aside0.mk hc0
 clear hr0 hc0
 have H : (spinetref05_fewActs.l0 k l0 0) = some r := h
 clear h
 have H' := Aside0.mk H
 clear H
 go_enter Tryz.func58, Tryz.ntmps58
 go_wp2
 go_loopg [3] k (fun kq v3 w' => ∃ (x3_1 : Int), v3 = .int .i64 x3_1 ∧ Aside0 (spinetref05_fewActs.l0 kq l0 x3_1 = some r) ∧ Aside0 (kq ≤ k) ∧ Drawn0 w w')
 case atStart => exact ⟨(0), (by first | rfl | (simp; done) | (simp [*]; done)), H', ⟨Nat.le_refl _⟩, by repeat (first | exact Drawn0.refl _ | apply Drawn0.step)⟩
 case round =>
  clear H'
  obtain ⟨x3_1, rfl, HA, HK1, ⟨m1, rfl⟩⟩ := hrel
  cases gk with
  | zero => exact absurd HA.out (by simp [spinetref05_fewActs.l0])
  | succ k1 =>
   have H := HA.out
   clear HA
   simp only [spinetref05_fewActs.l0] at H
   by_cases c2 : x3_1 < (l0.length : Int)
   ·rw [if_pos c2] at H
    have c2b0 : decide (x3_1 < (l0.length : Int)) = true := decide_eq_true c2
    clear c2
    by_cases c3 : 0 ≤ x3_1
    ·rw [if_pos c3] at H
     have c3b0 : decide (0 ≤ x3_1) = true := decide_eq_true c3
     clear c3
     by_cases c4 : (((rd_T80 l0 x3_1).f3).size : Int) > 500
     ·rw [if_pos c4] at H
      have c4b0 : decide (500 < (((rd_T80 l0 x3_1).f3).size : Int)) = true := decide_eq_true c4
      have c4b1 : decide (500 < ((rd_T80 l0 x3_1).f3).size) = true := decide_eq_true (by omega)
      clear c4
      obtain rfl := Option.some.inj H
      have p346 : 0 ≤ (x3_1 : Int) := of_decide_eq_true (by first | (with_reducible assumption) | assumption)
      have q346 : x3_1 < (l0.length : Int) := of_decide_eq_true (by first | (with_reducible assumption) | assumption)
      obtain ⟨ad346, e346, hx346_0, hx346_1, hx346_2, hx346_3⟩ := at_T80 HR0.out x3_1 p346 q346
      cases e346
      replace p346 := eq_true p346
      replace q346 := eq_true q346
      go_wp2
      go_ret
      exact ⟨by first | rfl | (simp; done) | (simp [*]; done), by repeat (first | exact Drawn0.refl _ | apply Drawn0.step)⟩
     ·rw [if_neg c4] at H
      have c4b0 : decide (500 < (((rd_T80 l0 x3_1).f3).size : Int)) = false := decide_eq_false c4
      have c4b1 : decide (500 < ((rd_T80 l0 x3_1).f3).size) = false := decide_eq_false (by omega)
      clear c4
      have H' := Aside0.mk H
      clear H
      have p346 : 0 ≤ (x3_1 : Int) := of_decide_eq_true (by first | (with_reducible assumption) | assumption)
      have q346 : x3_1 < (l0.length : Int) := of_decide_eq_true (by first | (with_reducible assumption) | assumption)
      obtain ⟨ad346, e346, hx346_0, hx346_1, hx346_2, hx346_3⟩ := at_T80 HR0.out x3_1 p346 q346
      cases e346
      replace p346 := eq_true p346
      replace q346 := eq_true q346
      go_wp2
      go_roundg k1
      case measure => have := HK1.out; omega
      case rel => exact ⟨(wrap64 (x3_1 + 1)), (by first | rfl | (simp; done) | (simp [*]; done)), H', ⟨by have := HK1.out; omega⟩, by repeat (first | exact Drawn0.refl _ | apply Drawn0.step)⟩
    ·rw [if_neg c3] at H
     exact absurd H (by simp)
   ·rw [if_neg c2] at H
    have c2b0 : decide (x3_1 < (l0.length : Int)) = false := decide_eq_false c2
    clear c2
    obtain rfl := Option.some.inj H
    go_wp2
    go_ret
    exact ⟨by first | rfl | (simp; done) | (simp [*]; done), by repeat (first | exact Drawn0.refl _ | apply Drawn0.step)⟩
mutual
def spinetref05_Few.j0 : Nat → Bool → Int → List (S54) → List (S56) → Option (Bool)
 | 0, _, _, _, _ => none
 | k + 1, x17, x348000, x348001, x348002 => if x17 = true then (some false) else (spinetref05_Few.l0 k 0 x348000 x348001 x348002)
def spinetref05_Few.l0 : Nat → Int → Int → List (S54) → List (S56) → Option (Bool)
 | 0, _, _, _, _ => none
 | k + 1, x3, x348000, x348001, x348002 => if x3 < (x348001.length : Int) then (if 0 ≤ x3 then ((spinetref05_fewActs.f k ((rd_T54 x348001 x3).f3)).bind fun t349 => ((spinetref05_fewActs.f k ((rd_T54 x348001 x3).f4)).bind fun t351 => (if t349 = true then (if t351 = true then (if (((rd_T54 x348001 x3).f2).length : Int) > 20 then (some false) else (spinetref05_Few.l0 k (wrap64 (x3 + 1)) x348000 x348001 x348002)) else (some false)) else (some false)))) else (none)) else (spinetref05_Few.l1 k 0 x348000 x348001 x348002)
def spinetref05_Few.l1 : Nat → Int → Int → List (S54) → List (S56) → Option (Bool)
 | 0, _, _, _, _ => none
 | k + 1, x6, x348000, x348001, x348002 => if x6 < (x348002.length : Int) then (if 0 ≤ x6 then ((spinetref05_fewActs.f k ((rd_T56 x348002 x6).f5)).bind fun t354 => (if t354 = true then (if (((rd_T56 x348002 x6).f3).length : Int) > 20 then (some false) else (if (((rd_T56 x348002 x6).f2).size : Int) > 500 then (some false) else (spinetref05_Few.l1 k (wrap64 (x6 + 1)) x348000 x348001 x348002))) else (some false))) else (none)) else (some true)
end
def spinetref05_Few.f (k : Nat) (a0_0 : Int) (l0_1 : List (S54)) (l0_2 : List (S56)) : Option (Bool) := if (l0_1.length : Int) > 40 then (spinetref05_Few.j0 k true a0_0 l0_1 l0_2) else (spinetref05_Few.j0 k (decide ((l0_2.length : Int) > 60)) a0_0 l0_1 l0_2)
theorem spinetref05_Few.calls (k : Nat) (a0_0 : Int) (A0_1 : Option Addr) (c0_1 : Nat) (l0_1 : List (S54)) (A0_2 : Option Addr) (c0_2 : Nat) (l0_2 : List (S56)) (r : Bool) (w : World) (hr0_1 : Kd.C k54 w A0_1 l0_1.length l0_1) (hc0_1 : l0_1.length ≤ c0_1) (hr0_2 : Kd.C k56 w A0_2 l0_2.length l0_2) (hc0_2 : l0_2.length ≤ c0_2) (h : spinetref05_Few.f k a0_0 l0_1 l0_2 = some r) :
  Calls Tryz.prog 25 #[.agg #[.int .i64 a0_0, .slice A0_1 l0_1.length c0_1, .slice A0_2 l0_2.length c0_2]] w fun e w' => e = .returned (.bool r) ∧ Below w.heap.size w w' := by
 have hu47 := Tryz.underlying47
 have HR0_1 := Aside0.mk hr0_1
 have HC0_1 := Aside0.mk hc0_1
 clear hr0_1 hc0_1
 have HR0_2 := Aside0.mk hr0_2
 have HC0_2 := Aside0.mk hc0_2
 clear hr0_2 hc0_2
 have HB := Aside0.mk (Below.refl w.heap.size w)
 have H : (if (l0_1.length : Int) > 40 then (spinetref05_Few.j0 k true a0_0 l0_1 l0_2) else (spinetref05_Few.j0 k (decide ((l0_2.length : Int) > 60)) a0_0 l0_1 l0_2)) = some r := h
 clear h
 have HC2 := Aside0.mk H
 clear H
 go_enter Tryz.func25, Tryz.ntmps25
 go_upto_region 1 with (first | ((with_reducible refine gate_dst (N := 1) rfl ?_); (try (refine gate_guard (by rfl) ?_; dsimp only)); refine box_event ?hg (N := 1) ?hd (cs := #[.int .i64 a0_0, .slice A0_1 l0_1.length c0_1, .slice A0_2 l0_2.length c0_2]) (t := 47) ?hr ?_; (case hd => rfl); (case hg => rfl); (case hr => first | (go_simp; done) | (go_simp; rfl)); intro gb347 hg w3 hbox hb; have n0_ := Aside0.mk (below_step (by repeat (first | (with_reducible first | exact HB.out | apply below_alloc | apply pw_below_drewN | apply below_drew1) | exact HB.out)) hb); have n1_ := Aside0.mk (hbox); have n2_ := Aside0.mk ((by rw [hg]; exact (below_size (by repeat (first | (with_reducible first | exact HB.out | apply below_alloc | apply pw_below_drewN | apply below_drew1) | exact HB.out))) : w.heap.size ≤ gb347)); have n3_ := Aside0.mk ((by rw [hg]; exact (below_size (by repeat (first | (with_reducible first | exact HB.out | apply below_alloc | apply pw_below_drewN | apply below_drew1) | exact HB.out))) : w.heap.size ≤ gb347)); clear HB; have HB := n0_; have BK347 := n1_; have GW347 := n2_; have GE347 := n3_; clear n0_ n1_ n2_ n3_; clear hb hbox hg))
 (try simp only [Act.put, List.setIfInBounds_toArray, List.set_cons_zero, List.set_cons_succ])
 go_cut [17] (fun v17 wc => ∃ (kq : Nat) (x17_1 : Bool), v17 = .bool x17_1 ∧ Aside0 (spinetref05_Few.j0 kq x17_1 a0_0 l0_1 l0_2 = some r) ∧ Aside0 (kq ≤ k) ∧ Aside0 (wc.heap[gb347]? = some (.cells #[.int .i64 a0_0, (.slice A0_1 l0_1.length c0_1), (.slice A0_2 l0_2.length c0_2)] 47 (0, 0))) ∧ Aside0 (Below w.heap.size w wc))
 case first =>
  have H := HC2.out
  clear HC2
  by_cases c4 : (l0_1.length : Int) > 40
  ·rw [if_pos c4] at H
   have c4b0 : decide (40 < (l0_1.length : Int)) = true := decide_eq_true c4
   have c4b1 : decide (40 < l0_1.length) = true := decide_eq_true (by omega)
   clear c4
   (first | rw [c4b0] | (simp only [i64_w, i32_w]; rw [c4b0]) | skip)
   have H' := Aside0.mk H
   clear H
   have hcz5_0 : w3.cell? ⟨gb347, 0, none⟩ = some (.int .i64 a0_0) := (blk_cell BK347.out 0).trans rfl
   have hcz5_1 : w3.cell? ⟨gb347, 1, none⟩ = some (.slice A0_1 l0_1.length c0_1) := (blk_cell BK347.out 1).trans rfl
   have hcz5_2 : w3.cell? ⟨gb347, 2, none⟩ = some (.slice A0_2 l0_2.length c0_2) := (blk_cell BK347.out 2).trans rfl
   have hfz5_0 := blk_frozen BK347.out 0
   have hfz5_1 := blk_frozen BK347.out 1
   have hfz5_2 := blk_frozen BK347.out 2
   go_wp2
   go_meet
   case rel => exact ⟨_, (true), (by first | rfl | (simp; done) | (simp [*]; done)), H', ⟨by first | omega | exact Nat.le_refl _⟩, ⟨by (with_reducible repeat (first | refine blk_drewN ?_ _ | refine blk_drew ?_ | refine blk_alloc ?_ _)); exact BK347.out⟩, ⟨by repeat (first | (with_reducible first | exact HB.out | apply below_alloc | apply pw_below_drewN | apply below_drew1 | refine below_set ?_ GE347.out) | exact HB.out)⟩⟩
  ·rw [if_neg c4] at H
   have c4b0 : decide (40 < (l0_1.length : Int)) = false := decide_eq_false c4
   have c4b1 : decide (40 < l0_1.length) = false := decide_eq_false (by omega)
   clear c4
   (first | rw [c4b0] | (simp only [i64_w, i32_w]; rw [c4b0]) | skip)
   have H' := Aside0.mk H
   clear H
   have hcz6_0 : w3.cell? ⟨gb347, 0, none⟩ = some (.int .i64 a0_0) := (blk_cell BK347.out 0).trans rfl
   have hcz6_1 : w3.cell? ⟨gb347, 1, none⟩ = some (.slice A0_1 l0_1.length c0_1) := (blk_cell BK347.out 1).trans rfl
   have hcz6_2 : w3.cell? ⟨gb347, 2, none⟩ = some (.slice A0_2 l0_2.length c0_2) := (blk_cell BK347.out 2).trans rfl
   have hfz6_0 := blk_frozen BK347.out 0
   have hfz6_1 := blk_frozen BK347.out 1
   have hfz6_2 := blk_frozen BK347.out 2
   go_wp2
   go_meet
   case rel => exact ⟨_, (decide ((l0_2.length : Int) > 60)), (by first | rfl | (simp; done) | (simp [*]; done)), H', ⟨by first | omega | exact Nat.le_refl _⟩, ⟨by (with_reducible repeat (first | refine blk_drewN ?_ _ | refine blk_drew ?_ | refine blk_alloc ?_ _)); exact BK347.out⟩, ⟨by repeat (first | (with_reducible first | exact HB.out | apply below_alloc | apply pw_below_drewN | apply below_drew1 | refine below_set ?_ GE347.out) | exact HB.out)⟩⟩
 case rest =>
  clear HC2
  try clear c2
  try clear p2
  try clear c4
  try clear c4b0
  try clear c4b1
  try clear hcz5_0
  try clear hcz5_1
  try clear hcz5_2
  try clear hcz6_0
  try clear hcz6_1
  try clear hcz6_2
  try clear hfz5_0
  try clear hfz5_1
  try clear hfz5_2
  try clear hfz6_0
  try clear hfz6_1
  try clear hfz6_2
  obtain ⟨kq, x17_1, rfl, HA, HJ1, BK347, HB⟩ := hcut
  cases kq with
  | zero => exact absurd HA.out (by simp [spinetref05_Few.j0])
  | succ kj1 =>
   have H := HA.out
   clear HA
   simp only [spinetref05_Few.j0] at H
   by_cases c7 : x17_1 = true
   ·subst c7
    have H1 : (some false) = some r := by rw [if_pos rfl] at H; exact H
    clear H
    have H := H1
    clear H1
    obtain rfl := Option.some.inj H
    go_wp2
    go_ret
    exact ⟨by first | rfl | (simp [errW_none, errW_some] <;> rfl) | (simp [*, errW_none, errW_some] <;> rfl), by repeat (first | (with_reducible first | exact HB.out | apply below_alloc | apply pw_below_drewN | apply below_drew1 | refine below_set ?_ GE347.out) | exact HB.out)⟩
   ·replace c7 := Bool.eq_false_iff.mpr c7
    subst c7
    have H1 : (spinetref05_Few.l0 kj1 0 a0_0 l0_1 l0_2) = some r := by rw [if_neg (show ¬ (false = true) by decide)] at H; exact H
    clear H
    have H := H1
    clear H1
    have H' := Aside0.mk H
    clear H
    go_wp2
    go_loopg [3] kj1 (fun kq v3 w' => ∃ (x3_2 : Int), v3 = .int .i64 x3_2 ∧ Aside0 (spinetref05_Few.l0 kq x3_2 a0_0 l0_1 l0_2 = some r) ∧ Aside0 (kq ≤ kj1) ∧ Aside0 (w'.heap[gb347]? = some (.cells #[.int .i64 a0_0, (.slice A0_1 l0_1.length c0_1), (.slice A0_2 l0_2.length c0_2)] 47 (0, 0))) ∧ Aside0 (Below w.heap.size w w'))
    case atStart => exact ⟨(0), (by first | rfl | (simp; done) | (simp [*]; done)), H', ⟨Nat.le_refl _⟩, ⟨by (with_reducible repeat (first | refine blk_drewN ?_ _ | refine blk_drew ?_ | refine blk_alloc ?_ _)); exact BK347.out⟩, ⟨by repeat (first | (with_reducible first | exact HB.out | apply below_alloc | apply pw_below_drewN | apply below_drew1 | refine below_set ?_ GE347.out) | exact HB.out)⟩⟩
    case round =>
     clear H'
     try clear c2
     try clear p2
     try clear c4
     try clear c4b0
     try clear c4b1
     try clear c7
     try clear hcz5_0
     try clear hcz5_1
     try clear hcz5_2
     try clear hcz6_0
     try clear hcz6_1
     try clear hcz6_2
     try clear hfz5_0
     try clear hfz5_1
     try clear hfz5_2
     try clear hfz6_0
     try clear hfz6_1
     try clear hfz6_2
     try clear p2
     obtain ⟨x3_2, rfl, HA, HK2, BK347, HB⟩ := hrel
     cases gk with
     | zero => exact absurd HA.out (by simp [spinetref05_Few.l0])
     | succ k2 =>
      have H := HA.out
      clear HA
      simp only [spinetref05_Few.l0] at H
      by_cases c8 : x3_2 < (l0_1.length : Int)
      ·rw [if_pos c8] at H
       have c8b0 : decide (x3_2 < (l0_1.length : Int)) = true := decide_eq_true c8
       clear c8
       by_cases c9 : 0 ≤ x3_2
       ·rw [if_pos c9] at H
        have c9b0 : decide (0 ≤ x3_2) = true := decide_eq_true c9
        clear c9
        replace H := Option.bind_eq_some_iff.mp H
        obtain ⟨t349, A100, H⟩ := H
        replace H : ((spinetref05_fewActs.f k2 ((rd_T54 l0_1 x3_2).f4)).bind fun t351 => (if t349 = true then (if t351 = true then (if (((rd_T54 l0_1 x3_2).f2).length : Int) > 20 then (some false) else (spinetref05_Few.l0 k2 (wrap64 (x3_2 + 1)) a0_0 l0_1 l0_2)) else (some false)) else (some false))) = some r := H
        have A10 := Aside0.mk A100
        clear A100
        replace H := Option.bind_eq_some_iff.mp H
        obtain ⟨t351, A110, H⟩ := H
        replace H : (if t349 = true then (if t351 = true then (if (((rd_T54 l0_1 x3_2).f2).length : Int) > 20 then (some false) else (spinetref05_Few.l0 k2 (wrap64 (x3_2 + 1)) a0_0 l0_1 l0_2)) else (some false)) else (some false)) = some r := H
        have A11 := Aside0.mk A110
        clear A110
        by_cases c12 : t349 = true
        ·subst c12
         have H1 : (if t351 = true then (if (((rd_T54 l0_1 x3_2).f2).length : Int) > 20 then (some false) else (spinetref05_Few.l0 k2 (wrap64 (x3_2 + 1)) a0_0 l0_1 l0_2)) else (some false)) = some r := by rw [if_pos rfl] at H; exact H
         clear H
         have H := H1
         clear H1
         by_cases c13 : t351 = true
         ·subst c13
          have H1 : (if (((rd_T54 l0_1 x3_2).f2).length : Int) > 20 then (some false) else (spinetref05_Few.l0 k2 (wrap64 (x3_2 + 1)) a0_0 l0_1 l0_2)) = some r := by rw [if_pos rfl] at H; exact H
          clear H
          have H := H1
          clear H1
          by_cases c14 : (((rd_T54 l0_1 x3_2).f2).length : Int) > 20
          ·rw [if_pos c14] at H
           have c14b0 : decide (20 < (((rd_T54 l0_1 x3_2).f2).length : Int)) = true := decide_eq_true c14
           have c14b1 : decide (20 < ((rd_T54 l0_1 x3_2).f2).length) = true := decide_eq_true (by omega)
           clear c14
           obtain rfl := Option.some.inj H
           have hcz15_0 : wr.cell? ⟨gb347, 0, none⟩ = some (.int .i64 a0_0) := (blk_cell BK347.out 0).trans rfl
           have hcz15_1 : wr.cell? ⟨gb347, 1, none⟩ = some (.slice A0_1 l0_1.length c0_1) := (blk_cell BK347.out 1).trans rfl
           have hcz15_2 : wr.cell? ⟨gb347, 2, none⟩ = some (.slice A0_2 l0_2.length c0_2) := (blk_cell BK347.out 2).trans rfl
           have hfz15_0 := blk_frozen BK347.out 0
           have hfz15_1 := blk_frozen BK347.out 1
           have hfz15_2 := blk_frozen BK347.out 2
           have p348 : 0 ≤ (x3_2 : Int) := of_decide_eq_true (by first | (with_reducible assumption) | assumption)
           have q348 : x3_2 < (l0_1.length : Int) := of_decide_eq_true (by first | (with_reducible assumption) | assumption)
           obtain ⟨ad348, A348_2, c348_2, A348_3, c348_3, A348_4, c348_4, e348, hx348_0, hx348_1, hx348_2, hx348_3, hx348_4, hl348_2, hi348_2, hl348_3, hi348_3, hl348_4, hi348_4⟩ := at_T54 HR0_1.out x3_2 p348 q348
           cases e348
           replace hx348_0 := (HB.out.cell (World.block_lt_of_cell? w _ hx348_0)).trans hx348_0
           replace hx348_1 := (HB.out.cell (World.block_lt_of_cell? w _ hx348_1)).trans hx348_1
           replace hx348_2 := (HB.out.cell (World.block_lt_of_cell? w _ hx348_2)).trans hx348_2
           replace hx348_3 := (HB.out.cell (World.block_lt_of_cell? w _ hx348_3)).trans hx348_3
           replace hx348_4 := (HB.out.cell (World.block_lt_of_cell? w _ hx348_4)).trans hx348_4
           have HR348_2 := Aside0.mk hi348_2
           have HC348_2 := Aside0.mk hl348_2
           clear hi348_2 hl348_2
           have HR348_3 := Aside0.mk hi348_3
           have HC348_3 := Aside0.mk hl348_3
           clear hi348_3 hl348_3
           have HR348_4 := Aside0.mk hi348_4
           have HC348_4 := Aside0.mk hl348_4
           clear hi348_4 hl348_4
           replace p348 := eq_true p348
           replace q348 := eq_true q348
           go_wp2_with (first | ((with_reducible refine gate_callee (f := 58) rfl ?_); refine goesL_ (some 31) rfl rfl Tryz.func58 (by kernel_rfl) rfl #[.slice A348_3 ((rd_T54 l0_1 x3_2).f3).length c348_3] rfl (by (try simp only [List.map_toArray, List.map_cons, List.map_nil]); first | done | rfl | (simp only [List.length_drop, List.length_take]; rfl)) ?_; (with_reducible refine (spinetref05_fewActs.calls k2 _ _ ((rd_T54 l0_1 x3_2).f3) true _ ?side1 ?side2 A10.out).mono ?_); (case side1 => repeat (first | exact (Kd.C_below HR348_3.out HB.out) | (with_reducible refine Kd.C_alloc ?_ _) | (with_reducible refine Kd.C_drewN ?_ _) | (with_reducible refine Kd.C_drew ?_))); (case side2 => exact HC348_3.out); rintro e w' ⟨rfl, ⟨nd, rfl⟩⟩; refine ⟨_, rfl, ?_⟩; have p350 : 0 ≤ (x3_2 : Int) := of_decide_eq_true (by first | (with_reducible assumption) | assumption); have q350 : x3_2 < (l0_1.length : Int) := of_decide_eq_true (by first | (with_reducible assumption) | assumption); obtain ⟨ad350, A350_2, c350_2, A350_3, c350_3, A350_4, c350_4, e350, hx350_0, hx350_1, hx350_2, hx350_3, hx350_4, hl350_2, hi350_2, hl350_3, hi350_3, hl350_4, hi350_4⟩ := at_T54 HR0_1.out x3_2 p350 q350; obtain rfl : ad348 = ad350 := (by injection e350); replace hx350_0 := (HB.out.cell (World.block_lt_of_cell? w _ hx350_0)).trans hx350_0; replace hx350_1 := (HB.out.cell (World.block_lt_of_cell? w _ hx350_1)).trans hx350_1; replace hx350_2 := (HB.out.cell (World.block_lt_of_cell? w _ hx350_2)).trans hx350_2; replace hx350_3 := (HB.out.cell (World.block_lt_of_cell? w _ hx350_3)).trans hx350_3; replace hx350_4 := (HB.out.cell (World.block_lt_of_cell? w _ hx350_4)).trans hx350_4; have HR350_2 := Aside0.mk hi350_2; have HC350_2 := Aside0.mk hl350_2; clear hi350_2 hl350_2; have HR350_3 := Aside0.mk hi350_3; have HC350_3 := Aside0.mk hl350_3; clear hi350_3 hl350_3; have HR350_4 := Aside0.mk hi350_4; have HC350_4 := Aside0.mk hl350_4; clear hi350_4 hl350_4; replace p350 := eq_true p350; replace q350 := eq_true q350; have ea_ := Option.some.inj (hx348_2.symm.trans hx350_2); injection ea_ with ea_ en_ ec_; subst ea_; subst ec_; clear en_; have ea_ := Option.some.inj (hx348_3.symm.trans hx350_3); injection ea_ with ea_ en_ ec_; subst ea_; subst ec_; clear en_; have ea_ := Option.some.inj (hx348_4.symm.trans hx350_4); injection ea_ with ea_ en_ ec_; subst ea_; subst ec_; clear en_) | ((with_reducible refine gate_callee (f := 58) rfl ?_); refine goesL_ (some 38) rfl rfl Tryz.func58 (by kernel_rfl) rfl #[.slice A348_4 ((rd_T54 l0_1 x3_2).f4).length c348_4] rfl (by (try simp only [List.map_toArray, List.map_cons, List.map_nil]); first | done | rfl | (simp only [List.length_drop, List.length_take]; rfl)) ?_; (with_reducible refine (spinetref05_fewActs.calls k2 _ _ ((rd_T54 l0_1 x3_2).f4) true _ ?side1 ?side2 A11.out).mono ?_); (case side1 => repeat (first | exact (Kd.C_below HR350_4.out (by repeat (first | (with_reducible first | exact HB.out | apply below_alloc | apply pw_below_drewN | apply below_drew1 | refine below_set ?_ GE347.out) | exact HB.out))) | (with_reducible refine Kd.C_alloc ?_ _) | (with_reducible refine Kd.C_drewN ?_ _) | (with_reducible refine Kd.C_drew ?_))); (case side2 => exact HC350_4.out); rintro e w' ⟨rfl, ⟨nd, rfl⟩⟩; refine ⟨_, rfl, ?_⟩; have p352 : 0 ≤ (x3_2 : Int) := of_decide_eq_true (by first | (with_reducible assumption) | assumption); have q352 : x3_2 < (l0_1.length : Int) := of_decide_eq_true (by first | (with_reducible assumption) | assumption); obtain ⟨ad352, A352_2, c352_2, A352_3, c352_3, A352_4, c352_4, e352, hx352_0, hx352_1, hx352_2, hx352_3, hx352_4, hl352_2, hi352_2, hl352_3, hi352_3, hl352_4, hi352_4⟩ := at_T54 HR0_1.out x3_2 p352 q352; obtain rfl : ad348 = ad352 := (by injection e352); replace hx352_0 := (HB.out.cell (World.block_lt_of_cell? w _ hx352_0)).trans hx352_0; replace hx352_1 := (HB.out.cell (World.block_lt_of_cell? w _ hx352_1)).trans hx352_1; replace hx352_2 := (HB.out.cell (World.block_lt_of_cell? w _ hx352_2)).trans hx352_2; replace hx352_3 := (HB.out.cell (World.block_lt_of_cell? w _ hx352_3)).trans hx352_3; replace hx352_4 := (HB.out.cell (World.block_lt_of_cell? w _ hx352_4)).trans hx352_4; have HR352_2 := Aside0.mk hi352_2; have HC352_2 := Aside0.mk hl352_2; clear hi352_2 hl352_2; have HR352_3 := Aside0.mk hi352_3; have HC352_3 := Aside0.mk hl352_3; clear hi352_3 hl352_3; have HR352_4 := Aside0.mk hi352_4; have HC352_4 := Aside0.mk hl352_4; clear hi352_4 hl352_4; replace p352 := eq_true p352; replace q352 := eq_true q352; have ea_ := Option.some.inj (hx348_2.symm.trans hx352_2); injection ea_ with ea_ en_ ec_; subst ea_; subst ec_; clear en_; have ea_ := Option.some.inj (hx348_3.symm.trans hx352_3); injection ea_ with ea_ en_ ec_; subst ea_; subst ec_; clear en_; have ea_ := Option.some.inj (hx348_4.symm.trans hx352_4); injection ea_ with ea_ en_ ec_; subst ea_; subst ec_; clear en_))
           go_ret
           exact ⟨by first | rfl | (simp [errW_none, errW_some] <;> rfl) | (simp [*, errW_none, errW_some] <;> rfl), by repeat (first | (with_reducible first | exact HB.out | apply below_alloc | apply pw_below_drewN | apply below_drew1 | refine below_set ?_ GE347.out) | exact HB.out)⟩
          ·rw [if_neg c14] at H
           have c14b0 : decide (20 < (((rd_T54 l0_1 x3_2).f2).length : Int)) = false := decide_eq_false c14
           have c14b1 : decide (20 < ((rd_T54 l0_1 x3_2).f2).length) = false := decide_eq_false (by omega)
           clear c14
           have H' := Aside0.mk H
           clear H
           have hcz16_0 : wr.cell? ⟨gb347, 0, none⟩ = some (.int .i64 a0_0) := (blk_cell BK347.out 0).trans rfl
           have hcz16_1 : wr.cell? ⟨gb347, 1, none⟩ = some (.slice A0_1 l0_1.length c0_1) := (blk_cell BK347.out 1).trans rfl
           have hcz16_2 : wr.cell? ⟨gb347, 2, none⟩ = some (.slice A0_2 l0_2.length c0_2) := (blk_cell BK347.out 2).trans rfl
           have hfz16_0 := blk_frozen BK347.out 0
           have hfz16_1 := blk_frozen BK347.out 1
           have hfz16_2 := blk_frozen BK347.out 2
           have p348 : 0 ≤ (x3_2 : Int) := of_decide_eq_true (by first | (with_reducible assumption) | assumption)
           have q348 : x3_2 < (l0_1.length : Int) := of_decide_eq_true (by first | (with_reducible assumption) | assumption)
           obtain ⟨ad348, A348_2, c348_2, A348_3, c348_3, A348_4, c348_4, e348, hx348_0, hx348_1, hx348_2, hx348_3, hx348_4, hl348_2, hi348_2, hl348_3, hi348_3, hl348_4, hi348_4⟩ := at_T54 HR0_1.out x3_2 p348 q348
           cases e348
           replace hx348_0 := (HB.out.cell (World.block_lt_of_cell? w _ hx348_0)).trans hx348_0
           replace hx348_1 := (HB.out.cell (World.block_lt_of_cell? w _ hx348_1)).trans hx348_1
           replace hx348_2 := (HB.out.cell (World.block_lt_of_cell? w _ hx348_2)).trans hx348_2
           replace hx348_3 := (HB.out.cell (World.block_lt_of_cell? w _ hx348_3)).trans hx348_3
           replace hx348_4 := (HB.out.cell (World.block_lt_of_cell? w _ hx348_4)).trans hx348_4
           have HR348_2 := Aside0.mk hi348_2
           have HC348_2 := Aside0.mk hl348_2
           clear hi348_2 hl348_2
           have HR348_3 := Aside0.mk hi348_3
           have HC348_3 := Aside0.mk hl348_3
           clear hi348_3 hl348_3
           have HR348_4 := Aside0.mk hi348_4
           have HC348_4 := Aside0.mk hl348_4
           clear hi348_4 hl348_4
           replace p348 := eq_true p348
           replace q348 := eq_true q348
           go_wp2_with (first | ((with_reducible refine gate_callee (f := 58) rfl ?_); refine goesL_ (some 31) rfl rfl Tryz.func58 (by kernel_rfl) rfl #[.slice A348_3 ((rd_T54 l0_1 x3_2).f3).length c348_3] rfl (by (try simp only [List.map_toArray, List.map_cons, List.map_nil]); first | done | rfl | (simp only [List.length_drop, List.length_take]; rfl)) ?_; (with_reducible refine (spinetref05_fewActs.calls k2 _ _ ((rd_T54 l0_1 x3_2).f3) true _ ?side1 ?side2 A10.out).mono ?_); (case side1 => repeat (first | exact (Kd.C_below HR348_3.out HB.out) | (with_reducible refine Kd.C_alloc ?_ _) | (with_reducible refine Kd.C_drewN ?_ _) | (with_reducible refine Kd.C_drew ?_))); (case side2 => exact HC348_3.out); rintro e w' ⟨rfl, ⟨nd, rfl⟩⟩; refine ⟨_, rfl, ?_⟩; have p350 : 0 ≤ (x3_2 : Int) := of_decide_eq_true (by first | (with_reducible assumption) | assumption); have q350 : x3_2 < (l0_1.length : Int) := of_decide_eq_true (by first | (with_reducible assumption) | assumption); obtain ⟨ad350, A350_2, c350_2, A350_3, c350_3, A350_4, c350_4, e350, hx350_0, hx350_1, hx350_2, hx350_3, hx350_4, hl350_2, hi350_2, hl350_3, hi350_3, hl350_4, hi350_4⟩ := at_T54 HR0_1.out x3_2 p350 q350; obtain rfl : ad348 = ad350 := (by injection e350); replace hx350_0 := (HB.out.cell (World.block_lt_of_cell? w _ hx350_0)).trans hx350_0; replace hx350_1 := (HB.out.cell (World.block_lt_of_cell? w _ hx350_1)).trans hx350_1; replace hx350_2 := (HB.out.cell (World.block_lt_of_cell? w _ hx350_2)).trans hx350_2; replace hx350_3 := (HB.out.cell (World.block_lt_of_cell? w _ hx350_3)).trans hx350_3; replace hx350_4 := (HB.out.cell (World.block_lt_of_cell? w _ hx350_4)).trans hx350_4; have HR350_2 := Aside0.mk hi350_2; have HC350_2 := Aside0.mk hl350_2; clear hi350_2 hl350_2; have HR350_3 := Aside0.mk hi350_3; have HC350_3 := Aside0.mk hl350_3; clear hi350_3 hl350_3; have HR350_4 := Aside0.mk hi350_4; have HC350_4 := Aside0.mk hl350_4; clear hi350_4 hl350_4; replace p350 := eq_true p350; replace q350 := eq_true q350; have ea_ := Option.some.inj (hx348_2.symm.trans hx350_2); injection ea_ with ea_ en_ ec_; subst ea_; subst ec_; clear en_; have ea_ := Option.some.inj (hx348_3.symm.trans hx350_3); injection ea_ with ea_ en_ ec_; subst ea_; subst ec_; clear en_; have ea_ := Option.some.inj (hx348_4.symm.trans hx350_4); injection ea_ with ea_ en_ ec_; subst ea_; subst ec_; clear en_) | ((with_reducible refine gate_callee (f := 58) rfl ?_); refine goesL_ (some 38) rfl rfl Tryz.func58 (by kernel_rfl) rfl #[.slice A348_4 ((rd_T54 l0_1 x3_2).f4).length c348_4] rfl (by (try simp only [List.map_toArray, List.map_cons, List.map_nil]); first | done | rfl | (simp only [List.length_drop, List.length_take]; rfl)) ?_; (with_reducible refine (spinetref05_fewActs.calls k2 _ _ ((rd_T54 l0_1 x3_2).f4) true _ ?side1 ?side2 A11.out).mono ?_); (case side1 => repeat (first | exact (Kd.C_below HR350_4.out (by repeat (first | (with_reducible first | exact HB.out | apply below_alloc | apply pw_below_drewN | apply below_drew1 | refine below_set ?_ GE347.out) | exact HB.out))) | (with_reducible refine Kd.C_alloc ?_ _) | (with_reducible refine Kd.C_drewN ?_ _) | (with_reducible refine Kd.C_drew ?_))); (case side2 => exact HC350_4.out); rintro e w' ⟨rfl, ⟨nd, rfl⟩⟩; refine ⟨_, rfl, ?_⟩; have p352 : 0 ≤ (x3_2 : Int) := of_decide_eq_true (by first | (with_reducible assumption) | assumption); have q352 : x3_2 < (l0_1.length : Int) := of_decide_eq_true (by first | (with_reducible assumption) | assumption); obtain ⟨ad352, A352_2, c352_2, A352_3, c352_3, A352_4, c352_4, e352, hx352_0, hx352_1, hx352_2, hx352_3, hx352_4, hl352_2, hi352_2, hl352_3, hi352_3, hl352_4, hi352_4⟩ := at_T54 HR0_1.out x3_2 p352 q352; obtain rfl : ad348 = ad352 := (by injection e352); replace hx352_0 := (HB.out.cell (World.block_lt_of_cell? w _ hx352_0)).trans hx352_0; replace hx352_1 := (HB.out.cell (World.block_lt_of_cell? w _ hx352_1)).trans hx352_1; replace hx352_2 := (HB.out.cell (World.block_lt_of_cell? w _ hx352_2)).trans hx352_2; replace hx352_3 := (HB.out.cell (World.block_lt_of_cell? w _ hx352_3)).trans hx352_3; replace hx352_4 := (HB.out.cell (World.block_lt_of_cell? w _ hx352_4)).trans hx352_4; have HR352_2 := Aside0.mk hi352_2; have HC352_2 := Aside0.mk hl352_2; clear hi352_2 hl352_2; have HR352_3 := Aside0.mk hi352_3; have HC352_3 := Aside0.mk hl352_3; clear hi352_3 hl352_3; have HR352_4 := Aside0.mk hi352_4; have HC352_4 := Aside0.mk hl352_4; clear hi352_4 hl352_4; replace p352 := eq_true p352; replace q352 := eq_true q352; have ea_ := Option.some.inj (hx348_2.symm.trans hx352_2); injection ea_ with ea_ en_ ec_; subst ea_; subst ec_; clear en_; have ea_ := Option.some.inj (hx348_3.symm.trans hx352_3); injection ea_ with ea_ en_ ec_; subst ea_; subst ec_; clear en_; have ea_ := Option.some.inj (hx348_4.symm.trans hx352_4); injection ea_ with ea_ en_ ec_; subst ea_; subst ec_; clear en_))
           go_roundg k2
           case measure => have := HJ1.out; have := HK2.out; omega
           case rel => exact ⟨(wrap64 (x3_2 + 1)), (by first | rfl | (simp; done) | (simp [*]; done)), H', ⟨by have := HJ1.out; have := HK2.out; omega⟩, ⟨by (with_reducible repeat (first | refine blk_drewN ?_ _ | refine blk_drew ?_ | refine blk_alloc ?_ _)); exact BK347.out⟩, ⟨by repeat (first | (with_reducible first | exact HB.out | apply below_alloc | apply pw_below_drewN | apply below_drew1 | refine below_set ?_ GE347.out) | exact HB.out)⟩⟩
         ·replace c13 := Bool.eq_false_iff.mpr c13
          subst c13
          have H1 : (some false) = some r := by rw [if_neg (show ¬ (false = true) by decide)] at H; exact H
          clear H
          have H := H1
          clear H1
          obtain rfl := Option.some.inj H
          have hcz17_0 : wr.cell? ⟨gb347, 0, none⟩ = some (.int .i64 a0_0) := (blk_cell BK347.out 0).trans rfl
          have hcz17_1 : wr.cell? ⟨gb347, 1, none⟩ = some (.slice A0_1 l0_1.length c0_1) := (blk_cell BK347.out 1).trans rfl
          have hcz17_2 : wr.cell? ⟨gb347, 2, none⟩ = some (.slice A0_2 l0_2.length c0_2) := (blk_cell BK347.out 2).trans rfl
          have hfz17_0 := blk_frozen BK347.out 0
          have hfz17_1 := blk_frozen BK347.out 1
          have hfz17_2 := blk_frozen BK347.out 2
          have p348 : 0 ≤ (x3_2 : Int) := of_decide_eq_true (by first | (with_reducible assumption) | assumption)
          have q348 : x3_2 < (l0_1.length : Int) := of_decide_eq_true (by first | (with_reducible assumption) | assumption)
          obtain ⟨ad348, A348_2, c348_2, A348_3, c348_3, A348_4, c348_4, e348, hx348_0, hx348_1, hx348_2, hx348_3, hx348_4, hl348_2, hi348_2, hl348_3, hi348_3, hl348_4, hi348_4⟩ := at_T54 HR0_1.out x3_2 p348 q348
          cases e348
          replace hx348_0 := (HB.out.cell (World.block_lt_of_cell? w _ hx348_0)).trans hx348_0
          replace hx348_1 := (HB.out.cell (World.block_lt_of_cell? w _ hx348_1)).trans hx348_1
          replace hx348_2 := (HB.out.cell (World.block_lt_of_cell? w _ hx348_2)).trans hx348_2
          replace hx348_3 := (HB.out.cell (World.block_lt_of_cell? w _ hx348_3)).trans hx348_3
          replace hx348_4 := (HB.out.cell (World.block_lt_of_cell? w _ hx348_4)).trans hx348_4
          have HR348_2 := Aside0.mk hi348_2
          have HC348_2 := Aside0.mk hl348_2
          clear hi348_2 hl348_2
          have HR348_3 := Aside0.mk hi348_3
          have HC348_3 := Aside0.mk hl348_3
          clear hi348_3 hl348_3
          have HR348_4 := Aside0.mk hi348_4
          have HC348_4 := Aside0.mk hl348_4
          clear hi348_4 hl348_4
          replace p348 := eq_true p348
          replace q348 := eq_true q348
          go_wp2_with (first | ((with_reducible refine gate_callee (f := 58) rfl ?_); refine goesL_ (some 31) rfl rfl Tryz.func58 (by kernel_rfl) rfl #[.slice A348_3 ((rd_T54 l0_1 x3_2).f3).length c348_3] rfl (by (try simp only [List.map_toArray, List.map_cons, List.map_nil]); first | done | rfl | (simp only [List.length_drop, List.length_take]; rfl)) ?_; (with_reducible refine (spinetref05_fewActs.calls k2 _ _ ((rd_T54 l0_1 x3_2).f3) true _ ?side1 ?side2 A10.out).mono ?_); (case side1 => repeat (first | exact (Kd.C_below HR348_3.out HB.out) | (with_reducible refine Kd.C_alloc ?_ _) | (with_reducible refine Kd.C_drewN ?_ _) | (with_reducible refine Kd.C_drew ?_))); (case side2 => exact HC348_3.out); rintro e w' ⟨rfl, ⟨nd, rfl⟩⟩; refine ⟨_, rfl, ?_⟩; have p350 : 0 ≤ (x3_2 : Int) := of_decide_eq_true (by first | (with_reducible assumption) | assumption); have q350 : x3_2 < (l0_1.length : Int) := of_decide_eq_true (by first | (with_reducible assumption) | assumption); obtain ⟨ad350, A350_2, c350_2, A350_3, c350_3, A350_4, c350_4, e350, hx350_0, hx350_1, hx350_2, hx350_3, hx350_4, hl350_2, hi350_2, hl350_3, hi350_3, hl350_4, hi350_4⟩ := at_T54 HR0_1.out x3_2 p350 q350; obtain rfl : ad348 = ad350 := (by injection e350); replace hx350_0 := (HB.out.cell (World.block_lt_of_cell? w _ hx350_0)).trans hx350_0; replace hx350_1 := (HB.out.cell (World.block_lt_of_cell? w _ hx350_1)).trans hx350_1; replace hx350_2 := (HB.out.cell (World.block_lt_of_cell? w _ hx350_2)).trans hx350_2; replace hx350_3 := (HB.out.cell (World.block_lt_of_cell? w _ hx350_3)).trans hx350_3; replace hx350_4 := (HB.out.cell (World.block_lt_of_cell? w _ hx350_4)).trans hx350_4; have HR350_2 := Aside0.mk hi350_2; have HC350_2 := Aside0.mk hl350_2; clear hi350_2 hl350_2; have HR350_3 := Aside0.mk hi350_3; have HC350_3 := Aside0.mk hl350_3; clear hi350_3 hl350_3; have HR350_4 := Aside0.mk hi350_4; have HC350_4 := Aside0.mk hl350_4; clear hi350_4 hl350_4; replace p350 := eq_true p350; replace q350 := eq_true q350; have ea_ := Option.some.inj (hx348_2.symm.trans hx350_2); injection ea_ with ea_ en_ ec_; subst ea_; subst ec_; clear en_; have ea_ := Option.some.inj (hx348_3.symm.trans hx350_3); injection ea_ with ea_ en_ ec_; subst ea_; subst ec_; clear en_; have ea_ := Option.some.inj (hx348_4.symm.trans hx350_4); injection ea_ with ea_ en_ ec_; subst ea_; subst ec_; clear en_) | ((with_reducible refine gate_callee (f := 58) rfl ?_); refine goesL_ (some 38) rfl rfl Tryz.func58 (by kernel_rfl) rfl #[.slice A348_4 ((rd_T54 l0_1 x3_2).f4).length c348_4] rfl (by (try simp only [List.map_toArray, List.map_cons, List.map_nil]); first | done | rfl | (simp only [List.length_drop, List.length_take]; rfl)) ?_; (with_reducible refine (spinetref05_fewActs.calls k2 _ _ ((rd_T54 l0_1 x3_2).f4) false _ ?side1 ?side2 A11.out).mono ?_); (case side1 => repeat (first | exact (Kd.C_below HR350_4.out (by repeat (first | (with_reducible first | exact HB.out | apply below_alloc | apply pw_below_drewN | apply below_drew1 | refine below_set ?_ GE347.out) | exact HB.out))) | (with_reducible refine Kd.C_alloc ?_ _) | (with_reducible refine Kd.C_drewN ?_ _) | (with_reducible refine Kd.C_drew ?_))); (case side2 => exact HC350_4.out); rintro e w' ⟨rfl, ⟨nd, rfl⟩⟩; refine ⟨_, rfl, ?_⟩))
          go_ret
          exact ⟨by first | rfl | (simp [errW_none, errW_some] <;> rfl) | (simp [*, errW_none, errW_some] <;> rfl), by repeat (first | (with_reducible first | exact HB.out | apply below_alloc | apply pw_below_drewN | apply below_drew1 | refine below_set ?_ GE347.out) | exact HB.out)⟩
        ·replace c12 := Bool.eq_false_iff.mpr c12
         subst c12
         have H1 : (some false) = some r := by rw [if_neg (show ¬ (false = true) by decide)] at H; exact H
         clear H
         have H := H1
         clear H1
         obtain rfl := Option.some.inj H
         have hcz18_0 : wr.cell? ⟨gb347, 0, none⟩ = some (.int .i64 a0_0) := (blk_cell BK347.out 0).trans rfl
         have hcz18_1 : wr.cell? ⟨gb347, 1, none⟩ = some (.slice A0_1 l0_1.length c0_1) := (blk_cell BK347.out 1).trans rfl
         have hcz18_2 : wr.cell? ⟨gb347, 2, none⟩ = some (.slice A0_2 l0_2.length c0_2) := (blk_cell BK347.out 2).trans rfl
         have hfz18_0 := blk_frozen BK347.out 0
         have hfz18_1 := blk_frozen BK347.out 1
         have hfz18_2 := blk_frozen BK347.out 2
         have p348 : 0 ≤ (x3_2 : Int) := of_decide_eq_true (by first | (with_reducible assumption) | assumption)
         have q348 : x3_2 < (l0_1.length : Int) := of_decide_eq_true (by first | (with_reducible assumption) | assumption)
         obtain ⟨ad348, A348_2, c348_2, A348_3, c348_3, A348_4, c348_4, e348, hx348_0, hx348_1, hx348_2, hx348_3, hx348_4, hl348_2, hi348_2, hl348_3, hi348_3, hl348_4, hi348_4⟩ := at_T54 HR0_1.out x3_2 p348 q348
         cases e348
         replace hx348_0 := (HB.out.cell (World.block_lt_of_cell? w _ hx348_0)).trans hx348_0
         replace hx348_1 := (HB.out.cell (World.block_lt_of_cell? w _ hx348_1)).trans hx348_1
         replace hx348_2 := (HB.out.cell (World.block_lt_of_cell? w _ hx348_2)).trans hx348_2
         replace hx348_3 := (HB.out.cell (World.block_lt_of_cell? w _ hx348_3)).trans hx348_3
         replace hx348_4 := (HB.out.cell (World.block_lt_of_cell? w _ hx348_4)).trans hx348_4
         have HR348_2 := Aside0.mk hi348_2
         have HC348_2 := Aside0.mk hl348_2
         clear hi348_2 hl348_2
         have HR348_3 := Aside0.mk hi348_3
         have HC348_3 := Aside0.mk hl348_3
         clear hi348_3 hl348_3
         have HR348_4 := Aside0.mk hi348_4
         have HC348_4 := Aside0.mk hl348_4
         clear hi348_4 hl348_4
         replace p348 := eq_true p348
         replace q348 := eq_true q348
         go_wp2_with (first | ((with_reducible refine gate_callee (f := 58) rfl ?_); refine goesL_ (some 31) rfl rfl Tryz.func58 (by kernel_rfl) rfl #[.slice A348_3 ((rd_T54 l0_1 x3_2).f3).length c348_3] rfl (by (try simp only [List.map_toArray, List.map_cons, List.map_nil]); first | done | rfl | (simp only [List.length_drop, List.length_take]; rfl)) ?_; (with_reducible refine (spinetref05_fewActs.calls k2 _ _ ((rd_T54 l0_1 x3_2).f3) false _ ?side1 ?side2 A10.out).mono ?_); (case side1 => repeat (first | exact (Kd.C_below HR348_3.out HB.out) | (with_reducible refine Kd.C_alloc ?_ _) | (with_reducible refine Kd.C_drewN ?_ _) | (with_reducible refine Kd.C_drew ?_))); (case side2 => exact HC348_3.out); rintro e w' ⟨rfl, ⟨nd, rfl⟩⟩; refine ⟨_, rfl, ?_⟩; have p350 : 0 ≤ (x3_2 : Int) := of_decide_eq_true (by first | (with_reducible assumption) | assumption); have q350 : x3_2 < (l0_1.length : Int) := of_decide_eq_true (by first | (with_reducible assumption) | assumption); obtain ⟨ad350, A350_2, c350_2, A350_3, c350_3, A350_4, c350_4, e350, hx350_0, hx350_1, hx350_2, hx350_3, hx350_4, hl350_2, hi350_2, hl350_3, hi350_3, hl350_4, hi350_4⟩ := at_T54 HR0_1.out x3_2 p350 q350; obtain rfl : ad348 = ad350 := (by injection e350); replace hx350_0 := (HB.out.cell (World.block_lt_of_cell? w _ hx350_0)).trans hx350_0; replace hx350_1 := (HB.out.cell (World.block_lt_of_cell? w _ hx350_1)).trans hx350_1; replace hx350_2 := (HB.out.cell (World.block_lt_of_cell? w _ hx350_2)).trans hx350_2; replace hx350_3 := (HB.out.cell (World.block_lt_of_cell? w _ hx350_3)).trans hx350_3; replace hx350_4 := (HB.out.cell (World.block_lt_of_cell? w _ hx350_4)).trans hx350_4; have HR350_2 := Aside0.mk hi350_2; have HC350_2 := Aside0.mk hl350_2; clear hi350_2 hl350_2; have HR350_3 := Aside0.mk hi350_3; have HC350_3 := Aside0.mk hl350_3; clear hi350_3 hl350_3; have HR350_4 := Aside0.mk hi350_4; have HC350_4 := Aside0.mk hl350_4; clear hi350_4 hl350_4; replace p350 := eq_true p350; replace q350 := eq_true q350; have ea_ := Option.some.inj (hx348_2.symm.trans hx350_2); injection ea_ with ea_ en_ ec_; subst ea_; subst ec_; clear en_; have ea_ := Option.some.inj (hx348_3.symm.trans hx350_3); injection ea_ with ea_ en_ ec_; subst ea_; subst ec_; clear en_; have ea_ := Option.some.inj (hx348_4.symm.trans hx350_4); injection ea_ with ea_ en_ ec_; subst ea_; subst ec_; clear en_) | ((with_reducible refine gate_callee (f := 58) rfl ?_); refine goesL_ (some 38) rfl rfl Tryz.func58 (by kernel_rfl) rfl #[.slice A348_4 ((rd_T54 l0_1 x3_2).f4).length c348_4] rfl (by (try simp only [List.map_toArray, List.map_cons, List.map_nil]); first | done | rfl | (simp only [List.length_drop, List.length_take]; rfl)) ?_; (with_reducible refine (spinetref05_fewActs.calls k2 _ _ ((rd_T54 l0_1 x3_2).f4) t351 _ ?side1 ?side2 A11.out).mono ?_); (case side1 => repeat (first | exact (Kd.C_below HR350_4.out (by repeat (first | (with_reducible first | exact HB.out | apply below_alloc | apply pw_below_drewN | apply below_drew1 | refine below_set ?_ GE347.out) | exact HB.out))) | (with_reducible refine Kd.C_alloc ?_ _) | (with_reducible refine Kd.C_drewN ?_ _) | (with_reducible refine Kd.C_drew ?_))); (case side2 => exact HC350_4.out); rintro e w' ⟨rfl, ⟨nd, rfl⟩⟩; refine ⟨_, rfl, ?_⟩))
         go_ret
         exact ⟨by first | rfl | (simp [errW_none, errW_some] <;> rfl) | (simp [*, errW_none, errW_some] <;> rfl), by repeat (first | (with_reducible first | exact HB.out | apply below_alloc | apply pw_below_drewN | apply below_drew1 | refine below_set ?_ GE347.out) | exact HB.out)⟩
       ·rw [if_neg c9] at H
        exact absurd H (by simp)
      ·rw [if_neg c8] at H
       have c8b0 : decide (x3_2 < (l0_1.length : Int)) = false := decide_eq_false c8
       clear c8
       have H' := Aside0.mk H
       clear H
       have hcz19_0 : wr.cell? ⟨gb347, 0, none⟩ = some (.int .i64 a0_0) := (blk_cell BK347.out 0).trans rfl
       have hcz19_1 : wr.cell? ⟨gb347, 1, none⟩ = some (.slice A0_1 l0_1.length c0_1) := (blk_cell BK347.out 1).trans rfl
       have hcz19_2 : wr.cell? ⟨gb347, 2, none⟩ = some (.slice A0_2 l0_2.length c0_2) := (blk_cell BK347.out 2).trans rfl
       have hfz19_0 := blk_frozen BK347.out 0
       have hfz19_1 := blk_frozen BK347.out 1
       have hfz19_2 := blk_frozen BK347.out 2
       go_wp2
       go_loopg [6] k2 (fun kq v6 w' => ∃ (x6_3 : Int), v6 = .int .i64 x6_3 ∧ Aside0 (spinetref05_Few.l1 kq x6_3 a0_0 l0_1 l0_2 = some r) ∧ Aside0 (kq ≤ k2) ∧ Aside0 (w'.heap[gb347]? = some (.cells #[.int .i64 a0_0, (.slice A0_1 l0_1.length c0_1), (.slice A0_2 l0_2.length c0_2)] 47 (0, 0))) ∧ Aside0 (Below w.heap.size w w'))
       case atStart => exact ⟨(0), (by first | rfl | (simp; done) | (simp [*]; done)), H', ⟨Nat.le_refl _⟩, ⟨by (with_reducible repeat (first | refine blk_drewN ?_ _ | refine blk_drew ?_ | refine blk_alloc ?_ _)); exact BK347.out⟩, ⟨by repeat (first | (with_reducible first | exact HB.out | apply below_alloc | apply pw_below_drewN | apply below_drew1 | refine below_set ?_ GE347.out) | exact HB.out)⟩⟩
       case round =>
        clear H'
        try clear c1
        try clear c2
        try clear p2
        try clear c3
        try clear p3
        try clear q3
        try clear hx3
        try clear c4
        try clear c4b0
        try clear c4b1
        try clear c5
        try clear p6
        try clear c7
        try clear c8
        try clear c8b0
        try clear c9
        try clear c9b0
        try clear c12
        try clear c13
        try clear c14
        try clear c14b0
        try clear c14b1
        try clear hcz15_0
        try clear hcz15_1
        try clear hcz15_2
        try clear hcz16_0
        try clear hcz16_1
        try clear hcz16_2
        try clear hcz17_0
        try clear hcz17_1
        try clear hcz17_2
        try clear hcz18_0
        try clear hcz18_1
        try clear hcz18_2
        try clear hcz19_0
        try clear hcz19_1
        try clear hcz19_2
        try clear hcz5_0
        try clear hcz5_1
        try clear hcz5_2
        try clear hcz6_0
        try clear hcz6_1
        try clear hcz6_2
        try clear hfz15_0
        try clear hfz15_1
        try clear hfz15_2
        try clear hfz16_0
        try clear hfz16_1
        try clear hfz16_2
        try clear hfz17_0
        try clear hfz17_1
        try clear hfz17_2
        try clear hfz18_0
        try clear hfz18_1
        try clear hfz18_2
        try clear hfz19_0
        try clear hfz19_1
        try clear hfz19_2
        try clear hfz5_0
        try clear hfz5_1
        try clear hfz5_2
        try clear hfz6_0
        try clear hfz6_1
        try clear hfz6_2
        try clear hx348_0
        try clear hx348_1
        try clear hx348_2
        try clear hx348_3
        try clear hx348_4
        try clear hx350_0
        try clear hx350_1
        try clear hx350_2
        try clear hx350_3
        try clear hx350_4
        try clear hx352_0
        try clear hx352_1
        try clear hx352_2
        try clear hx352_3
        try clear hx352_4
        try clear p2
        try clear p348
        try clear p350
        try clear p352
        try clear q348
        try clear q350
        try clear q352
        obtain ⟨x6_3, rfl, HA, HK3, BK347, HB⟩ := hrel
        cases gk with
        | zero => exact absurd HA.out (by simp [spinetref05_Few.l1])
        | succ k3 =>
         have H := HA.out
         clear HA
         simp only [spinetref05_Few.l1] at H
         by_cases c20 : x6_3 < (l0_2.length : Int)
         ·rw [if_pos c20] at H
          have c20b0 : decide (x6_3 < (l0_2.length : Int)) = true := decide_eq_true c20
          clear c20
          by_cases c21 : 0 ≤ x6_3
          ·rw [if_pos c21] at H
           have c21b0 : decide (0 ≤ x6_3) = true := decide_eq_true c21
           clear c21
           replace H := Option.bind_eq_some_iff.mp H
           obtain ⟨t354, A220, H⟩ := H
           replace H : (if t354 = true then (if (((rd_T56 l0_2 x6_3).f3).length : Int) > 20 then (some false) else (if (((rd_T56 l0_2 x6_3).f2).size : Int) > 500 then (some false) else (spinetref05_Few.l1 k3 (wrap64 (x6_3 + 1)) a0_0 l0_1 l0_2))) else (some false)) = some r := H
           have A22 := Aside0.mk A220
           clear A220
           by_cases c23 : t354 = true
           ·subst c23
            have H1 : (if (((rd_T56 l0_2 x6_3).f3).length : Int) > 20 then (some false) else (if (((rd_T56 l0_2 x6_3).f2).size : Int) > 500 then (some false) else (spinetref05_Few.l1 k3 (wrap64 (x6_3 + 1)) a0_0 l0_1 l0_2))) = some r := by rw [if_pos rfl] at H; exact H
            clear H
            have H := H1
            clear H1
            by_cases c24 : (((rd_T56 l0_2 x6_3).f3).length : Int) > 20
            ·rw [if_pos c24] at H
             have c24b0 : decide (20 < (((rd_T56 l0_2 x6_3).f3).length : Int)) = true := decide_eq_true c24
             have c24b1 : decide (20 < ((rd_T56 l0_2 x6_3).f3).length) = true := decide_eq_true (by omega)
             clear c24
             obtain rfl := Option.some.inj H
             have hcz25_0 : wr.cell? ⟨gb347, 0, none⟩ = some (.int .i64 a0_0) := (blk_cell BK347.out 0).trans rfl
             have hcz25_1 : wr.cell? ⟨gb347, 1, none⟩ = some (.slice A0_1 l0_1.length c0_1) := (blk_cell BK347.out 1).trans rfl
             have hcz25_2 : wr.cell? ⟨gb347, 2, none⟩ = some (.slice A0_2 l0_2.length c0_2) := (blk_cell BK347.out 2).trans rfl
             have hfz25_0 := blk_frozen BK347.out 0
             have hfz25_1 := blk_frozen BK347.out 1
             have hfz25_2 := blk_frozen BK347.out 2
             have p353 : 0 ≤ (x6_3 : Int) := of_decide_eq_true (by first | (with_reducible assumption) | assumption)
             have q353 : x6_3 < (l0_2.length : Int) := of_decide_eq_true (by first | (with_reducible assumption) | assumption)
             obtain ⟨ad353, A353_3, c353_3, A353_5, c353_5, e353, hx353_0, hx353_1, hx353_2, hx353_3, hx353_4, hx353_5, hl353_3, hi353_3, hl353_5, hi353_5⟩ := at_T56 HR0_2.out x6_3 p353 q353
             cases e353
             replace hx353_0 := (HB.out.cell (World.block_lt_of_cell? w _ hx353_0)).trans hx353_0
             replace hx353_1 := (HB.out.cell (World.block_lt_of_cell? w _ hx353_1)).trans hx353_1
             replace hx353_2 := (HB.out.cell (World.block_lt_of_cell? w _ hx353_2)).trans hx353_2
             replace hx353_3 := (HB.out.cell (World.block_lt_of_cell? w _ hx353_3)).trans hx353_3
             replace hx353_4 := (HB.out.cell (World.block_lt_of_cell? w _ hx353_4)).trans hx353_4
             replace hx353_5 := (HB.out.cell (World.block_lt_of_cell? w _ hx353_5)).trans hx353_5
             have HR353_3 := Aside0.mk hi353_3
             have HC353_3 := Aside0.mk hl353_3
             clear hi353_3 hl353_3
             have HR353_5 := Aside0.mk hi353_5
             have HC353_5 := Aside0.mk hl353_5
             clear hi353_5 hl353_5
             replace p353 := eq_true p353
             replace q353 := eq_true q353
             go_wp2_with (first | ((with_reducible refine gate_callee (f := 58) rfl ?_); refine goesL_ (some 68) rfl rfl Tryz.func58 (by kernel_rfl) rfl #[.slice A353_5 ((rd_T56 l0_2 x6_3).f5).length c353_5] rfl (by (try simp only [List.map_toArray, List.map_cons, List.map_nil]); first | done | rfl | (simp only [List.length_drop, List.length_take]; rfl)) ?_; (with_reducible refine (spinetref05_fewActs.calls k3 _ _ ((rd_T56 l0_2 x6_3).f5) true _ ?side1 ?side2 A22.out).mono ?_); (case side1 => repeat (first | exact (Kd.C_below HR353_5.out HB.out) | (with_reducible refine Kd.C_alloc ?_ _) | (with_reducible refine Kd.C_drewN ?_ _) | (with_reducible refine Kd.C_drew ?_))); (case side2 => exact HC353_5.out); rintro e w' ⟨rfl, ⟨nd, rfl⟩⟩; refine ⟨_, rfl, ?_⟩; have p355 : 0 ≤ (x6_3 : Int) := of_decide_eq_true (by first | (with_reducible assumption) | assumption); have q355 : x6_3 < (l0_2.length : Int) := of_decide_eq_true (by first | (with_reducible assumption) | assumption); obtain ⟨ad355, A355_3, c355_3, A355_5, c355_5, e355, hx355_0, hx355_1, hx355_2, hx355_3, hx355_4, hx355_5, hl355_3, hi355_3, hl355_5, hi355_5⟩ := at_T56 HR0_2.out x6_3 p355 q355; obtain rfl : ad353 = ad355 := (by injection e355); replace hx355_0 := (HB.out.cell (World.block_lt_of_cell? w _ hx355_0)).trans hx355_0; replace hx355_1 := (HB.out.cell (World.block_lt_of_cell? w _ hx355_1)).trans hx355_1; replace hx355_2 := (HB.out.cell (World.block_lt_of_cell? w _ hx355_2)).trans hx355_2; replace hx355_3 := (HB.out.cell (World.block_lt_of_cell? w _ hx355_3)).trans hx355_3; replace hx355_4 := (HB.out.cell (World.block_lt_of_cell? w _ hx355_4)).trans hx355_4; replace hx355_5 := (HB.out.cell (World.block_lt_of_cell? w _ hx355_5)).trans hx355_5; have HR355_3 := Aside0.mk hi355_3; have HC355_3 := Aside0.mk hl355_3; clear hi355_3 hl355_3; have HR355_5 := Aside0.mk hi355_5; have HC355_5 := Aside0.mk hl355_5; clear hi355_5 hl355_5; replace p355 := eq_true p355; replace q355 := eq_true q355; have ea_ := Option.some.inj (hx353_3.symm.trans hx355_3); injection ea_ with ea_ en_ ec_; subst ea_; subst ec_; clear en_; have ea_ := Option.some.inj (hx353_5.symm.trans hx355_5); injection ea_ with ea_ en_ ec_; subst ea_; subst ec_; clear en_))
             go_ret
             exact ⟨by first | rfl | (simp [errW_none, errW_some] <;> rfl) | (simp [*, errW_none, errW_some] <;> rfl), by repeat (first | (with_reducible first | exact HB.out | apply below_alloc | apply pw_below_drewN | apply below_drew1 | refine below_set ?_ GE347.out) | exact HB.out)⟩
            ·rw [if_neg c24] at H
             have c24b0 : decide (20 < (((rd_T56 l0_2 x6_3).f3).length : Int)) = false := decide_eq_false c24
             have c24b1 : decide (20 < ((rd_T56 l0_2 x6_3).f3).length) = false := decide_eq_false (by omega)
             clear c24
             by_cases c26 : (((rd_T56 l0_2 x6_3).f2).size : Int) > 500
             ·rw [if_pos c26] at H
              have c26b0 : decide (500 < (((rd_T56 l0_2 x6_3).f2).size : Int)) = true := decide_eq_true c26
              have c26b1 : decide (500 < ((rd_T56 l0_2 x6_3).f2).size) = true := decide_eq_true (by omega)
              clear c26
              obtain rfl := Option.some.inj H
              have hcz27_0 : wr.cell? ⟨gb347, 0, none⟩ = some (.int .i64 a0_0) := (blk_cell BK347.out 0).trans rfl
              have hcz27_1 : wr.cell? ⟨gb347, 1, none⟩ = some (.slice A0_1 l0_1.length c0_1) := (blk_cell BK347.out 1).trans rfl
              have hcz27_2 : wr.cell? ⟨gb347, 2, none⟩ = some (.slice A0_2 l0_2.length c0_2) := (blk_cell BK347.out 2).trans rfl
              have hfz27_0 := blk_frozen BK347.out 0
              have hfz27_1 := blk_frozen BK347.out 1
              have hfz27_2 := blk_frozen BK347.out 2
              have p353 : 0 ≤ (x6_3 : Int) := of_decide_eq_true (by first | (with_reducible assumption) | assumption)
              have q353 : x6_3 < (l0_2.length : Int) := of_decide_eq_true (by first | (with_reducible assumption) | assumption)
              obtain ⟨ad353, A353_3, c353_3, A353_5, c353_5, e353, hx353_0, hx353_1, hx353_2, hx353_3, hx353_4, hx353_5, hl353_3, hi353_3, hl353_5, hi353_5⟩ := at_T56 HR0_2.out x6_3 p353 q353
              cases e353
              replace hx353_0 := (HB.out.cell (World.block_lt_of_cell? w _ hx353_0)).trans hx353_0
              replace hx353_1 := (HB.out.cell (World.block_lt_of_cell? w _ hx353_1)).trans hx353_1
              replace hx353_2 := (HB.out.cell (World.block_lt_of_cell? w _ hx353_2)).trans hx353_2
              replace hx353_3 := (HB.out.cell (World.block_lt_of_cell? w _ hx353_3)).trans hx353_3
              replace hx353_4 := (HB.out.cell (World.block_lt_of_cell? w _ hx353_4)).trans hx353_4
              replace hx353_5 := (HB.out.cell (World.block_lt_of_cell? w _ hx353_5)).trans hx353_5
              have HR353_3 := Aside0.mk hi353_3
              have HC353_3 := Aside0.mk hl353_3
              clear hi353_3 hl353_3
              have HR353_5 := Aside0.mk hi353_5
              have HC353_5 := Aside0.mk hl353_5
              clear hi353_5 hl353_5
              replace p353 := eq_true p353
              replace q353 := eq_true q353
              go_wp2_with (first | ((with_reducible refine gate_callee (f := 58) rfl ?_); refine goesL_ (some 68) rfl rfl Tryz.func58 (by kernel_rfl) rfl #[.slice A353_5 ((rd_T56 l0_2 x6_3).f5).length c353_5] rfl (by (try simp only [List.map_toArray, List.map_cons, List.map_nil]); first | done | rfl | (simp only [List.length_drop, List.length_take]; rfl)) ?_; (with_reducible refine (spinetref05_fewActs.calls k3 _ _ ((rd_T56 l0_2 x6_3).f5) true _ ?side1 ?side2 A22.out).mono ?_); (case side1 => repeat (first | exact (Kd.C_below HR353_5.out HB.out) | (with_reducible refine Kd.C_alloc ?_ _) | (with_reducible refine Kd.C_drewN ?_ _) | (with_reducible refine Kd.C_drew ?_))); (case side2 => exact HC353_5.out); rintro e w' ⟨rfl, ⟨nd, rfl⟩⟩; refine ⟨_, rfl, ?_⟩; have p355 : 0 ≤ (x6_3 : Int) := of_decide_eq_true (by first | (with_reducible assumption) | assumption); have q355 : x6_3 < (l0_2.length : Int) := of_decide_eq_true (by first | (with_reducible assumption) | assumption); obtain ⟨ad355, A355_3, c355_3, A355_5, c355_5, e355, hx355_0, hx355_1, hx355_2, hx355_3, hx355_4, hx355_5, hl355_3, hi355_3, hl355_5, hi355_5⟩ := at_T56 HR0_2.out x6_3 p355 q355; obtain rfl : ad353 = ad355 := (by injection e355); replace hx355_0 := (HB.out.cell (World.block_lt_of_cell? w _ hx355_0)).trans hx355_0; replace hx355_1 := (HB.out.cell (World.block_lt_of_cell? w _ hx355_1)).trans hx355_1; replace hx355_2 := (HB.out.cell (World.block_lt_of_cell? w _ hx355_2)).trans hx355_2; replace hx355_3 := (HB.out.cell (World.block_lt_of_cell? w _ hx355_3)).trans hx355_3; replace hx355_4 := (HB.out.cell (World.block_lt_of_cell? w _ hx355_4)).trans hx355_4; replace hx355_5 := (HB.out.cell (World.block_lt_of_cell? w _ hx355_5)).trans hx355_5; have HR355_3 := Aside0.mk hi355_3; have HC355_3 := Aside0.mk hl355_3; clear hi355_3 hl355_3; have HR355_5 := Aside0.mk hi355_5; have HC355_5 := Aside0.mk hl355_5; clear hi355_5 hl355_5; replace p355 := eq_true p355; replace q355 := eq_true q355; have ea_ := Option.some.inj (hx353_3.symm.trans hx355_3); injection ea_ with ea_ en_ ec_; subst ea_; subst ec_; clear en_; have ea_ := Option.some.inj (hx353_5.symm.trans hx355_5); injection ea_ with ea_ en_ ec_; subst ea_; subst ec_; clear en_; have p356 : 0 ≤ (x6_3 : Int) := of_decide_eq_true (by first | (with_reducible assumption) | assumption); have q356 : x6_3 < (l0_2.length : Int) := of_decide_eq_true (by first | (with_reducible assumption) | assumption); obtain ⟨ad356, A356_3, c356_3, A356_5, c356_5, e356, hx356_0, hx356_1, hx356_2, hx356_3, hx356_4, hx356_5, hl356_3, hi356_3, hl356_5, hi356_5⟩ := at_T56 HR0_2.out x6_3 p356 q356; obtain rfl : ad353 = ad356 := (by injection e356); replace hx356_0 := (HB.out.cell (World.block_lt_of_cell? w _ hx356_0)).trans hx356_0; replace hx356_1 := (HB.out.cell (World.block_lt_of_cell? w _ hx356_1)).trans hx356_1; replace hx356_2 := (HB.out.cell (World.block_lt_of_cell? w _ hx356_2)).trans hx356_2; replace hx356_3 := (HB.out.cell (World.block_lt_of_cell? w _ hx356_3)).trans hx356_3; replace hx356_4 := (HB.out.cell (World.block_lt_of_cell? w _ hx356_4)).trans hx356_4; replace hx356_5 := (HB.out.cell (World.block_lt_of_cell? w _ hx356_5)).trans hx356_5; have HR356_3 := Aside0.mk hi356_3; have HC356_3 := Aside0.mk hl356_3; clear hi356_3 hl356_3; have HR356_5 := Aside0.mk hi356_5; have HC356_5 := Aside0.mk hl356_5; clear hi356_5 hl356_5; replace p356 := eq_true p356; replace q356 := eq_true q356; have ea_ := Option.some.inj (hx353_3.symm.trans hx356_3); injection ea_ with ea_ en_ ec_; subst ea_; subst ec_; clear en_; have ea_ := Option.some.inj (hx353_5.symm.trans hx356_5); injection ea_ with ea_ en_ ec_; subst ea_; subst ec_; clear en_))
              go_ret
              exact ⟨by first | rfl | (simp [errW_none, errW_some] <;> rfl) | (simp [*, errW_none, errW_some] <;> rfl), by repeat (first | (with_reducible first | exact HB.out | apply below_alloc | apply pw_below_drewN | apply below_drew1 | refine below_set ?_ GE347.out) | exact HB.out)⟩
             ·rw [if_neg c26] at H
              have c26b0 : decide (500 < (((rd_T56 l0_2 x6_3).f2).size : Int)) = false := decide_eq_false c26
              have c26b1 : decide (500 < ((rd_T56 l0_2 x6_3).f2).size) = false := decide_eq_false (by omega)
              clear c26
              have H' := Aside0.mk H
              clear H
              have hcz28_0 : wr.cell? ⟨gb347, 0, none⟩ = some (.int .i64 a0_0) := (blk_cell BK347.out 0).trans rfl
              have hcz28_1 : wr.cell? ⟨gb347, 1, none⟩ = some (.slice A0_1 l0_1.length c0_1) := (blk_cell BK347.out 1).trans rfl
              have hcz28_2 : wr.cell? ⟨gb347, 2, none⟩ = some (.slice A0_2 l0_2.length c0_2) := (blk_cell BK347.out 2).trans rfl
              have hfz28_0 := blk_frozen BK347.out 0
              have hfz28_1 := blk_frozen BK347.out 1
              have hfz28_2 := blk_frozen BK347.out 2
              have p353 : 0 ≤ (x6_3 : Int) := of_decide_eq_true (by first | (with_reducible assumption) | assumption)
              have q353 : x6_3 < (l0_2.length : Int) := of_decide_eq_true (by first | (with_reducible assumption) | assumption)
              obtain ⟨ad353, A353_3, c353_3, A353_5, c353_5, e353, hx353_0, hx353_1, hx353_2, hx353_3, hx353_4, hx353_5, hl353_3, hi353_3, hl353_5, hi353_5⟩ := at_T56 HR0_2.out x6_3 p353 q353
              cases e353
              replace hx353_0 := (HB.out.cell (World.block_lt_of_cell? w _ hx353_0)).trans hx353_0
              replace hx353_1 := (HB.out.cell (World.block_lt_of_cell? w _ hx353_1)).trans hx353_1
              replace hx353_2 := (HB.out.cell (World.block_lt_of_cell? w _ hx353_2)).trans hx353_2
              replace hx353_3 := (HB.out.cell (World.block_lt_of_cell? w _ hx353_3)).trans hx353_3
              replace hx353_4 := (HB.out.cell (World.block_lt_of_cell? w _ hx353_4)).trans hx353_4
              replace hx353_5 := (HB.out.cell (World.block_lt_of_cell? w _ hx353_5)).trans hx353_5
              have HR353_3 := Aside0.mk hi353_3
              have HC353_3 := Aside0.mk hl353_3
              clear hi353_3 hl353_3
              have HR353_5 := Aside0.mk hi353_5
              have HC353_5 := Aside0.mk hl353_5
              clear hi353_5 hl353_5
              replace p353 := eq_true p353
              replace q353 := eq_true q353
              go_wp2_with (first | ((with_reducible refine gate_callee (f := 58) rfl ?_); refine goesL_ (some 68) rfl rfl Tryz.func58 (by kernel_rfl) rfl #[.slice A353_5 ((rd_T56 l0_2 x6_3).f5).length c353_5] rfl (by (try simp only [List.map_toArray, List.map_cons, List.map_nil]); first | done | rfl | (simp only [List.length_drop, List.length_take]; rfl)) ?_; (with_reducible refine (spinetref05_fewActs.calls k3 _ _ ((rd_T56 l0_2 x6_3).f5) true _ ?side1 ?side2 A22.out).mono ?_); (case side1 => repeat (first | exact (Kd.C_below HR353_5.out HB.out) | (with_reducible refine Kd.C_alloc ?_ _) | (with_reducible refine Kd.C_drewN ?_ _) | (with_reducible refine Kd.C_drew ?_))); (case side2 => exact HC353_5.out); rintro e w' ⟨rfl, ⟨nd, rfl⟩⟩; refine ⟨_, rfl, ?_⟩; have p355 : 0 ≤ (x6_3 : Int) := of_decide_eq_true (by first | (with_reducible assumption) | assumption); have q355 : x6_3 < (l0_2.length : Int) := of_decide_eq_true (by first | (with_reducible assumption) | assumption); obtain ⟨ad355, A355_3, c355_3, A355_5, c355_5, e355, hx355_0, hx355_1, hx355_2, hx355_3, hx355_4, hx355_5, hl355_3, hi355_3, hl355_5, hi355_5⟩ := at_T56 HR0_2.out x6_3 p355 q355; obtain rfl : ad353 = ad355 := (by injection e355); replace hx355_0 := (HB.out.cell (World.block_lt_of_cell? w _ hx355_0)).trans hx355_0; replace hx355_1 := (HB.out.cell (World.block_lt_of_cell? w _ hx355_1)).trans hx355_1; replace hx355_2 := (HB.out.cell (World.block_lt_of_cell? w _ hx355_2)).trans hx355_2; replace hx355_3 := (HB.out.cell (World.block_lt_of_cell? w _ hx355_3)).trans hx355_3; replace hx355_4 := (HB.out.cell (World.block_lt_of_cell? w _ hx355_4)).trans hx355_4; replace hx355_5 := (HB.out.cell (World.block_lt_of_cell? w _ hx355_5)).trans hx355_5; have HR355_3 := Aside0.mk hi355_3; have HC355_3 := Aside0.mk hl355_3; clear hi355_3 hl355_3; have HR355_5 := Aside0.mk hi355_5; have HC355_5 := Aside0.mk hl355_5; clear hi355_5 hl355_5; replace p355 := eq_true p355; replace q355 := eq_true q355; have ea_ := Option.some.inj (hx353_3.symm.trans hx355_3); injection ea_ with ea_ en_ ec_; subst ea_; subst ec_; clear en_; have ea_ := Option.some.inj (hx353_5.symm.trans hx355_5); injection ea_ with ea_ en_ ec_; subst ea_; subst ec_; clear en_; have p356 : 0 ≤ (x6_3 : Int) := of_decide_eq_true (by first | (with_reducible assumption) | assumption); have q356 : x6_3 < (l0_2.length : Int) := of_decide_eq_true (by first | (with_reducible assumption) | assumption); obtain ⟨ad356, A356_3, c356_3, A356_5, c356_5, e356, hx356_0, hx356_1, hx356_2, hx356_3, hx356_4, hx356_5, hl356_3, hi356_3, hl356_5, hi356_5⟩ := at_T56 HR0_2.out x6_3 p356 q356; obtain rfl : ad353 = ad356 := (by injection e356); replace hx356_0 := (HB.out.cell (World.block_lt_of_cell? w _ hx356_0)).trans hx356_0; replace hx356_1 := (HB.out.cell (World.block_lt_of_cell? w _ hx356_1)).trans hx356_1; replace hx356_2 := (HB.out.cell (World.block_lt_of_cell? w _ hx356_2)).trans hx356_2; replace hx356_3 := (HB.out.cell (World.block_lt_of_cell? w _ hx356_3)).trans hx356_3; replace hx356_4 := (HB.out.cell (World.block_lt_of_cell? w _ hx356_4)).trans hx356_4; replace hx356_5 := (HB.out.cell (World.block_lt_of_cell? w _ hx356_5)).trans hx356_5; have HR356_3 := Aside0.mk hi356_3; have HC356_3 := Aside0.mk hl356_3; clear hi356_3 hl356_3; have HR356_5 := Aside0.mk hi356_5; have HC356_5 := Aside0.mk hl356_5; clear hi356_5 hl356_5; replace p356 := eq_true p356; replace q356 := eq_true q356; have ea_ := Option.some.inj (hx353_3.symm.trans hx356_3); injection ea_ with ea_ en_ ec_; subst ea_; subst ec_; clear en_; have ea_ := Option.some.inj (hx353_5.symm.trans hx356_5); injection ea_ with ea_ en_ ec_; subst ea_; subst ec_; clear en_))
              go_roundg k3
              case measure => have := HJ1.out; have := HK2.out; have := HK3.out; omega
              case rel => exact ⟨(wrap64 (x6_3 + 1)), (by first | rfl | (simp; done) | (simp [*]; done)), H', ⟨by have := HJ1.out; have := HK2.out; have := HK3.out; omega⟩, ⟨by (with_reducible repeat (first | refine blk_drewN ?_ _ | refine blk_drew ?_ | refine blk_alloc ?_ _)); exact BK347.out⟩, ⟨by repeat (first | (with_reducible first | exact HB.out | apply below_alloc | apply pw_below_drewN | apply below_drew1 | refine below_set ?_ GE347.out) | exact HB.out)⟩⟩
           ·replace c23 := Bool.eq_false_iff.mpr c23
            subst c23
            have H1 : (some false) = some r := by rw [if_neg (show ¬ (false = true) by decide)] at H; exact H
            clear H
            have H := H1
            clear H1
            obtain rfl := Option.some.inj H
            have hcz29_0 : wr.cell? ⟨gb347, 0, none⟩ = some (.int .i64 a0_0) := (blk_cell BK347.out 0).trans rfl
            have hcz29_1 : wr.cell? ⟨gb347, 1, none⟩ = some (.slice A0_1 l0_1.length c0_1) := (blk_cell BK347.out 1).trans rfl
            have hcz29_2 : wr.cell? ⟨gb347, 2, none⟩ = some (.slice A0_2 l0_2.length c0_2) := (blk_cell BK347.out 2).trans rfl
            have hfz29_0 := blk_frozen BK347.out 0
            have hfz29_1 := blk_frozen BK347.out 1
            have hfz29_2 := blk_frozen BK347.out 2
            have p353 : 0 ≤ (x6_3 : Int) := of_decide_eq_true (by first | (with_reducible assumption) | assumption)
            have q353 : x6_3 < (l0_2.length : Int) := of_decide_eq_true (by first | (with_reducible assumption) | assumption)
            obtain ⟨ad353, A353_3, c353_3, A353_5, c353_5, e353, hx353_0, hx353_1, hx353_2, hx353_3, hx353_4, hx353_5, hl353_3, hi353_3, hl353_5, hi353_5⟩ := at_T56 HR0_2.out x6_3 p353 q353
            cases e353
            replace hx353_0 := (HB.out.cell (World.block_lt_of_cell? w _ hx353_0)).trans hx353_0
            replace hx353_1 := (HB.out.cell (World.block_lt_of_cell? w _ hx353_1)).trans hx353_1
            replace hx353_2 := (HB.out.cell (World.block_lt_of_cell? w _ hx353_2)).trans hx353_2
            replace hx353_3 := (HB.out.cell (World.block_lt_of_cell? w _ hx353_3)).trans hx353_3
            replace hx353_4 := (HB.out.cell (World.block_lt_of_cell? w _ hx353_4)).trans hx353_4
            replace hx353_5 := (HB.out.cell (World.block_lt_of_cell? w _ hx353_5)).trans hx353_5
            have HR353_3 := Aside0.mk hi353_3
            have HC353_3 := Aside0.mk hl353_3
            clear hi353_3 hl353_3
            have HR353_5 := Aside0.mk hi353_5
            have HC353_5 := Aside0.mk hl353_5
            clear hi353_5 hl353_5
            replace p353 := eq_true p353
            replace q353 := eq_true q353
            go_wp2_with (first | ((with_reducible refine gate_callee (f := 58) rfl ?_); refine goesL_ (some 68) rfl rfl Tryz.func58 (by kernel_rfl) rfl #[.slice A353_5 ((rd_T56 l0_2 x6_3).f5).length c353_5] rfl (by (try simp only [List.map_toArray, List.map_cons, List.map_nil]); first | done | rfl | (simp only [List.length_drop, List.length_take]; rfl)) ?_; (with_reducible refine (spinetref05_fewActs.calls k3 _ _ ((rd_T56 l0_2 x6_3).f5) false _ ?side1 ?side2 A22.out).mono ?_); (case side1 => repeat (first | exact (Kd.C_below HR353_5.out HB.out) | (with_reducible refine Kd.C_alloc ?_ _) | (with_reducible refine Kd.C_drewN ?_ _) | (with_reducible refine Kd.C_drew ?_))); (case side2 => exact HC353_5.out); rintro e w' ⟨rfl, ⟨nd, rfl⟩⟩; refine ⟨_, rfl, ?_⟩))
            go_ret
            exact ⟨by first | rfl | (simp [errW_none, errW_some] <;> rfl) | (simp [*, errW_none, errW_some] <;> rfl), by repeat (first | (with_reducible first | exact HB.out | apply below_alloc | apply pw_below_drewN | apply below_drew1 | refine below_set ?_ GE347.out) | exact HB.out)⟩
          ·rw [if_neg c21] at H
           exact absurd H (by simp)
         ·rw [if_neg c20] at H
          have c20b0 : decide (x6_3 < (l0_2.length : Int)) = false := decide_eq_false c20
          clear c20
          obtain rfl := Option.some.inj H
          have hcz30_0 : wr.cell? ⟨gb347, 0, none⟩ = some (.int .i64 a0_0) := (blk_cell BK347.out 0).trans rfl
          have hcz30_1 : wr.cell? ⟨gb347, 1, none⟩ = some (.slice A0_1 l0_1.length c0_1) := (blk_cell BK347.out 1).trans rfl
          have hcz30_2 : wr.cell? ⟨gb347, 2, none⟩ = some (.slice A0_2 l0_2.length c0_2) := (blk_cell BK347.out 2).trans rfl
          have hfz30_0 := blk_frozen BK347.out 0
          have hfz30_1 := blk_frozen BK347.out 1
          have hfz30_2 := blk_frozen BK347.out 2
          go_wp2
          go_ret
          exact ⟨by first | rfl | (simp [errW_none, errW_some] <;> rfl) | (simp [*, errW_none, errW_some] <;> rfl), by repeat (first | (with_reducible first | exact HB.out | apply below_alloc | apply pw_below_drewN | apply below_drew1 | refine below_set ?_ GE347.out) | exact HB.out)⟩
end Go.Proofs.YtemoonhnncopoaaGreatDoor.PAll
end
