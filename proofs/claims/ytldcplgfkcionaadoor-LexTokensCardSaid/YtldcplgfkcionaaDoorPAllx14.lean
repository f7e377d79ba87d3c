-- PRINTED by print.py (a twelfth state) out of the translation. Not trusted: Lean checks it.
import Derived.Test.YtldcplgfkcionaaDoorPAllx0
import Derived.Test.YtldcplgfkcionaaDoorPAllx1
namespace Go.Proofs.YtldcplgfkcionaaDoor.PAll
open Go.RowKit Go.Proofs.YtldcplgfkcionaaDoorW.PrintWords Go.Proofs.YtldcplgfkcionaaDoorW.PrintLast Go.Proofs.YtldcplgfkcionaaDoorW.PrintMore
attribute [local go_sem] max2_int min2_int max_two min_two max_three min_three max_four min_four   -- for this text's walks alone
set_option linter.unusedVariables false
set_option linter.unusedSimpArgs false

attribute [local go_sem high] eqA40
/-! ### spinetref02_Same: function 17 -/
def spinetref02_Same.l0 : Nat → List (S40) → List (S40) → Int → Option (Bool)
  | 0, _, _, _ => none
  | k + 1, x0, x1, x5 => if x5 < (x0.length : Int) then (if 0 ≤ x5 then (if x5 < (x1.length : Int) then (if (!(((rd_T40 x0 x5).f0) == ((rd_T40 x1 x5).f0)) || (!(((rd_T40 x0 x5).f1) == ((rd_T40 x1 x5).f1)) || (!(((rd_T40 x0 x5).f2) == ((rd_T40 x1 x5).f2))))) = true then (some false) else (spinetref02_Same.l0 k x0 x1 (wrap64 (x5 + 1)))) else (none)) else (none)) else (some true)
def spinetref02_Same.f (k : Nat) (l0 : List (S40)) (l1 : List (S40)) : Option (Bool) := if (l0.length : Int) = (l1.length : Int) then (spinetref02_Same.l0 k l0 l1 0) else (some false)
theorem spinetref02_Same.mono_l : ∀ k, (∀ y0 y1 y2, LeO (spinetref02_Same.l0 k y0 y1 y2) (spinetref02_Same.l0 (k + 1) y0 y1 y2))
  | 0 => fun _ _ _ r h => by simp [spinetref02_Same.l0] at h
  | k + 1 => by
    have ih0 := spinetref02_Same.mono_l k
    · intro y0 y1 y2
      unfold spinetref02_Same.l0
      repeat' first
      | (with_reducible exact ih0 _ _ _)
      | (with_reducible exact LeO.refl _)
      | (with_reducible exact LeO.none _)
      | (with_reducible refine LeO.ite ?_ ?_)
      | (with_reducible refine LeO.bind ?_ (fun _ => ?_))
      | exact ih0 _ _ _
      | exact LeO.none _
      | refine LeO.ite ?_ ?_
      | refine LeO.bind ?_ (fun _ => ?_)
theorem spinetref02_Same.mono : ∀ a0 a1 k, LeO (spinetref02_Same.f k a0 a1) (spinetref02_Same.f (k + 1) a0 a1) := by
  intro a0 a1 k
  have ih0 := spinetref02_Same.mono_l k
  unfold spinetref02_Same.f
  repeat' first
      | (with_reducible exact ih0 _ _ _)
      | (with_reducible exact LeO.refl _)
      | (with_reducible exact LeO.none _)
      | (with_reducible refine LeO.ite ?_ ?_)
      | (with_reducible refine LeO.bind ?_ (fun _ => ?_))
      | exact ih0 _ _ _
      | exact LeO.none _
      | refine LeO.ite ?_ ?_
      | refine LeO.bind ?_ (fun _ => ?_)
set_option maxHeartbeats 8000000 in
set_option maxRecDepth 100000 in
theorem spinetref02_Same.calls (k : Nat) (A0 : Option Addr) (c0 : Nat) (l0 : List (S40)) (A1 : Option Addr) (c1 : Nat) (l1 : List (S40)) (r : Bool) (w : World) (hr0 : Kd.C k40 w A0 l0.length l0) (hc0 : l0.length ≤ c0) (hr1 : Kd.C k40 w A1 l1.length l1) (hc1 : l1.length ≤ c1) (h : spinetref02_Same.f k l0 l1 = some r) :
    Calls Tryd.prog 17 #[.slice A0 l0.length c0, .slice A1 l1.length c1] w fun e w' => e = .returned (.bool r) ∧ Drawn0 w w' := by
  have hu40 := Tryd.underlying40
  have HR0 := Aside0.mk hr0
  have HC0 := Aside0.mk hc0
  clear hr0 hc0
  have HR1 := Aside0.mk hr1
  have HC1 := Aside0.mk hc1
  clear hr1 hc1
  have H : (if (l0.length : Int) = (l1.length : Int) then (spinetref02_Same.l0 k l0 l1 0) else (some false)) = some r := h
  clear h
  by_cases c3 : (l0.length : Int) = (l1.length : Int)
  · rw [if_pos c3] at H
    have c3b0 : ((l0.length : Int) == (l1.length : Int)) = true := beq_iff_eq.mpr c3
    have c3b1 : ((l0.length : Int) != (l1.length : Int)) = false := bne_eq_false_iff_eq.mpr c3
    have c3b2 : (l0.length == l1.length) = true := by first | simpa using c3 | (simp at c3 ⊢; omega)
    clear c3
    have H' := Aside0.mk H
    clear H
    go_enter Tryd.func17, Tryd.ntmps17
    go_wp2
    repeat (go_quiet (fail); try go_wp2)
    go_loopg [5] k (fun kq v5 w' => ∃ (x5_1 : Int), v5 = .int .i64 x5_1 ∧ Aside0 (spinetref02_Same.l0 kq l0 l1 x5_1 = some r) ∧ Aside0 (kq ≤ k) ∧ Drawn0 w w')
    case atStart => exact ⟨(0), (by first | rfl | (simp; done) | (simp [*]; done)), H', ⟨Nat.le_refl _⟩, by repeat (first | exact Drawn0.refl _ | apply Drawn0.step)⟩
    case round =>
      clear H'
      try clear c1
      try clear p2
      try clear c3
      try clear c3b0
      try clear c3b1
      try clear c3b2
      obtain ⟨x5_1, rfl, HA, HK1, ⟨m1, rfl⟩⟩ := hrel
      cases gk with
      | zero => exact absurd HA.out (by simp [spinetref02_Same.l0])
      | succ k1 =>
        have H := HA.out
        clear HA
        simp only [spinetref02_Same.l0] at H
        by_cases c4 : x5_1 < (l0.length : Int)
        · rw [if_pos c4] at H
          have c4b0 : decide (x5_1 < (l0.length : Int)) = true := decide_eq_true c4
          clear c4
          by_cases c5 : 0 ≤ x5_1
          · rw [if_pos c5] at H
            have c5b0 : decide (0 ≤ x5_1) = true := decide_eq_true c5
            clear c5
            by_cases c6 : x5_1 < (l1.length : Int)
            · rw [if_pos c6] at H
              have c6b0 : decide (x5_1 < (l1.length : Int)) = true := decide_eq_true c6
              clear c6
              by_cases c7 : (!(((rd_T40 l0 x5_1).f0) == ((rd_T40 l1 x5_1).f0)) || (!(((rd_T40 l0 x5_1).f1) == ((rd_T40 l1 x5_1).f1)) || (!(((rd_T40 l0 x5_1).f2) == ((rd_T40 l1 x5_1).f2))))) = true
              · rw [if_pos c7] at H
                have c7b0 : (!(((rd_T40 l0 x5_1).f0) == ((rd_T40 l1 x5_1).f0)) || (!(((rd_T40 l0 x5_1).f1) == ((rd_T40 l1 x5_1).f1)) || (!(((rd_T40 l0 x5_1).f2) == ((rd_T40 l1 x5_1).f2))))) = true := c7
                clear c7
                obtain rfl := Option.some.inj H
                have p316 : 0 ≤ (x5_1 : Int) := of_decide_eq_true (by first | (with_reducible assumption) | assumption)
                have q316 : x5_1 < (l0.length : Int) := of_decide_eq_true (by first | (with_reducible assumption) | assumption)
                obtain ⟨ad316, e316, hx316_0, hx316_1, hx316_2⟩ := at_T40 HR0.out x5_1 p316 q316
                cases e316
                replace p316 := eq_true p316
                replace q316 := eq_true q316
                have p317 : 0 ≤ (x5_1 : Int) := of_decide_eq_true (by first | (with_reducible assumption) | assumption)
                have q317 : x5_1 < (l1.length : Int) := of_decide_eq_true (by first | (with_reducible assumption) | assumption)
                obtain ⟨ad317, e317, hx317_0, hx317_1, hx317_2⟩ := at_T40 HR1.out x5_1 p317 q317
                cases e317
                replace p317 := eq_true p317
                replace q317 := eq_true q317
                go_wp2
                repeat (go_quiet (fail); try go_wp2)
                go_ret
                exact ⟨by first | rfl | (simp; done) | (simp [*]; done), by repeat (first | exact Drawn0.refl _ | apply Drawn0.step)⟩
              · rw [if_neg c7] at H
                have c7b0 : (!(((rd_T40 l0 x5_1).f0) == ((rd_T40 l1 x5_1).f0)) || (!(((rd_T40 l0 x5_1).f1) == ((rd_T40 l1 x5_1).f1)) || (!(((rd_T40 l0 x5_1).f2) == ((rd_T40 l1 x5_1).f2))))) = false := by simpa using c7
                clear c7
                have H' := Aside0.mk H
                clear H
                have p316 : 0 ≤ (x5_1 : Int) := of_decide_eq_true (by first | (with_reducible assumption) | assumption)
                have q316 : x5_1 < (l0.length : Int) := of_decide_eq_true (by first | (with_reducible assumption) | assumption)
                obtain ⟨ad316, e316, hx316_0, hx316_1, hx316_2⟩ := at_T40 HR0.out x5_1 p316 q316
                cases e316
                replace p316 := eq_true p316
                replace q316 := eq_true q316
                have p317 : 0 ≤ (x5_1 : Int) := of_decide_eq_true (by first | (with_reducible assumption) | assumption)
                have q317 : x5_1 < (l1.length : Int) := of_decide_eq_true (by first | (with_reducible assumption) | assumption)
                obtain ⟨ad317, e317, hx317_0, hx317_1, hx317_2⟩ := at_T40 HR1.out x5_1 p317 q317
                cases e317
                replace p317 := eq_true p317
                replace q317 := eq_true q317
                go_wp2
                repeat (go_quiet (fail); try go_wp2)
                go_roundg k1
                case measure => have := HK1.out; omega
                case rel => exact ⟨(wrap64 (x5_1 + 1)), (by first | rfl | (simp; done) | (simp [*]; done)), H', ⟨by have := HK1.out; omega⟩, by repeat (first | exact Drawn0.refl _ | apply Drawn0.step)⟩
            · rw [if_neg c6] at H
              exact absurd H (by simp)
          · rw [if_neg c5] at H
            exact absurd H (by simp)
        · rw [if_neg c4] at H
          have c4b0 : decide (x5_1 < (l0.length : Int)) = false := decide_eq_false c4
          clear c4
          obtain rfl := Option.some.inj H
          go_wp2
          repeat (go_quiet (fail); try go_wp2)
          go_ret
          exact ⟨by first | rfl | (simp; done) | (simp [*]; done), by repeat (first | exact Drawn0.refl _ | apply Drawn0.step)⟩
  · rw [if_neg c3] at H
    have c3b0 : ((l0.length : Int) == (l1.length : Int)) = false := beq_eq_false_iff_ne.mpr c3
    have c3b1 : ((l0.length : Int) != (l1.length : Int)) = true := bne_iff_ne.mpr c3
    have c3b2 : (l0.length == l1.length) = false := by first | simpa using c3 | (simp at c3 ⊢; omega)
    obtain rfl := Option.some.inj H
    go_enter Tryd.func17, Tryd.ntmps17
    go_wp2
    repeat (go_quiet (fail); try go_wp2)
    go_ret
    exact ⟨by first | rfl | (simp; done) | (simp [*]; done), by repeat (first | exact Drawn0.refl _ | apply Drawn0.step)⟩

-- NOT PRINTED: function 3 (spinetlaw02_LexTokens)

/-! ### spinetref02_Digits: function 48 -/
def spinetref02_Digits.f : Nat → Int → Option (ByteArray)
  | 0, _ => none
  | k + 1, a0 => (some (([(wrap64 (48 + (Int.tmod a0 10))) % 256] : List Int) : List Int)).bind fun y318 => (if a0 < 10 then (some (strOfNums y318)) else ((spinetref02_Digits.f k (wrap64 (Int.tdiv a0 10))).bind fun t321 => (if t321.size + (strOfNums y318).size ≤ 9223372036854775807 then (some (t321 ++ (strOfNums y318))) else (none))))
theorem spinetref02_Digits.mono_l : ∀ k, (∀ y0, LeO (spinetref02_Digits.f k y0) (spinetref02_Digits.f (k + 1) y0))
  | 0 => fun _ r h => by simp [spinetref02_Digits.f] at h
  | k + 1 => by
    have ih0 := spinetref02_Digits.mono_l k
    · intro y0
      unfold spinetref02_Digits.f
      repeat' first
      | (with_reducible exact ih0 _)
      | (with_reducible exact LeO.refl _)
      | (with_reducible exact LeO.none _)
      | (with_reducible refine LeO.ite ?_ ?_)
      | (with_reducible refine LeO.bind ?_ (fun _ => ?_))
      | exact ih0 _
      | exact LeO.none _
      | refine LeO.ite ?_ ?_
      | refine LeO.bind ?_ (fun _ => ?_)
theorem spinetref02_Digits.mono : ∀ a0 k, LeO (spinetref02_Digits.f k a0) (spinetref02_Digits.f (k + 1) a0) := by
  intro a0 k
  have ih0 := spinetref02_Digits.mono_l k
  exact ih0 a0
set_option maxHeartbeats 8000000 in
set_option maxRecDepth 100000 in
theorem spinetref02_Digits.calls (k : Nat) : ∀ (a0 : Int) (r : ByteArray) (w : World) (h : spinetref02_Digits.f k a0 = some r),
    Calls Tryd.prog 48 #[.int .i64 a0] w fun e w' => e = .returned (.string r) ∧ Below w.heap.size w w' := by
  induction k using Nat.strongRecOn with
  | _ k ih =>
  intro a0 r w h
  cases k with
  | zero => exact absurd h (by simp [spinetref02_Digits.f])
  | succ k =>
  simp only [spinetref02_Digits.f] at h
  have HB := Aside0.mk (Below.refl w.heap.size w)
  have H : ((some (([(wrap64 (48 + (Int.tmod a0 10))) % 256] : List Int) : List Int)).bind fun y318 => (if a0 < 10 then (some (strOfNums y318)) else ((spinetref02_Digits.f k (wrap64 (Int.tdiv a0 10))).bind fun t321 => (if t321.size + (strOfNums y318).size ≤ 9223372036854775807 then (some (t321 ++ (strOfNums y318))) else (none))))) = some r := h
  clear h
  obtain ⟨y318, hy318⟩ : ∃ y_ : List Int, y_ = (([(wrap64 (48 + (Int.tmod a0 10))) % 256] : List Int)) := ⟨_, rfl⟩
  replace H : (if a0 < 10 then (some (strOfNums y318)) else ((spinetref02_Digits.f k (wrap64 (Int.tdiv a0 10))).bind fun t321 => (if t321.size + (strOfNums y318).size ≤ 9223372036854775807 then (some (t321 ++ (strOfNums y318))) else (none)))) = some r := by first | (rw [hy318]; with_reducible exact H) | (have H2_ := (Option.bind_some _ _).symm.trans H; rw [hy318]; with_reducible exact H2_) | (have H2_ := (Option.bind_some _ _).symm.trans H; with_reducible exact H2_) | with_reducible exact H | (rw [hy318]; exact H) | exact H
  have Ny318 := Aside0.mk hy318
  clear hy318
  by_cases c2 : a0 < 10
  · rw [if_pos c2] at H
    have c2b0 : decide (a0 < 10) = true := decide_eq_true c2
    clear c2
    obtain rfl := Option.some.inj H
    go_enter Tryd.func48, Tryd.ntmps48
    go_wp2_with (first | ((with_reducible refine gate_dst (N := 8) rfl ?_); refine Kd.R_lit (Kd.int .u8) _ 5 ?hg (N := 8) ?hd (xs := ([(wrap64 (48 + (Int.tmod a0 10))) % 256] : List Int)) (inner := [.int .u8 ((wrap64 (48 + (Int.tmod a0 10))) % 256)]) (ok := fun _ => True) (okp := fun _ => True) ?hr ?hp (fun _ hk => hk) trivial (Below.refl _ _) (Nat.le_refl _) (by simp) ?_; (case hd => rfl); (case hg => rfl); (case hr => first | (go_simp; done) | (go_simp; rfl)); (case hp => exact (Reps.one (show Kd.M (Kd.int .u8) _ _ _ ((wrap64 (48 + (Int.tmod a0 10))) % 256) [.int .u8 ((wrap64 (48 + (Int.tmod a0 10))) % 256)] from rfl) (Reps.none _ _))); intro v319 w3 ho4 hb hg_ hnew_; clear hg_ hnew_; (first | rw [← Ny318.out] at ho4 | (simp only [Int.reduceToNat] at ho4; rw [← Ny318.out] at ho4)); have n0_ := Aside0.mk (Kd.R_lower ho4 (below_size (by repeat (first | (with_reducible first | exact HB.out | apply below_alloc | apply pw_below_drewN | apply below_drew1) | exact HB.out)))); have n1_ := Aside0.mk (below_step (by repeat (first | (with_reducible first | exact HB.out | apply below_alloc | apply pw_below_drewN | apply below_drew1) | exact HB.out)) hb); clear HB; have HO320 := n0_; have HB := n1_; clear n0_ n1_; clear hb ho4; have hcv5 := own_string (P := Tryd.prog) Tryd.underlying87 Tryd.underlying5 Tryd.underlying9 (Kd.own_of_R HO320.out)))
    go_ret
    exact ⟨by first | rfl | (simp [errW_none, errW_some] <;> rfl) | (simp [*, errW_none, errW_some] <;> rfl), by repeat (first | (with_reducible first | exact HB.out | apply below_alloc | apply pw_below_drewN | apply below_drew1) | exact HB.out)⟩
  · rw [if_neg c2] at H
    have c2b0 : decide (a0 < 10) = false := decide_eq_false c2
    clear c2
    replace H := Option.bind_eq_some_iff.mp H
    obtain ⟨t321, A60, H⟩ := H
    replace H : (if t321.size + (strOfNums y318).size ≤ 9223372036854775807 then (some (t321 ++ (strOfNums y318))) else (none)) = some r := H
    have A6 := Aside0.mk A60
    clear A60
    by_cases c7 : t321.size + (strOfNums y318).size ≤ 9223372036854775807
    · rw [if_pos c7] at H
      have c7b0 := eq_true c7
      have c7b1 : decide (t321.size + (strOfNums y318).size ≤ 9223372036854775807) = true := decide_eq_true c7
      try have c7b2 : (9223372036854775807 < t321.size + (strOfNums y318).size) = False := eq_false (Nat.not_lt.2 c7)
      obtain rfl := Option.some.inj H
      go_enter Tryd.func48, Tryd.ntmps48
      go_wp2_with (first | ((with_reducible refine gate_dst (N := 8) rfl ?_); refine Kd.R_lit (Kd.int .u8) _ 5 ?hg (N := 8) ?hd (xs := ([(wrap64 (48 + (Int.tmod a0 10))) % 256] : List Int)) (inner := [.int .u8 ((wrap64 (48 + (Int.tmod a0 10))) % 256)]) (ok := fun _ => True) (okp := fun _ => True) ?hr ?hp (fun _ hk => hk) trivial (Below.refl _ _) (Nat.le_refl _) (by simp) ?_; (case hd => rfl); (case hg => rfl); (case hr => first | (go_simp; done) | (go_simp; rfl)); (case hp => exact (Reps.one (show Kd.M (Kd.int .u8) _ _ _ ((wrap64 (48 + (Int.tmod a0 10))) % 256) [.int .u8 ((wrap64 (48 + (Int.tmod a0 10))) % 256)] from rfl) (Reps.none _ _))); intro v319 w8 ho9 hb hg_ hnew_; clear hg_ hnew_; (first | rw [← Ny318.out] at ho9 | (simp only [Int.reduceToNat] at ho9; rw [← Ny318.out] at ho9)); have n0_ := Aside0.mk (Kd.R_lower ho9 (below_size (by repeat (first | (with_reducible first | exact HB.out | apply below_alloc | apply pw_below_drewN | apply below_drew1) | exact HB.out)))); have n1_ := Aside0.mk (below_step (by repeat (first | (with_reducible first | exact HB.out | apply below_alloc | apply pw_below_drewN | apply below_drew1) | exact HB.out)) hb); clear HB; have HO320 := n0_; have HB := n1_; clear n0_ n1_; clear hb ho9; have hcv10 := own_string (P := Tryd.prog) Tryd.underlying87 Tryd.underlying5 Tryd.underlying9 (Kd.own_of_R HO320.out)) | ((with_reducible refine gate_callee (f := 48) rfl ?_); refine goesL_ (some 15) rfl rfl Tryd.func48 (by kernel_rfl) rfl #[.int .i64 (wrap64 (Int.tdiv a0 10))] rfl (by (try simp only [List.map_toArray, List.map_cons, List.map_nil]); first | done | rfl | (simp only [List.length_drop, List.length_take]; rfl)) ?_; (with_reducible refine (ih k (by omega) (wrap64 (Int.tdiv a0 10)) t321 _ A6.out).mono ?_); rintro e w11 ⟨rfl, hb⟩; refine ⟨_, rfl, ?_⟩; have n0_ := Aside0.mk (Kd.R_below (by (with_reducible repeat (first | apply Kd.R_alloc | apply Kd.R_drewN | apply Kd.R_drew)); exact HO320.out) hb); have n1_ := Aside0.mk (below_step (by repeat (first | (with_reducible first | exact HB.out | apply below_alloc | apply pw_below_drewN | apply below_drew1) | exact HB.out)) hb); clear HO320; clear HB; have HO320 := n0_; have HB := n1_; clear n0_ n1_; (try clear hb); (try clear hb2); (try clear hk); (try clear hi)))
      go_ret
      exact ⟨by first | rfl | (simp [errW_none, errW_some] <;> rfl) | (simp [*, errW_none, errW_some] <;> rfl), by repeat (first | (with_reducible first | exact HB.out | apply below_alloc | apply pw_below_drewN | apply below_drew1) | exact HB.out)⟩
    · rw [if_neg c7] at H
      exact absurd H (by simp)

/-! ### spinetref02_Sign: function 49 -/
def spinetref02_Sign.f (a0 : Int) : Option (ByteArray) := if a0 = 3 then (some (⟨#[43]⟩ : ByteArray)) else (if a0 = 4 then (some (⟨#[45]⟩ : ByteArray)) else (if a0 = 5 then (some (⟨#[42]⟩ : ByteArray)) else (if a0 = 6 then (some (⟨#[47]⟩ : ByteArray)) else (if a0 = 7 then (some (⟨#[37]⟩ : ByteArray)) else (if a0 = 8 then (some (⟨#[60]⟩ : ByteArray)) else (if a0 = 9 then (some (⟨#[60, 61]⟩ : ByteArray)) else (if a0 = 10 then (some (⟨#[61, 61]⟩ : ByteArray)) else (if a0 = 11 then (some (⟨#[33, 61]⟩ : ByteArray)) else (if a0 = 12 then (some (⟨#[97, 110, 100]⟩ : ByteArray)) else (if a0 = 13 then (some (⟨#[111, 114]⟩ : ByteArray)) else (if a0 = 14 then (some (⟨#[110, 111, 116]⟩ : ByteArray)) else (if a0 = 15 then (some (⟨#[116, 114, 117, 101]⟩ : ByteArray)) else (if a0 = 16 then (some (⟨#[102, 97, 108, 115, 101]⟩ : ByteArray)) else (if a0 = 17 then (some (⟨#[40]⟩ : ByteArray)) else (if a0 = 18 then (some (⟨#[41]⟩ : ByteArray)) else (some (⟨#[]⟩ : ByteArray)))))))))))))))))
set_option maxHeartbeats 8000000 in
set_option maxRecDepth 100000 in
theorem spinetref02_Sign.calls (a0 : Int) (r : ByteArray) (w : World) (h : spinetref02_Sign.f a0 = some r) :
    Calls Tryd.prog 49 #[.int .i64 a0] w fun e w' => e = .returned (.string r) ∧ Drawn0 w w' := by
  have H : (if a0 = 3 then (some (⟨#[43]⟩ : ByteArray)) else (if a0 = 4 then (some (⟨#[45]⟩ : ByteArray)) else (if a0 = 5 then (some (⟨#[42]⟩ : ByteArray)) else (if a0 = 6 then (some (⟨#[47]⟩ : ByteArray)) else (if a0 = 7 then (some (⟨#[37]⟩ : ByteArray)) else (if a0 = 8 then (some (⟨#[60]⟩ : ByteArray)) else (if a0 = 9 then (some (⟨#[60, 61]⟩ : ByteArray)) else (if a0 = 10 then (some (⟨#[61, 61]⟩ : ByteArray)) else (if a0 = 11 then (some (⟨#[33, 61]⟩ : ByteArray)) else (if a0 = 12 then (some (⟨#[97, 110, 100]⟩ : ByteArray)) else (if a0 = 13 then (some (⟨#[111, 114]⟩ : ByteArray)) else (if a0 = 14 then (some (⟨#[110, 111, 116]⟩ : ByteArray)) else (if a0 = 15 then (some (⟨#[116, 114, 117, 101]⟩ : ByteArray)) else (if a0 = 16 then (some (⟨#[102, 97, 108, 115, 101]⟩ : ByteArray)) else (if a0 = 17 then (some (⟨#[40]⟩ : ByteArray)) else (if a0 = 18 then (some (⟨#[41]⟩ : ByteArray)) else (some (⟨#[]⟩ : ByteArray)))))))))))))))))) = some r := h
  clear h
  by_cases c2 : a0 = 3
  · rw [if_pos c2] at H
    have c2b0 : (a0 == 3) = true := beq_iff_eq.mpr c2
    have c2b1 : (a0 != 3) = false := bne_eq_false_iff_eq.mpr c2
    clear c2
    obtain rfl := Option.some.inj H
    go_enter Tryd.func49, Tryd.ntmps49
    go_wp2
    go_ret
    exact ⟨by first | rfl | (simp; done) | (simp [*]; done), by repeat (first | exact Drawn0.refl _ | apply Drawn0.step)⟩
  · rw [if_neg c2] at H
    have c2b0 : (a0 == 3) = false := beq_eq_false_iff_ne.mpr c2
    have c2b1 : (a0 != 3) = true := bne_iff_ne.mpr c2
    by_cases c3 : a0 = 4
    · rw [if_pos c3] at H
      have c3b0 : (a0 == 4) = true := beq_iff_eq.mpr c3
      have c3b1 : (a0 != 4) = false := bne_eq_false_iff_eq.mpr c3
      clear c3
      obtain rfl := Option.some.inj H
      go_enter Tryd.func49, Tryd.ntmps49
      go_wp2
      go_ret
      exact ⟨by first | rfl | (simp; done) | (simp [*]; done), by repeat (first | exact Drawn0.refl _ | apply Drawn0.step)⟩
    · rw [if_neg c3] at H
      have c3b0 : (a0 == 4) = false := beq_eq_false_iff_ne.mpr c3
      have c3b1 : (a0 != 4) = true := bne_iff_ne.mpr c3
      by_cases c4 : a0 = 5
      · rw [if_pos c4] at H
        have c4b0 : (a0 == 5) = true := beq_iff_eq.mpr c4
        have c4b1 : (a0 != 5) = false := bne_eq_false_iff_eq.mpr c4
        clear c4
        obtain rfl := Option.some.inj H
        go_enter Tryd.func49, Tryd.ntmps49
        go_wp2
        go_ret
        exact ⟨by first | rfl | (simp; done) | (simp [*]; done), by repeat (first | exact Drawn0.refl _ | apply Drawn0.step)⟩
      · rw [if_neg c4] at H
        have c4b0 : (a0 == 5) = false := beq_eq_false_iff_ne.mpr c4
        have c4b1 : (a0 != 5) = true := bne_iff_ne.mpr c4
        by_cases c5 : a0 = 6
        · rw [if_pos c5] at H
          have c5b0 : (a0 == 6) = true := beq_iff_eq.mpr c5
          have c5b1 : (a0 != 6) = false := bne_eq_false_iff_eq.mpr c5
          clear c5
          obtain rfl := Option.some.inj H
          go_enter Tryd.func49, Tryd.ntmps49
          go_wp2
          go_ret
          exact ⟨by first | rfl | (simp; done) | (simp [*]; done), by repeat (first | exact Drawn0.refl _ | apply Drawn0.step)⟩
        · rw [if_neg c5] at H
          have c5b0 : (a0 == 6) = false := beq_eq_false_iff_ne.mpr c5
          have c5b1 : (a0 != 6) = true := bne_iff_ne.mpr c5
          by_cases c6 : a0 = 7
          · rw [if_pos c6] at H
            have c6b0 : (a0 == 7) = true := beq_iff_eq.mpr c6
            have c6b1 : (a0 != 7) = false := bne_eq_false_iff_eq.mpr c6
            clear c6
            obtain rfl := Option.some.inj H
            go_enter Tryd.func49, Tryd.ntmps49
            go_wp2
            go_ret
            exact ⟨by first | rfl | (simp; done) | (simp [*]; done), by repeat (first | exact Drawn0.refl _ | apply Drawn0.step)⟩
          · rw [if_neg c6] at H
            have c6b0 : (a0 == 7) = false := beq_eq_false_iff_ne.mpr c6
            have c6b1 : (a0 != 7) = true := bne_iff_ne.mpr c6
            by_cases c7 : a0 = 8
            · rw [if_pos c7] at H
              have c7b0 : (a0 == 8) = true := beq_iff_eq.mpr c7
              have c7b1 : (a0 != 8) = false := bne_eq_false_iff_eq.mpr c7
              clear c7
              obtain rfl := Option.some.inj H
              go_enter Tryd.func49, Tryd.ntmps49
              go_wp2
              go_ret
              exact ⟨by first | rfl | (simp; done) | (simp [*]; done), by repeat (first | exact Drawn0.refl _ | apply Drawn0.step)⟩
            · rw [if_neg c7] at H
              have c7b0 : (a0 == 8) = false := beq_eq_false_iff_ne.mpr c7
              have c7b1 : (a0 != 8) = true := bne_iff_ne.mpr c7
              by_cases c8 : a0 = 9
              · rw [if_pos c8] at H
                have c8b0 : (a0 == 9) = true := beq_iff_eq.mpr c8
                have c8b1 : (a0 != 9) = false := bne_eq_false_iff_eq.mpr c8
                clear c8
                obtain rfl := Option.some.inj H
                go_enter Tryd.func49, Tryd.ntmps49
                go_wp2
                go_ret
                exact ⟨by first | rfl | (simp; done) | (simp [*]; done), by repeat (first | exact Drawn0.refl _ | apply Drawn0.step)⟩
              · rw [if_neg c8] at H
                have c8b0 : (a0 == 9) = false := beq_eq_false_iff_ne.mpr c8
                have c8b1 : (a0 != 9) = true := bne_iff_ne.mpr c8
                by_cases c9 : a0 = 10
                · rw [if_pos c9] at H
                  have c9b0 : (a0 == 10) = true := beq_iff_eq.mpr c9
                  have c9b1 : (a0 != 10) = false := bne_eq_false_iff_eq.mpr c9
                  clear c9
                  obtain rfl := Option.some.inj H
                  go_enter Tryd.func49, Tryd.ntmps49
                  go_wp2
                  go_ret
                  exact ⟨by first | rfl | (simp; done) | (simp [*]; done), by repeat (first | exact Drawn0.refl _ | apply Drawn0.step)⟩
                · rw [if_neg c9] at H
                  have c9b0 : (a0 == 10) = false := beq_eq_false_iff_ne.mpr c9
                  have c9b1 : (a0 != 10) = true := bne_iff_ne.mpr c9
                  by_cases c10 : a0 = 11
                  · rw [if_pos c10] at H
                    have c10b0 : (a0 == 11) = true := beq_iff_eq.mpr c10
                    have c10b1 : (a0 != 11) = false := bne_eq_false_iff_eq.mpr c10
                    clear c10
                    obtain rfl := Option.some.inj H
                    go_enter Tryd.func49, Tryd.ntmps49
                    go_wp2
                    go_ret
                    exact ⟨by first | rfl | (simp; done) | (simp [*]; done), by repeat (first | exact Drawn0.refl _ | apply Drawn0.step)⟩
                  · rw [if_neg c10] at H
                    have c10b0 : (a0 == 11) = false := beq_eq_false_iff_ne.mpr c10
                    have c10b1 : (a0 != 11) = true := bne_iff_ne.mpr c10
                    by_cases c11 : a0 = 12
                    · rw [if_pos c11] at H
                      have c11b0 : (a0 == 12) = true := beq_iff_eq.mpr c11
                      have c11b1 : (a0 != 12) = false := bne_eq_false_iff_eq.mpr c11
                      clear c11
                      obtain rfl := Option.some.inj H
                      go_enter Tryd.func49, Tryd.ntmps49
                      go_wp2
                      go_ret
                      exact ⟨by first | rfl | (simp; done) | (simp [*]; done), by repeat (first | exact Drawn0.refl _ | apply Drawn0.step)⟩
                    · rw [if_neg c11] at H
                      have c11b0 : (a0 == 12) = false := beq_eq_false_iff_ne.mpr c11
                      have c11b1 : (a0 != 12) = true := bne_iff_ne.mpr c11
                      by_cases c12 : a0 = 13
                      · rw [if_pos c12] at H
                        have c12b0 : (a0 == 13) = true := beq_iff_eq.mpr c12
                        have c12b1 : (a0 != 13) = false := bne_eq_false_iff_eq.mpr c12
                        clear c12
                        obtain rfl := Option.some.inj H
                        go_enter Tryd.func49, Tryd.ntmps49
                        go_wp2
                        go_ret
                        exact ⟨by first | rfl | (simp; done) | (simp [*]; done), by repeat (first | exact Drawn0.refl _ | apply Drawn0.step)⟩
                      · rw [if_neg c12] at H
                        have c12b0 : (a0 == 13) = false := beq_eq_false_iff_ne.mpr c12
                        have c12b1 : (a0 != 13) = true := bne_iff_ne.mpr c12
                        by_cases c13 : a0 = 14
                        · rw [if_pos c13] at H
                          have c13b0 : (a0 == 14) = true := beq_iff_eq.mpr c13
                          have c13b1 : (a0 != 14) = false := bne_eq_false_iff_eq.mpr c13
                          clear c13
                          obtain rfl := Option.some.inj H
                          go_enter Tryd.func49, Tryd.ntmps49
                          go_wp2
                          go_ret
                          exact ⟨by first | rfl | (simp; done) | (simp [*]; done), by repeat (first | exact Drawn0.refl _ | apply Drawn0.step)⟩
                        · rw [if_neg c13] at H
                          have c13b0 : (a0 == 14) = false := beq_eq_false_iff_ne.mpr c13
                          have c13b1 : (a0 != 14) = true := bne_iff_ne.mpr c13
                          by_cases c14 : a0 = 15
                          · rw [if_pos c14] at H
                            have c14b0 : (a0 == 15) = true := beq_iff_eq.mpr c14
                            have c14b1 : (a0 != 15) = false := bne_eq_false_iff_eq.mpr c14
                            clear c14
                            obtain rfl := Option.some.inj H
                            go_enter Tryd.func49, Tryd.ntmps49
                            go_wp2
                            go_ret
                            exact ⟨by first | rfl | (simp; done) | (simp [*]; done), by repeat (first | exact Drawn0.refl _ | apply Drawn0.step)⟩
                          · rw [if_neg c14] at H
                            have c14b0 : (a0 == 15) = false := beq_eq_false_iff_ne.mpr c14
                            have c14b1 : (a0 != 15) = true := bne_iff_ne.mpr c14
                            by_cases c15 : a0 = 16
                            · rw [if_pos c15] at H
                              have c15b0 : (a0 == 16) = true := beq_iff_eq.mpr c15
                              have c15b1 : (a0 != 16) = false := bne_eq_false_iff_eq.mpr c15
                              clear c15
                              obtain rfl := Option.some.inj H
                              go_enter Tryd.func49, Tryd.ntmps49
                              go_wp2
                              go_ret
                              exact ⟨by first | rfl | (simp; done) | (simp [*]; done), by repeat (first | exact Drawn0.refl _ | apply Drawn0.step)⟩
                            · rw [if_neg c15] at H
                              have c15b0 : (a0 == 16) = false := beq_eq_false_iff_ne.mpr c15
                              have c15b1 : (a0 != 16) = true := bne_iff_ne.mpr c15
                              by_cases c16 : a0 = 17
                              · rw [if_pos c16] at H
                                have c16b0 : (a0 == 17) = true := beq_iff_eq.mpr c16
                                have c16b1 : (a0 != 17) = false := bne_eq_false_iff_eq.mpr c16
                                clear c16
                                obtain rfl := Option.some.inj H
                                go_enter Tryd.func49, Tryd.ntmps49
                                go_wp2
                                go_ret
                                exact ⟨by first | rfl | (simp; done) | (simp [*]; done), by repeat (first | exact Drawn0.refl _ | apply Drawn0.step)⟩
                              · rw [if_neg c16] at H
                                have c16b0 : (a0 == 17) = false := beq_eq_false_iff_ne.mpr c16
                                have c16b1 : (a0 != 17) = true := bne_iff_ne.mpr c16
                                by_cases c17 : a0 = 18
                                · rw [if_pos c17] at H
                                  have c17b0 : (a0 == 18) = true := beq_iff_eq.mpr c17
                                  have c17b1 : (a0 != 18) = false := bne_eq_false_iff_eq.mpr c17
                                  clear c17
                                  obtain rfl := Option.some.inj H
                                  go_enter Tryd.func49, Tryd.ntmps49
                                  go_wp2
                                  go_ret
                                  exact ⟨by first | rfl | (simp; done) | (simp [*]; done), by repeat (first | exact Drawn0.refl _ | apply Drawn0.step)⟩
                                · rw [if_neg c17] at H
                                  have c17b0 : (a0 == 18) = false := beq_eq_false_iff_ne.mpr c17
                                  have c17b1 : (a0 != 18) = true := bne_iff_ne.mpr c17
                                  obtain rfl := Option.some.inj H
                                  go_enter Tryd.func49, Tryd.ntmps49
                                  go_wp2
                                  go_ret
                                  exact ⟨by first | rfl | (simp; done) | (simp [*]; done), by repeat (first | exact Drawn0.refl _ | apply Drawn0.step)⟩

end Go.Proofs.YtldcplgfkcionaaDoor.PAll
