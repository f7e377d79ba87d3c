-- printed by the kit's print.py, regrouped by repack.py
import Derived.Test.YtldcplgfkcionaaDoorPAllT
namespace Go.Proofs.YtldcplgfkcionaaDoor.PAll
open Go.RowKit Go.Proofs.YtldcplgfkcionaaDoorW.PrintWords Go.Proofs.YtldcplgfkcionaaDoorW.PrintLast Go.Proofs.YtldcplgfkcionaaDoorW.PrintMore
attribute [local go_sem] max2_int min2_int max_two min_two max_three min_three max_four min_four   -- for this text's walks alone
set_option linter.unusedVariables false
set_option linter.unusedSimpArgs false

/-! ### lex_digit: function 63 -/
def lex_digit.f (a0 : Int) : Option (Bool) := if a0 ≥ 48 then (some (decide (a0 ≤ 57))) else (some false)
set_option maxHeartbeats 8000000 in
set_option maxRecDepth 100000 in
theorem lex_digit.calls (a0 : Int) (r : Bool) (w : World) (h : lex_digit.f a0 = some r) :
    Calls Tryd.prog 63 #[.int .u8 a0] w fun e w' => e = .returned (.bool r) ∧ Drawn0 w w' := by
  have H : (if a0 ≥ 48 then (some (decide (a0 ≤ 57))) else (some false)) = some r := h
  clear h
  by_cases c2 : a0 ≥ 48
  · rw [if_pos c2] at H
    have c2b0 : decide (48 ≤ a0) = true := decide_eq_true c2
    clear c2
    obtain rfl := Option.some.inj H
    go_enter Tryd.func63, Tryd.ntmps63
    go_wp2
    go_ret
    exact ⟨by first | rfl | (simp; done) | (simp [*]; done), by repeat (first | exact Drawn0.refl _ | apply Drawn0.step)⟩
  · rw [if_neg c2] at H
    have c2b0 : decide (48 ≤ a0) = false := decide_eq_false c2
    clear c2
    obtain rfl := Option.some.inj H
    go_enter Tryd.func63, Tryd.ntmps63
    go_wp2
    go_ret
    exact ⟨by first | rfl | (simp; done) | (simp [*]; done), by repeat (first | exact Drawn0.refl _ | apply Drawn0.step)⟩

/-! ### lex_letter: function 65 -/
def lex_letter.f (a0 : Int) : Option (Bool) := if a0 ≥ 97 then (some (decide (a0 ≤ 122))) else (some false)
set_option maxHeartbeats 8000000 in
set_option maxRecDepth 100000 in
theorem lex_letter.calls (a0 : Int) (r : Bool) (w : World) (h : lex_letter.f a0 = some r) :
    Calls Tryd.prog 65 #[.int .u8 a0] w fun e w' => e = .returned (.bool r) ∧ Drawn0 w w' := by
  have H : (if a0 ≥ 97 then (some (decide (a0 ≤ 122))) else (some false)) = some r := h
  clear h
  by_cases c2 : a0 ≥ 97
  · rw [if_pos c2] at H
    have c2b0 : decide (97 ≤ a0) = true := decide_eq_true c2
    clear c2
    obtain rfl := Option.some.inj H
    go_enter Tryd.func65, Tryd.ntmps65
    go_wp2
    go_ret
    exact ⟨by first | rfl | (simp; done) | (simp [*]; done), by repeat (first | exact Drawn0.refl _ | apply Drawn0.step)⟩
  · rw [if_neg c2] at H
    have c2b0 : decide (97 ≤ a0) = false := decide_eq_false c2
    clear c2
    obtain rfl := Option.some.inj H
    go_enter Tryd.func65, Tryd.ntmps65
    go_wp2
    go_ret
    exact ⟨by first | rfl | (simp; done) | (simp [*]; done), by repeat (first | exact Drawn0.refl _ | apply Drawn0.step)⟩

/-! ### lex_words: function 66 -/
def lex_words.f  : Option ((List (S120))) := some (([(⟨(⟨#[116, 114, 117, 101]⟩ : ByteArray), 15⟩ : S120), (⟨(⟨#[102, 97, 108, 115, 101]⟩ : ByteArray), 16⟩ : S120), (⟨(⟨#[97, 110, 100]⟩ : ByteArray), 12⟩ : S120), (⟨(⟨#[111, 114]⟩ : ByteArray), 13⟩ : S120), (⟨(⟨#[110, 111, 116]⟩ : ByteArray), 14⟩ : S120)] : List (S120)))
set_option maxHeartbeats 8000000 in
set_option maxRecDepth 100000 in
theorem lex_words.calls  (r : List (S120)) (w : World) (h : lex_words.f  = some r) :
    Calls Tryd.prog 66 #[] w fun e w' => ∃ v0_ : Value, e = .returned (v0_) ∧ Kd.R k120 120 w' w.heap.size (fun _ => True) v0_ r ∧ Below w.heap.size w w' := by
  have hu120 := Tryd.underlying120
  have HB := Aside0.mk (Below.refl w.heap.size w)
  have H : (some (([(⟨(⟨#[116, 114, 117, 101]⟩ : ByteArray), 15⟩ : S120), (⟨(⟨#[102, 97, 108, 115, 101]⟩ : ByteArray), 16⟩ : S120), (⟨(⟨#[97, 110, 100]⟩ : ByteArray), 12⟩ : S120), (⟨(⟨#[111, 114]⟩ : ByteArray), 13⟩ : S120), (⟨(⟨#[110, 111, 116]⟩ : ByteArray), 14⟩ : S120)] : List (S120)))) = some r := h
  clear h
  obtain ⟨y152, hy152⟩ : ∃ y_ : List (S120), y_ = (([(⟨(⟨#[116, 114, 117, 101]⟩ : ByteArray), 15⟩ : S120), (⟨(⟨#[102, 97, 108, 115, 101]⟩ : ByteArray), 16⟩ : S120), (⟨(⟨#[97, 110, 100]⟩ : ByteArray), 12⟩ : S120), (⟨(⟨#[111, 114]⟩ : ByteArray), 13⟩ : S120), (⟨(⟨#[110, 111, 116]⟩ : ByteArray), 14⟩ : S120)] : List (S120))) := ⟨_, rfl⟩
  replace H : (some y152) = some r := by first | (rw [hy152]; with_reducible exact H) | (have H2_ := (Option.bind_some _ _).symm.trans H; rw [hy152]; with_reducible exact H2_) | (have H2_ := (Option.bind_some _ _).symm.trans H; with_reducible exact H2_) | with_reducible exact H | (rw [hy152]; exact H) | exact H
  have Ny152 := Aside0.mk hy152
  clear hy152
  obtain rfl := Option.some.inj H
  go_enter Tryd.func66, Tryd.ntmps66
  go_wp2_with (first | ((with_reducible refine gate_dst (N := 6) rfl ?_); refine Kd.R_lit k120 _ 120 ?hg (N := 6) ?hd (xs := ([(⟨(⟨#[116, 114, 117, 101]⟩ : ByteArray), 15⟩ : S120), (⟨(⟨#[102, 97, 108, 115, 101]⟩ : ByteArray), 16⟩ : S120), (⟨(⟨#[97, 110, 100]⟩ : ByteArray), 12⟩ : S120), (⟨(⟨#[111, 114]⟩ : ByteArray), 13⟩ : S120), (⟨(⟨#[110, 111, 116]⟩ : ByteArray), 14⟩ : S120)] : List (S120))) (inner := [.string (⟨#[116, 114, 117, 101]⟩ : ByteArray), .int .i64 15, .string (⟨#[102, 97, 108, 115, 101]⟩ : ByteArray), .int .i64 16, .string (⟨#[97, 110, 100]⟩ : ByteArray), .int .i64 12, .string (⟨#[111, 114]⟩ : ByteArray), .int .i64 13, .string (⟨#[110, 111, 116]⟩ : ByteArray), .int .i64 14]) (ok := fun _ => True) (okp := fun _ => True) ?hr ?hp (fun _ hk => hk) trivial (Below.refl _ _) (Nat.le_refl _) (by simp) ?_; (case hd => rfl); (case hg => rfl); (case hr => first | (go_simp; done) | (go_simp; rfl)); (case hp => exact (Reps.c2 (show Kd.M k120 _ _ _ (⟨(⟨#[116, 114, 117, 101]⟩ : ByteArray), 15⟩ : S120) [.string (⟨#[116, 114, 117, 101]⟩ : ByteArray), .int .i64 15] from (k120_mkM _ _ _ (⟨(⟨#[116, 114, 117, 101]⟩ : ByteArray), 15⟩ : S120) )) (Reps.c2 (show Kd.M k120 _ _ _ (⟨(⟨#[102, 97, 108, 115, 101]⟩ : ByteArray), 16⟩ : S120) [.string (⟨#[102, 97, 108, 115, 101]⟩ : ByteArray), .int .i64 16] from (k120_mkM _ _ _ (⟨(⟨#[102, 97, 108, 115, 101]⟩ : ByteArray), 16⟩ : S120) )) (Reps.c2 (show Kd.M k120 _ _ _ (⟨(⟨#[97, 110, 100]⟩ : ByteArray), 12⟩ : S120) [.string (⟨#[97, 110, 100]⟩ : ByteArray), .int .i64 12] from (k120_mkM _ _ _ (⟨(⟨#[97, 110, 100]⟩ : ByteArray), 12⟩ : S120) )) (Reps.c2 (show Kd.M k120 _ _ _ (⟨(⟨#[111, 114]⟩ : ByteArray), 13⟩ : S120) [.string (⟨#[111, 114]⟩ : ByteArray), .int .i64 13] from (k120_mkM _ _ _ (⟨(⟨#[111, 114]⟩ : ByteArray), 13⟩ : S120) )) (Reps.c2 (show Kd.M k120 _ _ _ (⟨(⟨#[110, 111, 116]⟩ : ByteArray), 14⟩ : S120) [.string (⟨#[110, 111, 116]⟩ : ByteArray), .int .i64 14] from (k120_mkM _ _ _ (⟨(⟨#[110, 111, 116]⟩ : ByteArray), 14⟩ : S120) )) (Reps.none _ _))))))); intro v153 w1 ho2 hb hg_ hnew_; clear hg_ hnew_; (first | rw [← Ny152.out] at ho2 | (simp only [Int.reduceToNat] at ho2; rw [← Ny152.out] at ho2)); have n0_ := Aside0.mk (Kd.R_lower ho2 (below_size (by repeat (first | (with_reducible first | exact HB.out | apply below_alloc | apply pw_below_drewN | apply below_drew1) | exact HB.out)))); have n1_ := Aside0.mk (below_step (by repeat (first | (with_reducible first | exact HB.out | apply below_alloc | apply pw_below_drewN | apply below_drew1) | exact HB.out)) hb); clear HB; have HO154 := n0_; have HB := n1_; clear n0_ n1_; clear hb ho2))
  go_ret
  exact ⟨_, by first | rfl | (simp [errW_none, errW_some] <;> rfl) | (simp [*, errW_none, errW_some] <;> rfl), by (with_reducible repeat (first | apply Kd.R_alloc | apply Kd.R_drewN | apply Kd.R_drew)); exact HO154.out, by repeat (first | (with_reducible first | exact HB.out | apply below_alloc | apply pw_below_drewN | apply below_drew1) | exact HB.out)⟩

/-! ### lex_signs: function 67 -/
def lex_signs.f  : Option ((List (S120))) := some (([(⟨(⟨#[60, 61]⟩ : ByteArray), 9⟩ : S120), (⟨(⟨#[61, 61]⟩ : ByteArray), 10⟩ : S120), (⟨(⟨#[33, 61]⟩ : ByteArray), 11⟩ : S120), (⟨(⟨#[43]⟩ : ByteArray), 3⟩ : S120), (⟨(⟨#[45]⟩ : ByteArray), 4⟩ : S120), (⟨(⟨#[42]⟩ : ByteArray), 5⟩ : S120), (⟨(⟨#[47]⟩ : ByteArray), 6⟩ : S120), (⟨(⟨#[37]⟩ : ByteArray), 7⟩ : S120), (⟨(⟨#[60]⟩ : ByteArray), 8⟩ : S120), (⟨(⟨#[40]⟩ : ByteArray), 17⟩ : S120), (⟨(⟨#[41]⟩ : ByteArray), 18⟩ : S120)] : List (S120)))
set_option maxHeartbeats 8000000 in
set_option maxRecDepth 100000 in
theorem lex_signs.calls  (r : List (S120)) (w : World) (h : lex_signs.f  = some r) :
    Calls Tryd.prog 67 #[] w fun e w' => ∃ v0_ : Value, e = .returned (v0_) ∧ Kd.R k120 120 w' w.heap.size (fun _ => True) v0_ r ∧ Below w.heap.size w w' := by
  have hu120 := Tryd.underlying120
  have HB := Aside0.mk (Below.refl w.heap.size w)
  have H : (some (([(⟨(⟨#[60, 61]⟩ : ByteArray), 9⟩ : S120), (⟨(⟨#[61, 61]⟩ : ByteArray), 10⟩ : S120), (⟨(⟨#[33, 61]⟩ : ByteArray), 11⟩ : S120), (⟨(⟨#[43]⟩ : ByteArray), 3⟩ : S120), (⟨(⟨#[45]⟩ : ByteArray), 4⟩ : S120), (⟨(⟨#[42]⟩ : ByteArray), 5⟩ : S120), (⟨(⟨#[47]⟩ : ByteArray), 6⟩ : S120), (⟨(⟨#[37]⟩ : ByteArray), 7⟩ : S120), (⟨(⟨#[60]⟩ : ByteArray), 8⟩ : S120), (⟨(⟨#[40]⟩ : ByteArray), 17⟩ : S120), (⟨(⟨#[41]⟩ : ByteArray), 18⟩ : S120)] : List (S120)))) = some r := h
  clear h
  obtain ⟨y155, hy155⟩ : ∃ y_ : List (S120), y_ = (([(⟨(⟨#[60, 61]⟩ : ByteArray), 9⟩ : S120), (⟨(⟨#[61, 61]⟩ : ByteArray), 10⟩ : S120), (⟨(⟨#[33, 61]⟩ : ByteArray), 11⟩ : S120), (⟨(⟨#[43]⟩ : ByteArray), 3⟩ : S120), (⟨(⟨#[45]⟩ : ByteArray), 4⟩ : S120), (⟨(⟨#[42]⟩ : ByteArray), 5⟩ : S120), (⟨(⟨#[47]⟩ : ByteArray), 6⟩ : S120), (⟨(⟨#[37]⟩ : ByteArray), 7⟩ : S120), (⟨(⟨#[60]⟩ : ByteArray), 8⟩ : S120), (⟨(⟨#[40]⟩ : ByteArray), 17⟩ : S120), (⟨(⟨#[41]⟩ : ByteArray), 18⟩ : S120)] : List (S120))) := ⟨_, rfl⟩
  replace H : (some y155) = some r := by first | (rw [hy155]; with_reducible exact H) | (have H2_ := (Option.bind_some _ _).symm.trans H; rw [hy155]; with_reducible exact H2_) | (have H2_ := (Option.bind_some _ _).symm.trans H; with_reducible exact H2_) | with_reducible exact H | (rw [hy155]; exact H) | exact H
  have Ny155 := Aside0.mk hy155
  clear hy155
  obtain rfl := Option.some.inj H
  go_enter Tryd.func67, Tryd.ntmps67
  go_wp2_with (first | ((with_reducible refine gate_dst (N := 12) rfl ?_); refine Kd.R_lit k120 _ 120 ?hg (N := 12) ?hd (xs := ([(⟨(⟨#[60, 61]⟩ : ByteArray), 9⟩ : S120), (⟨(⟨#[61, 61]⟩ : ByteArray), 10⟩ : S120), (⟨(⟨#[33, 61]⟩ : ByteArray), 11⟩ : S120), (⟨(⟨#[43]⟩ : ByteArray), 3⟩ : S120), (⟨(⟨#[45]⟩ : ByteArray), 4⟩ : S120), (⟨(⟨#[42]⟩ : ByteArray), 5⟩ : S120), (⟨(⟨#[47]⟩ : ByteArray), 6⟩ : S120), (⟨(⟨#[37]⟩ : ByteArray), 7⟩ : S120), (⟨(⟨#[60]⟩ : ByteArray), 8⟩ : S120), (⟨(⟨#[40]⟩ : ByteArray), 17⟩ : S120), (⟨(⟨#[41]⟩ : ByteArray), 18⟩ : S120)] : List (S120))) (inner := [.string (⟨#[60, 61]⟩ : ByteArray), .int .i64 9, .string (⟨#[61, 61]⟩ : ByteArray), .int .i64 10, .string (⟨#[33, 61]⟩ : ByteArray), .int .i64 11, .string (⟨#[43]⟩ : ByteArray), .int .i64 3, .string (⟨#[45]⟩ : ByteArray), .int .i64 4, .string (⟨#[42]⟩ : ByteArray), .int .i64 5, .string (⟨#[47]⟩ : ByteArray), .int .i64 6, .string (⟨#[37]⟩ : ByteArray), .int .i64 7, .string (⟨#[60]⟩ : ByteArray), .int .i64 8, .string (⟨#[40]⟩ : ByteArray), .int .i64 17, .string (⟨#[41]⟩ : ByteArray), .int .i64 18]) (ok := fun _ => True) (okp := fun _ => True) ?hr ?hp (fun _ hk => hk) trivial (Below.refl _ _) (Nat.le_refl _) (by simp) ?_; (case hd => rfl); (case hg => rfl); (case hr => first | (go_simp; done) | (go_simp; rfl)); (case hp => exact (Reps.c2 (show Kd.M k120 _ _ _ (⟨(⟨#[60, 61]⟩ : ByteArray), 9⟩ : S120) [.string (⟨#[60, 61]⟩ : ByteArray), .int .i64 9] from (k120_mkM _ _ _ (⟨(⟨#[60, 61]⟩ : ByteArray), 9⟩ : S120) )) (Reps.c2 (show Kd.M k120 _ _ _ (⟨(⟨#[61, 61]⟩ : ByteArray), 10⟩ : S120) [.string (⟨#[61, 61]⟩ : ByteArray), .int .i64 10] from (k120_mkM _ _ _ (⟨(⟨#[61, 61]⟩ : ByteArray), 10⟩ : S120) )) (Reps.c2 (show Kd.M k120 _ _ _ (⟨(⟨#[33, 61]⟩ : ByteArray), 11⟩ : S120) [.string (⟨#[33, 61]⟩ : ByteArray), .int .i64 11] from (k120_mkM _ _ _ (⟨(⟨#[33, 61]⟩ : ByteArray), 11⟩ : S120) )) (Reps.c2 (show Kd.M k120 _ _ _ (⟨(⟨#[43]⟩ : ByteArray), 3⟩ : S120) [.string (⟨#[43]⟩ : ByteArray), .int .i64 3] from (k120_mkM _ _ _ (⟨(⟨#[43]⟩ : ByteArray), 3⟩ : S120) )) (Reps.c2 (show Kd.M k120 _ _ _ (⟨(⟨#[45]⟩ : ByteArray), 4⟩ : S120) [.string (⟨#[45]⟩ : ByteArray), .int .i64 4] from (k120_mkM _ _ _ (⟨(⟨#[45]⟩ : ByteArray), 4⟩ : S120) )) (Reps.c2 (show Kd.M k120 _ _ _ (⟨(⟨#[42]⟩ : ByteArray), 5⟩ : S120) [.string (⟨#[42]⟩ : ByteArray), .int .i64 5] from (k120_mkM _ _ _ (⟨(⟨#[42]⟩ : ByteArray), 5⟩ : S120) )) (Reps.c2 (show Kd.M k120 _ _ _ (⟨(⟨#[47]⟩ : ByteArray), 6⟩ : S120) [.string (⟨#[47]⟩ : ByteArray), .int .i64 6] from (k120_mkM _ _ _ (⟨(⟨#[47]⟩ : ByteArray), 6⟩ : S120) )) (Reps.c2 (show Kd.M k120 _ _ _ (⟨(⟨#[37]⟩ : ByteArray), 7⟩ : S120) [.string (⟨#[37]⟩ : ByteArray), .int .i64 7] from (k120_mkM _ _ _ (⟨(⟨#[37]⟩ : ByteArray), 7⟩ : S120) )) (Reps.c2 (show Kd.M k120 _ _ _ (⟨(⟨#[60]⟩ : ByteArray), 8⟩ : S120) [.string (⟨#[60]⟩ : ByteArray), .int .i64 8] from (k120_mkM _ _ _ (⟨(⟨#[60]⟩ : ByteArray), 8⟩ : S120) )) (Reps.c2 (show Kd.M k120 _ _ _ (⟨(⟨#[40]⟩ : ByteArray), 17⟩ : S120) [.string (⟨#[40]⟩ : ByteArray), .int .i64 17] from (k120_mkM _ _ _ (⟨(⟨#[40]⟩ : ByteArray), 17⟩ : S120) )) (Reps.c2 (show Kd.M k120 _ _ _ (⟨(⟨#[41]⟩ : ByteArray), 18⟩ : S120) [.string (⟨#[41]⟩ : ByteArray), .int .i64 18] from (k120_mkM _ _ _ (⟨(⟨#[41]⟩ : ByteArray), 18⟩ : S120) )) (Reps.none _ _))))))))))))); intro v156 w1 ho2 hb hg_ hnew_; clear hg_ hnew_; (first | rw [← Ny155.out] at ho2 | (simp only [Int.reduceToNat] at ho2; rw [← Ny155.out] at ho2)); have n0_ := Aside0.mk (Kd.R_lower ho2 (below_size (by repeat (first | (with_reducible first | exact HB.out | apply below_alloc | apply pw_below_drewN | apply below_drew1) | exact HB.out)))); have n1_ := Aside0.mk (below_step (by repeat (first | (with_reducible first | exact HB.out | apply below_alloc | apply pw_below_drewN | apply below_drew1) | exact HB.out)) hb); clear HB; have HO157 := n0_; have HB := n1_; clear n0_ n1_; clear hb ho2))
  go_ret
  exact ⟨_, by first | rfl | (simp [errW_none, errW_some] <;> rfl) | (simp [*, errW_none, errW_some] <;> rfl), by (with_reducible repeat (first | apply Kd.R_alloc | apply Kd.R_drewN | apply Kd.R_drew)); exact HO157.out, by repeat (first | (with_reducible first | exact HB.out | apply below_alloc | apply pw_below_drewN | apply below_drew1) | exact HB.out)⟩

/-! ### stringslite_HasPrefix: function 96 -/
def stringslite_HasPrefix.f (a0 : ByteArray) (a1 : ByteArray) : Option (Bool) := if (a0.size : Int) ≥ (a1.size : Int) then (if 0 ≤ (a1.size : Int) then (if (a1.size : Int) ≤ (a0.size : Int) then (some ((a0.extract 0 ((a1.size : Int) : Int).toNat).toList == a1.toList)) else (none)) else (none)) else (some false)
set_option maxHeartbeats 8000000 in
set_option maxRecDepth 100000 in
theorem stringslite_HasPrefix.calls (a0 : ByteArray) (a1 : ByteArray) (r : Bool) (w : World) (h : stringslite_HasPrefix.f a0 a1 = some r) :
    Calls Tryd.prog 96 #[.string a0, .string a1] w fun e w' => e = .returned (.bool r) ∧ Drawn0 w w' := by
  have H : (if (a0.size : Int) ≥ (a1.size : Int) then (if 0 ≤ (a1.size : Int) then (if (a1.size : Int) ≤ (a0.size : Int) then (some ((a0.extract 0 ((a1.size : Int) : Int).toNat).toList == a1.toList)) else (none)) else (none)) else (some false)) = some r := h
  clear h
  by_cases c3 : (a0.size : Int) ≥ (a1.size : Int)
  · rw [if_pos c3] at H
    have c3b0 : decide ((a1.size : Int) ≤ (a0.size : Int)) = true := decide_eq_true c3
    have c3b1 : decide (a1.size ≤ a0.size) = true := decide_eq_true (Int.ofNat_le.mp c3)
    clear c3
    by_cases c4 : 0 ≤ (a1.size : Int)
    · rw [if_pos c4] at H
      have c4b0 := eq_true c4
      have c4b1 : decide (0 ≤ (a1.size : Int)) = true := decide_eq_true c4
      clear c4
      by_cases c5 : (a1.size : Int) ≤ (a0.size : Int)
      · rw [if_pos c5] at H
        have c5b0 := eq_true c5
        have c5b1 : decide ((a1.size : Int) ≤ (a0.size : Int)) = true := decide_eq_true c5
        clear c5
        obtain rfl := Option.some.inj H
        go_enter Tryd.func96, Tryd.ntmps96
        go_wp2
        go_ret
        exact ⟨by first | rfl | (simp; done) | (simp [*]; done), by repeat (first | exact Drawn0.refl _ | apply Drawn0.step)⟩
      · rw [if_neg c5] at H
        exact absurd H (by simp)
    · rw [if_neg c4] at H
      exact absurd H (by simp)
  · rw [if_neg c3] at H
    have c3b0 : decide ((a1.size : Int) ≤ (a0.size : Int)) = false := decide_eq_false c3
    have c3b1 : decide (a1.size ≤ a0.size) = false := decide_eq_false (fun h => c3 (Int.ofNat_le.mpr h))
    clear c3
    obtain rfl := Option.some.inj H
    go_enter Tryd.func96, Tryd.ntmps96
    go_wp2
    go_ret
    exact ⟨by first | rfl | (simp; done) | (simp [*]; done), by repeat (first | exact Drawn0.refl _ | apply Drawn0.step)⟩

/-! ### strings_HasPrefix: function 68 -/
def strings_HasPrefix.f (a0 : ByteArray) (a1 : ByteArray) : Option (Bool) := (stringslite_HasPrefix.f a0 a1).bind fun t158 => (some t158)
set_option maxHeartbeats 8000000 in
set_option maxRecDepth 100000 in
theorem strings_HasPrefix.calls (a0 : ByteArray) (a1 : ByteArray) (r : Bool) (w : World) (h : strings_HasPrefix.f a0 a1 = some r) :
    Calls Tryd.prog 68 #[.string a0, .string a1] w fun e w' => e = .returned (.bool r) ∧ Drawn0 w w' := by
  have H : ((stringslite_HasPrefix.f a0 a1).bind fun t158 => (some t158)) = some r := h
  clear h
  replace H := Option.bind_eq_some_iff.mp H
  obtain ⟨t158, A30, H⟩ := H
  replace H : (some t158) = some r := H
  have A3 := Aside0.mk A30
  clear A30
  obtain rfl := Option.some.inj H
  go_enter Tryd.func68, Tryd.ntmps68
  go_wp2_with (first | ((with_reducible refine gate_callee (f := 96) rfl ?_); refine goesL_ (some 7) rfl rfl Tryd.func96 (by kernel_rfl) rfl #[.string a0, .string a1] rfl (by (try simp only [List.map_toArray, List.map_cons, List.map_nil]); first | done | rfl | (simp only [List.length_drop, List.length_take]; rfl)) ?_; (with_reducible refine (stringslite_HasPrefix.calls a0 a1 t158 _ A3.out).mono ?_); rintro e w' ⟨rfl, ⟨nd, rfl⟩⟩; refine ⟨_, rfl, ?_⟩))
  go_ret
  exact ⟨by first | rfl | (simp; done) | (simp [*]; done), by repeat (first | exact Drawn0.refl _ | apply Drawn0.step)⟩

-- NOT PRINTED: function 41 (lex_first)

-- NOT PRINTED: function 14 (lex_Tokens)

end Go.Proofs.YtldcplgfkcionaaDoor.PAll
