-- PRINTED by print.py (a twelfth state) out of the translation. Not trusted: Lean checks it.
import Derived.Test.YtldcplgfkcionaaDoorPAllx0
namespace Go.Proofs.YtldcplgfkcionaaDoor.PAll
open Go.RowKit Go.Proofs.YtldcplgfkcionaaDoorW.PrintWords Go.Proofs.YtldcplgfkcionaaDoorW.PrintLast Go.Proofs.YtldcplgfkcionaaDoorW.PrintMore
attribute [local go_sem] max2_int min2_int max_two min_two max_three min_three max_four min_four   -- for this text's walks alone
set_option linter.unusedVariables false
set_option linter.unusedSimpArgs false

-- NOT PRINTED: function 115 (strconv_ParseUint)

-- NOT PRINTED: function 94 (strconv_ParseInt_94)

-- NOT PRINTED: function 138 (stringslite_Clone)

-- NOT PRINTED: function 116 (strconv_syntaxError)

-- NOT PRINTED: function 117 (strconv_rangeError)

-- NOT PRINTED: function 139 (errors_New)

/-! ### lex_letter: function 65 -/
def lex_letter.f (a0 : Int) : Option (Bool) := if a0 ≥ 97 then (some (decide (a0 ≤ 122))) else (some false)
set_option maxHeartbeats 8000000 in
set_option maxRecDepth 100000 in
theorem lex_letter.calls (a0 : Int) (r : Bool) (w : World) (h : lex_letter.f a0 = some r) :
    Calls Tryd.prog 65 #[.int .u8 a0] w fun e w' => e = .returned (.bool r) ∧ Drawn0 w w' := by
  have H : (if a0 ≥ 97 then (some (decide (a0 ≤ 122))) else (some false)) = some r := h
  clear h
  by_cases c2 : a0 ≥ 97
  · rw [if_pos c2] at H
    have c2b0 : decide (97 ≤ a0) = true := decide_eq_true c2
    clear c2
    obtain rfl := Option.some.inj H
    go_enter Tryd.func65, Tryd.ntmps65
    go_wp2
    go_ret
    exact ⟨by first | rfl | (simp; done) | (simp [*]; done), by repeat (first | exact Drawn0.refl _ | apply Drawn0.step)⟩
  · rw [if_neg c2] at H
    have c2b0 : decide (97 ≤ a0) = false := decide_eq_false c2
    clear c2
    obtain rfl := Option.some.inj H
    go_enter Tryd.func65, Tryd.ntmps65
    go_wp2
    go_ret
    exact ⟨by first | rfl | (simp; done) | (simp [*]; done), by repeat (first | exact Drawn0.refl _ | apply Drawn0.step)⟩

/-! ### lex_words: function 66 -/
def lex_words.f  : Option ((List (S120))) := some (([(⟨(⟨#[116, 114, 117, 101]⟩ : ByteArray), 15⟩ : S120), (⟨(⟨#[102, 97, 108, 115, 101]⟩ : ByteArray), 16⟩ : S120), (⟨(⟨#[97, 110, 100]⟩ : ByteArray), 12⟩ : S120), (⟨(⟨#[111, 114]⟩ : ByteArray), 13⟩ : S120), (⟨(⟨#[110, 111, 116]⟩ : ByteArray), 14⟩ : S120)] : List (S120)))
set_option maxHeartbeats 8000000 in
set_option maxRecDepth 100000 in
theorem lex_words.calls  (r : List (S120)) (w : World) (h : lex_words.f  = some r) :
    Calls Tryd.prog 66 #[] w fun e w' => ∃ v0_ : Value, e = .returned (v0_) ∧ Kd.R k120 120 w' w.heap.size (fun _ => True) v0_ r ∧ Below w.heap.size w w' := by
  have hu120 := Tryd.underlying120
  have HB := Aside0.mk (Below.refl w.heap.size w)
  have H : (some (([(⟨(⟨#[116, 114, 117, 101]⟩ : ByteArray), 15⟩ : S120), (⟨(⟨#[102, 97, 108, 115, 101]⟩ : ByteArray), 16⟩ : S120), (⟨(⟨#[97, 110, 100]⟩ : ByteArray), 12⟩ : S120), (⟨(⟨#[111, 114]⟩ : ByteArray), 13⟩ : S120), (⟨(⟨#[110, 111, 116]⟩ : ByteArray), 14⟩ : S120)] : List (S120)))) = some r := h
  clear h
  obtain ⟨y152, hy152⟩ : ∃ y_ : List (S120), y_ = (([(⟨(⟨#[116, 114, 117, 101]⟩ : ByteArray), 15⟩ : S120), (⟨(⟨#[102, 97, 108, 115, 101]⟩ : ByteArray), 16⟩ : S120), (⟨(⟨#[97, 110, 100]⟩ : ByteArray), 12⟩ : S120), (⟨(⟨#[111, 114]⟩ : ByteArray), 13⟩ : S120), (⟨(⟨#[110, 111, 116]⟩ : ByteArray), 14⟩ : S120)] : List (S120))) := ⟨_, rfl⟩
  replace H : (some y152) = some r := by first | (rw [hy152]; with_reducible exact H) | (have H2_ := (Option.bind_some _ _).symm.trans H; rw [hy152]; with_reducible exact H2_) | (have H2_ := (Option.bind_some _ _).symm.trans H; with_reducible exact H2_) | with_reducible exact H | (rw [hy152]; exact H) | exact H
  have Ny152 := Aside0.mk hy152
  clear hy152
  obtain rfl := Option.some.inj H
  go_enter Tryd.func66, Tryd.ntmps66
  go_wp2_with (first | ((with_reducible refine gate_dst (N := 6) rfl ?_); refine Kd.R_lit k120 _ 120 ?hg (N := 6) ?hd (xs := ([(⟨(⟨#[116, 114, 117, 101]⟩ : ByteArray), 15⟩ : S120), (⟨(⟨#[102, 97, 108, 115, 101]⟩ : ByteArray), 16⟩ : S120), (⟨(⟨#[97, 110, 100]⟩ : ByteArray), 12⟩ : S120), (⟨(⟨#[111, 114]⟩ : ByteArray), 13⟩ : S120), (⟨(⟨#[110, 111, 116]⟩ : ByteArray), 14⟩ : S120)] : List (S120))) (inner := [.string (⟨#[116, 114, 117, 101]⟩ : ByteArray), .int .i64 15, .string (⟨#[102, 97, 108, 115, 101]⟩ : ByteArray), .int .i64 16, .string (⟨#[97, 110, 100]⟩ : ByteArray), .int .i64 12, .string (⟨#[111, 114]⟩ : ByteArray), .int .i64 13, .string (⟨#[110, 111, 116]⟩ : ByteArray), .int .i64 14]) (ok := fun _ => True) (okp := fun _ => True) ?hr ?hp (fun _ hk => hk) trivial (Below.refl _ _) (Nat.le_refl _) (by simp) ?_; (case hd => rfl); (case hg => rfl); (case hr => first | (go_simp; done) | (go_simp; rfl)); (case hp => exact (Reps.c2 (show Kd.M k120 _ _ _ (⟨(⟨#[116, 114, 117, 101]⟩ : ByteArray), 15⟩ : S120) [.string (⟨#[116, 114, 117, 101]⟩ : ByteArray), .int .i64 15] from (k120_mkM _ _ _ (⟨(⟨#[116, 114, 117, 101]⟩ : ByteArray), 15⟩ : S120) )) (Reps.c2 (show Kd.M k120 _ _ _ (⟨(⟨#[102, 97, 108, 115, 101]⟩ : ByteArray), 16⟩ : S120) [.string (⟨#[102, 97, 108, 115, 101]⟩ : ByteArray), .int .i64 16] from (k120_mkM _ _ _ (⟨(⟨#[102, 97, 108, 115, 101]⟩ : ByteArray), 16⟩ : S120) )) (Reps.c2 (show Kd.M k120 _ _ _ (⟨(⟨#[97, 110, 100]⟩ : ByteArray), 12⟩ : S120) [.string (⟨#[97, 110, 100]⟩ : ByteArray), .int .i64 12] from (k120_mkM _ _ _ (⟨(⟨#[97, 110, 100]⟩ : ByteArray), 12⟩ : S120) )) (Reps.c2 (show Kd.M k120 _ _ _ (⟨(⟨#[111, 114]⟩ : ByteArray), 13⟩ : S120) [.string (⟨#[111, 114]⟩ : ByteArray), .int .i64 13] from (k120_mkM _ _ _ (⟨(⟨#[111, 114]⟩ : ByteArray), 13⟩ : S120) )) (Reps.c2 (show Kd.M k120 _ _ _ (⟨(⟨#[110, 111, 116]⟩ : ByteArray), 14⟩ : S120) [.string (⟨#[110, 111, 116]⟩ : ByteArray), .int .i64 14] from (k120_mkM _ _ _ (⟨(⟨#[110, 111, 116]⟩ : ByteArray), 14⟩ : S120) )) (Reps.none _ _))))))); intro v153 w1 ho2 hb hg_ hnew_; clear hg_ hnew_; (first | rw [← Ny152.out] at ho2 | (simp only [Int.reduceToNat] at ho2; rw [← Ny152.out] at ho2)); have n0_ := Aside0.mk (Kd.R_lower ho2 (below_size (by repeat (first | (with_reducible first | exact HB.out | apply below_alloc | apply pw_below_drewN | apply below_drew1) | exact HB.out)))); have n1_ := Aside0.mk (below_step (by repeat (first | (with_reducible first | exact HB.out | apply below_alloc | apply pw_below_drewN | apply below_drew1) | exact HB.out)) hb); clear HB; have HO154 := n0_; have HB := n1_; clear n0_ n1_; clear hb ho2))
  go_ret
  exact ⟨_, by first | rfl | (simp [errW_none, errW_some] <;> rfl) | (simp [*, errW_none, errW_some] <;> rfl), by (with_reducible repeat (first | apply Kd.R_alloc | apply Kd.R_drewN | apply Kd.R_drew)); exact HO154.out, by repeat (first | (with_reducible first | exact HB.out | apply below_alloc | apply pw_below_drewN | apply below_drew1) | exact HB.out)⟩

/-! ### lex_signs: function 67 -/
def lex_signs.f  : Option ((List (S120))) := some (([(⟨(⟨#[60, 61]⟩ : ByteArray), 9⟩ : S120), (⟨(⟨#[61, 61]⟩ : ByteArray), 10⟩ : S120), (⟨(⟨#[33, 61]⟩ : ByteArray), 11⟩ : S120), (⟨(⟨#[43]⟩ : ByteArray), 3⟩ : S120), (⟨(⟨#[45]⟩ : ByteArray), 4⟩ : S120), (⟨(⟨#[42]⟩ : ByteArray), 5⟩ : S120), (⟨(⟨#[47]⟩ : ByteArray), 6⟩ : S120), (⟨(⟨#[37]⟩ : ByteArray), 7⟩ : S120), (⟨(⟨#[60]⟩ : ByteArray), 8⟩ : S120), (⟨(⟨#[40]⟩ : ByteArray), 17⟩ : S120), (⟨(⟨#[41]⟩ : ByteArray), 18⟩ : S120)] : List (S120)))
set_option maxHeartbeats 8000000 in
set_option maxRecDepth 100000 in
theorem lex_signs.calls  (r : List (S120)) (w : World) (h : lex_signs.f  = some r) :
    Calls Tryd.prog 67 #[] w fun e w' => ∃ v0_ : Value, e = .returned (v0_) ∧ Kd.R k120 120 w' w.heap.size (fun _ => True) v0_ r ∧ Below w.heap.size w w' := by
  have hu120 := Tryd.underlying120
  have HB := Aside0.mk (Below.refl w.heap.size w)
  have H : (some (([(⟨(⟨#[60, 61]⟩ : ByteArray), 9⟩ : S120), (⟨(⟨#[61, 61]⟩ : ByteArray), 10⟩ : S120), (⟨(⟨#[33, 61]⟩ : ByteArray), 11⟩ : S120), (⟨(⟨#[43]⟩ : ByteArray), 3⟩ : S120), (⟨(⟨#[45]⟩ : ByteArray), 4⟩ : S120), (⟨(⟨#[42]⟩ : ByteArray), 5⟩ : S120), (⟨(⟨#[47]⟩ : ByteArray), 6⟩ : S120), (⟨(⟨#[37]⟩ : ByteArray), 7⟩ : S120), (⟨(⟨#[60]⟩ : ByteArray), 8⟩ : S120), (⟨(⟨#[40]⟩ : ByteArray), 17⟩ : S120), (⟨(⟨#[41]⟩ : ByteArray), 18⟩ : S120)] : List (S120)))) = some r := h
  clear h
  obtain ⟨y155, hy155⟩ : ∃ y_ : List (S120), y_ = (([(⟨(⟨#[60, 61]⟩ : ByteArray), 9⟩ : S120), (⟨(⟨#[61, 61]⟩ : ByteArray), 10⟩ : S120), (⟨(⟨#[33, 61]⟩ : ByteArray), 11⟩ : S120), (⟨(⟨#[43]⟩ : ByteArray), 3⟩ : S120), (⟨(⟨#[45]⟩ : ByteArray), 4⟩ : S120), (⟨(⟨#[42]⟩ : ByteArray), 5⟩ : S120), (⟨(⟨#[47]⟩ : ByteArray), 6⟩ : S120), (⟨(⟨#[37]⟩ : ByteArray), 7⟩ : S120), (⟨(⟨#[60]⟩ : ByteArray), 8⟩ : S120), (⟨(⟨#[40]⟩ : ByteArray), 17⟩ : S120), (⟨(⟨#[41]⟩ : ByteArray), 18⟩ : S120)] : List (S120))) := ⟨_, rfl⟩
  replace H : (some y155) = some r := by first | (rw [hy155]; with_reducible exact H) | (have H2_ := (Option.bind_some _ _).symm.trans H; rw [hy155]; with_reducible exact H2_) | (have H2_ := (Option.bind_some _ _).symm.trans H; with_reducible exact H2_) | with_reducible exact H | (rw [hy155]; exact H) | exact H
  have Ny155 := Aside0.mk hy155
  clear hy155
  obtain rfl := Option.some.inj H
  go_enter Tryd.func67, Tryd.ntmps67
  go_wp2_with (first | ((with_reducible refine gate_dst (N := 12) rfl ?_); refine Kd.R_lit k120 _ 120 ?hg (N := 12) ?hd (xs := ([(⟨(⟨#[60, 61]⟩ : ByteArray), 9⟩ : S120), (⟨(⟨#[61, 61]⟩ : ByteArray), 10⟩ : S120), (⟨(⟨#[33, 61]⟩ : ByteArray), 11⟩ : S120), (⟨(⟨#[43]⟩ : ByteArray), 3⟩ : S120), (⟨(⟨#[45]⟩ : ByteArray), 4⟩ : S120), (⟨(⟨#[42]⟩ : ByteArray), 5⟩ : S120), (⟨(⟨#[47]⟩ : ByteArray), 6⟩ : S120), (⟨(⟨#[37]⟩ : ByteArray), 7⟩ : S120), (⟨(⟨#[60]⟩ : ByteArray), 8⟩ : S120), (⟨(⟨#[40]⟩ : ByteArray), 17⟩ : S120), (⟨(⟨#[41]⟩ : ByteArray), 18⟩ : S120)] : List (S120))) (inner := [.string (⟨#[60, 61]⟩ : ByteArray), .int .i64 9, .string (⟨#[61, 61]⟩ : ByteArray), .int .i64 10, .string (⟨#[33, 61]⟩ : ByteArray), .int .i64 11, .string (⟨#[43]⟩ : ByteArray), .int .i64 3, .string (⟨#[45]⟩ : ByteArray), .int .i64 4, .string (⟨#[42]⟩ : ByteArray), .int .i64 5, .string (⟨#[47]⟩ : ByteArray), .int .i64 6, .string (⟨#[37]⟩ : ByteArray), .int .i64 7, .string (⟨#[60]⟩ : ByteArray), .int .i64 8, .string (⟨#[40]⟩ : ByteArray), .int .i64 17, .string (⟨#[41]⟩ : ByteArray), .int .i64 18]) (ok := fun _ => True) (okp := fun _ => True) ?hr ?hp (fun _ hk => hk) trivial (Below.refl _ _) (Nat.le_refl _) (by simp) ?_; (case hd => rfl); (case hg => rfl); (case hr => first | (go_simp; done) | (go_simp; rfl)); (case hp => exact (Reps.c2 (show Kd.M k120 _ _ _ (⟨(⟨#[60, 61]⟩ : ByteArray), 9⟩ : S120) [.string (⟨#[60, 61]⟩ : ByteArray), .int .i64 9] from (k120_mkM _ _ _ (⟨(⟨#[60, 61]⟩ : ByteArray), 9⟩ : S120) )) (Reps.c2 (show Kd.M k120 _ _ _ (⟨(⟨#[61, 61]⟩ : ByteArray), 10⟩ : S120) [.string (⟨#[61, 61]⟩ : ByteArray), .int .i64 10] from (k120_mkM _ _ _ (⟨(⟨#[61, 61]⟩ : ByteArray), 10⟩ : S120) )) (Reps.c2 (show Kd.M k120 _ _ _ (⟨(⟨#[33, 61]⟩ : ByteArray), 11⟩ : S120) [.string (⟨#[33, 61]⟩ : ByteArray), .int .i64 11] from (k120_mkM _ _ _ (⟨(⟨#[33, 61]⟩ : ByteArray), 11⟩ : S120) )) (Reps.c2 (show Kd.M k120 _ _ _ (⟨(⟨#[43]⟩ : ByteArray), 3⟩ : S120) [.string (⟨#[43]⟩ : ByteArray), .int .i64 3] from (k120_mkM _ _ _ (⟨(⟨#[43]⟩ : ByteArray), 3⟩ : S120) )) (Reps.c2 (show Kd.M k120 _ _ _ (⟨(⟨#[45]⟩ : ByteArray), 4⟩ : S120) [.string (⟨#[45]⟩ : ByteArray), .int .i64 4] from (k120_mkM _ _ _ (⟨(⟨#[45]⟩ : ByteArray), 4⟩ : S120) )) (Reps.c2 (show Kd.M k120 _ _ _ (⟨(⟨#[42]⟩ : ByteArray), 5⟩ : S120) [.string (⟨#[42]⟩ : ByteArray), .int .i64 5] from (k120_mkM _ _ _ (⟨(⟨#[42]⟩ : ByteArray), 5⟩ : S120) )) (Reps.c2 (show Kd.M k120 _ _ _ (⟨(⟨#[47]⟩ : ByteArray), 6⟩ : S120) [.string (⟨#[47]⟩ : ByteArray), .int .i64 6] from (k120_mkM _ _ _ (⟨(⟨#[47]⟩ : ByteArray), 6⟩ : S120) )) (Reps.c2 (show Kd.M k120 _ _ _ (⟨(⟨#[37]⟩ : ByteArray), 7⟩ : S120) [.string (⟨#[37]⟩ : ByteArray), .int .i64 7] from (k120_mkM _ _ _ (⟨(⟨#[37]⟩ : ByteArray), 7⟩ : S120) )) (Reps.c2 (show Kd.M k120 _ _ _ (⟨(⟨#[60]⟩ : ByteArray), 8⟩ : S120) [.string (⟨#[60]⟩ : ByteArray), .int .i64 8] from (k120_mkM _ _ _ (⟨(⟨#[60]⟩ : ByteArray), 8⟩ : S120) )) (Reps.c2 (show Kd.M k120 _ _ _ (⟨(⟨#[40]⟩ : ByteArray), 17⟩ : S120) [.string (⟨#[40]⟩ : ByteArray), .int .i64 17] from (k120_mkM _ _ _ (⟨(⟨#[40]⟩ : ByteArray), 17⟩ : S120) )) (Reps.c2 (show Kd.M k120 _ _ _ (⟨(⟨#[41]⟩ : ByteArray), 18⟩ : S120) [.string (⟨#[41]⟩ : ByteArray), .int .i64 18] from (k120_mkM _ _ _ (⟨(⟨#[41]⟩ : ByteArray), 18⟩ : S120) )) (Reps.none _ _))))))))))))); intro v156 w1 ho2 hb hg_ hnew_; clear hg_ hnew_; (first | rw [← Ny155.out] at ho2 | (simp only [Int.reduceToNat] at ho2; rw [← Ny155.out] at ho2)); have n0_ := Aside0.mk (Kd.R_lower ho2 (below_size (by repeat (first | (with_reducible first | exact HB.out | apply below_alloc | apply pw_below_drewN | apply below_drew1) | exact HB.out)))); have n1_ := Aside0.mk (below_step (by repeat (first | (with_reducible first | exact HB.out | apply below_alloc | apply pw_below_drewN | apply below_drew1) | exact HB.out)) hb); clear HB; have HO157 := n0_; have HB := n1_; clear n0_ n1_; clear hb ho2))
  go_ret
  exact ⟨_, by first | rfl | (simp [errW_none, errW_some] <;> rfl) | (simp [*, errW_none, errW_some] <;> rfl), by (with_reducible repeat (first | apply Kd.R_alloc | apply Kd.R_drewN | apply Kd.R_drew)); exact HO157.out, by repeat (first | (with_reducible first | exact HB.out | apply below_alloc | apply pw_below_drewN | apply below_drew1) | exact HB.out)⟩

/-! ### stringslite_HasPrefix: function 96 -/
def stringslite_HasPrefix.f (a0 : ByteArray) (a1 : ByteArray) : Option (Bool) := if (a0.size : Int) ≥ (a1.size : Int) then (if 0 ≤ (a1.size : Int) then (if (a1.size : Int) ≤ (a0.size : Int) then (some ((a0.extract 0 ((a1.size : Int) : Int).toNat).toList == a1.toList)) else (none)) else (none)) else (some false)
set_option maxHeartbeats 8000000 in
set_option maxRecDepth 100000 in
theorem stringslite_HasPrefix.calls (a0 : ByteArray) (a1 : ByteArray) (r : Bool) (w : World) (h : stringslite_HasPrefix.f a0 a1 = some r) :
    Calls Tryd.prog 96 #[.string a0, .string a1] w fun e w' => e = .returned (.bool r) ∧ Drawn0 w w' := by
  have H : (if (a0.size : Int) ≥ (a1.size : Int) then (if 0 ≤ (a1.size : Int) then (if (a1.size : Int) ≤ (a0.size : Int) then (some ((a0.extract 0 ((a1.size : Int) : Int).toNat).toList == a1.toList)) else (none)) else (none)) else (some false)) = some r := h
  clear h
  by_cases c3 : (a0.size : Int) ≥ (a1.size : Int)
  · rw [if_pos c3] at H
    have c3b0 : decide ((a1.size : Int) ≤ (a0.size : Int)) = true := decide_eq_true c3
    have c3b1 : decide (a1.size ≤ a0.size) = true := decide_eq_true (Int.ofNat_le.mp c3)
    clear c3
    by_cases c4 : 0 ≤ (a1.size : Int)
    · rw [if_pos c4] at H
      have c4b0 := eq_true c4
      have c4b1 : decide (0 ≤ (a1.size : Int)) = true := decide_eq_true c4
      clear c4
      by_cases c5 : (a1.size : Int) ≤ (a0.size : Int)
      · rw [if_pos c5] at H
        have c5b0 := eq_true c5
        have c5b1 : decide ((a1.size : Int) ≤ (a0.size : Int)) = true := decide_eq_true c5
        clear c5
        obtain rfl := Option.some.inj H
        go_enter Tryd.func96, Tryd.ntmps96
        go_wp2
        go_ret
        exact ⟨by first | rfl | (simp; done) | (simp [*]; done), by repeat (first | exact Drawn0.refl _ | apply Drawn0.step)⟩
      · rw [if_neg c5] at H
        exact absurd H (by simp)
    · rw [if_neg c4] at H
      exact absurd H (by simp)
  · rw [if_neg c3] at H
    have c3b0 : decide ((a1.size : Int) ≤ (a0.size : Int)) = false := decide_eq_false c3
    have c3b1 : decide (a1.size ≤ a0.size) = false := decide_eq_false (fun h => c3 (Int.ofNat_le.mpr h))
    clear c3
    obtain rfl := Option.some.inj H
    go_enter Tryd.func96, Tryd.ntmps96
    go_wp2
    go_ret
    exact ⟨by first | rfl | (simp; done) | (simp [*]; done), by repeat (first | exact Drawn0.refl _ | apply Drawn0.step)⟩

/-! ### strings_HasPrefix: function 68 -/
def strings_HasPrefix.f (a0 : ByteArray) (a1 : ByteArray) : Option (Bool) := (stringslite_HasPrefix.f a0 a1).bind fun t158 => (some t158)
set_option maxHeartbeats 8000000 in
set_option maxRecDepth 100000 in
theorem strings_HasPrefix.calls (a0 : ByteArray) (a1 : ByteArray) (r : Bool) (w : World) (h : strings_HasPrefix.f a0 a1 = some r) :
    Calls Tryd.prog 68 #[.string a0, .string a1] w fun e w' => e = .returned (.bool r) ∧ Drawn0 w w' := by
  have H : ((stringslite_HasPrefix.f a0 a1).bind fun t158 => (some t158)) = some r := h
  clear h
  replace H := Option.bind_eq_some_iff.mp H
  obtain ⟨t158, A30, H⟩ := H
  replace H : (some t158) = some r := H
  have A3 := Aside0.mk A30
  clear A30
  obtain rfl := Option.some.inj H
  go_enter Tryd.func68, Tryd.ntmps68
  go_wp2_with (first | ((with_reducible refine gate_callee (f := 96) rfl ?_); refine goesL_ (some 7) rfl rfl Tryd.func96 (by kernel_rfl) rfl #[.string a0, .string a1] rfl (by (try simp only [List.map_toArray, List.map_cons, List.map_nil]); first | done | rfl | (simp only [List.length_drop, List.length_take]; rfl)) ?_; (with_reducible refine (stringslite_HasPrefix.calls a0 a1 t158 _ A3.out).mono ?_); rintro e w' ⟨rfl, ⟨nd, rfl⟩⟩; refine ⟨_, rfl, ?_⟩))
  go_ret
  exact ⟨by first | rfl | (simp; done) | (simp [*]; done), by repeat (first | exact Drawn0.refl _ | apply Drawn0.step)⟩

-- NOT PRINTED: function 41 (lex_first)

-- NOT PRINTED: function 14 (lex_Tokens)

/-- A state of type 91 at block g of W; what its slices lead to came in by w0. -/
def IsS91 (w0 W : World) (g : Nat) (f0 : List (S40)) (f1 : Int) (f2 : List (S40)) (f3 : Bool) : Prop := ∃ A0 c0, ∃ A2 c2, W.heap[g]? = some (.cells #[.slice A0 f0.length c0, .int .i64 f1, .slice A2 f2.length c2, .bool f3] 91 (0, 0)) ∧ w0.heap.size ≤ g ∧ Kd.C k40 w0 A0 f0.length f0 ∧ Kd.C k40 w0 A2 f2.length f2
theorem IsS91.grown {w0 W : World} {g : Nat} {f0 : List (S40)} {f1 : Int} {f2 : List (S40)} {f3 : Bool} {W1 : World} {row : Option Nat} (h : IsS91 w0 W g f0 f1 f2 f3) (hw : W.grownBy W1 row) (hne : some g ≠ row) : IsS91 w0 W1 g f0 f1 f2 f3 := by
  obtain ⟨A0, c0, A2, c2, hb, hg, hr0, hr2⟩ := h
  exact ⟨A0, c0, A2, c2, blk_grown hb hw hne, hg, hr0, hr2⟩
theorem IsS91.own_neN {w0 W : World} {g : Nat} {f0 : List (S40)} {f1 : Int} {f2 : List (S40)} {f3 : Bool} {α : Type} {d : Kd α} {e : Nat} {base : Nat} {ok : Nat → Prop} {v : Value} {xs : List α} (h : IsS91 w0 W g f0 f1 f2 f3) (ho : Kd.N d e W base ok v xs) (ht : e ≠ 91) : some g ≠ v.ownBlock := by
  obtain ⟨A0, c0, A2, c2, hb, hg, hr0, hr2⟩ := h
  exact Kd.N_ne ho hb ht
theorem IsS91.fresh {w0 W : World} {g : Nat} {f0 : List (S40)} {f1 : Int} {f2 : List (S40)} {f3 : Bool} (h : IsS91 w0 W g f0 f1 f2 f3) : ∀ k, W.heap.size ≤ k → k ≠ g := by
  obtain ⟨A0, c0, A2, c2, hb, hg, hr0, hr2⟩ := h
  exact Kd.freshB hb
theorem IsS91.kept {w0 W : World} {g : Nat} {f0 : List (S40)} {f1 : Int} {f2 : List (S40)} {f3 : Bool} {W1 : World} {S : Nat → Prop} (h : IsS91 w0 W g f0 f1 f2 f3) (hk : Kept W W1 S) (hne : ¬ S g) : IsS91 w0 W1 g f0 f1 f2 f3 := by
  obtain ⟨A0, c0, A2, c2, hb, hg, hr0, hr2⟩ := h
  exact ⟨A0, c0, A2, c2, blk_kept hb hk hne, hg, hr0, hr2⟩
theorem IsS91.below {w0 W : World} {g : Nat} {f0 : List (S40)} {f1 : Int} {f2 : List (S40)} {f3 : Bool} {W1 : World} (h : IsS91 w0 W g f0 f1 f2 f3) (hw : Below W.heap.size W W1) : IsS91 w0 W1 g f0 f1 f2 f3 := h.grown (grown_of_below hw none) (by simp)
theorem IsS91.alloc {w0 W : World} {g : Nat} {f0 : List (S40)} {f1 : Int} {f2 : List (S40)} {f3 : Bool} (h : IsS91 w0 W g f0 f1 f2 f3) (o : Obj) : IsS91 w0 (W.alloc o) g f0 f1 f2 f3 := h.below (below_alloc (Below.refl _ _) o)
theorem IsS91.drewN {w0 W : World} {g : Nat} {f0 : List (S40)} {f1 : Int} {f2 : List (S40)} {f3 : Bool} (h : IsS91 w0 W g f0 f1 f2 f3) (m : Nat) : IsS91 w0 (W.drewN m) g f0 f1 f2 f3 := h
theorem IsS91.drew {w0 W : World} {g : Nat} {f0 : List (S40)} {f1 : Int} {f2 : List (S40)} {f3 : Bool} (h : IsS91 w0 W g f0 f1 f2 f3) : IsS91 w0 W.drew g f0 f1 f2 f3 := h
theorem IsS91.at_ {w0 W : World} {g : Nat} {f0 : List (S40)} {f1 : Int} {f2 : List (S40)} {f3 : Bool} {w' : World} {m : Nat} (hq : W.drewN m = w') (h : IsS91 w0 W g f0 f1 f2 f3) : IsS91 w0 w' g f0 f1 f2 f3 := by subst hq; exact IsS91.drewN h m
theorem IsS91.apart {w0 W : World} {g : Nat} {f0 : List (S40)} {f1 : Int} {f2 : List (S40)} {f3 : Bool} {α : Type} {d : Kd α} {e : Nat} {base : Nat} {ok : Nat → Prop} {v : Value} {xs : List α} (h : IsS91 w0 W g f0 f1 f2 f3) (ho : d.R e W base ok v xs) (ht : ∀ q, q ∈ e :: d.E → q ≠ 91) : d.R e W base (fun k => ok k ∧ k ≠ g) v xs := by
  obtain ⟨A0, c0, A2, c2, hb, hg, hr0, hr2⟩ := h
  exact Kd.R_types ho hb ht
theorem IsS91.own_ne {w0 W : World} {g : Nat} {f0 : List (S40)} {f1 : Int} {f2 : List (S40)} {f3 : Bool} {α : Type} {d : Kd α} {e : Nat} {base : Nat} {ok : Nat → Prop} {v : Value} {xs : List α} (h : IsS91 w0 W g f0 f1 f2 f3) (ho : d.R e W base ok v xs) (ht : e ≠ 91) : some g ≠ v.ownBlock := by
  obtain ⟨A0, c0, A2, c2, hb, hg, hr0, hr2⟩ := h
  exact Kd.R_ne ho hb ht
theorem IsS91.apartQ {w0 W : World} {g : Nat} {f0 : List (S40)} {f1 : Int} {f2 : List (S40)} {f3 : Bool} {α : Type} {d : Kd α} {e : Nat} {base : Nat} {ok : Nat → Prop} {v : Value} {xs : List α} (h : IsS91 w0 W g f0 f1 f2 f3) (ho : d.Q e W base ok v xs) (ht : ∀ q, q ∈ e :: d.E → q ≠ 91) : d.Q e W base (fun k => ok k ∧ k ≠ g) v xs := by
  obtain ⟨A0, c0, A2, c2, hb, hg, hr0, hr2⟩ := h
  exact Kd.Q_types ho hb ht
theorem IsS91.own_neQ {w0 W : World} {g : Nat} {f0 : List (S40)} {f1 : Int} {f2 : List (S40)} {f3 : Bool} {α : Type} {d : Kd α} {e : Nat} {base : Nat} {ok : Nat → Prop} {v : Value} {xs : List α} (h : IsS91 w0 W g f0 f1 f2 f3) (ho : d.Q e W base ok v xs) (ht : e ≠ 91) : some g ≠ v.ownBlock := by
  obtain ⟨A0, c0, A2, c2, hb, hg, hr0, hr2⟩ := h
  exact Kd.Q_ne ho hb ht
theorem IsS91.apartS {w0 W : World} {g : Nat} {f0 : List (S40)} {f1 : Int} {f2 : List (S40)} {f3 : Bool} {α : Type} {d : Kd α} {e : Nat} {base : Nat} {ok : Nat → Prop} {v : Value} {xs : List α} (h : IsS91 w0 W g f0 f1 f2 f3) (ho : d.S e W base ok v xs) (ht : ∀ q, q ∈ e :: d.E → q ≠ 91) : d.S e W base (fun k => ok k ∧ k ≠ g) v xs := by
  obtain ⟨A0, c0, A2, c2, hb, hg, hr0, hr2⟩ := h
  exact Kd.S_types ho hb ht
theorem IsS91.own_neS {w0 W : World} {g : Nat} {f0 : List (S40)} {f1 : Int} {f2 : List (S40)} {f3 : Bool} {α : Type} {d : Kd α} {e : Nat} {base : Nat} {ok : Nat → Prop} {v : Value} {xs : List α} (h : IsS91 w0 W g f0 f1 f2 f3) (ho : d.S e W base ok v xs) (ht : e ≠ 91) : some g ≠ v.ownBlock := by
  obtain ⟨A0, c0, A2, c2, hb, hg, hr0, hr2⟩ := h
  exact Kd.S_ne ho hb ht
theorem IsS91.lt {w0 W : World} {g : Nat} {f0 : List (S40)} {f1 : Int} {f2 : List (S40)} {f3 : Bool} (h : IsS91 w0 W g f0 f1 f2 f3) : g < W.heap.size := by
  obtain ⟨A0, c0, A2, c2, hb, hg, hr0, hr2⟩ := h
  exact blk_lt hb
theorem IsS91.ge {w0 W : World} {g : Nat} {f0 : List (S40)} {f1 : Int} {f2 : List (S40)} {f3 : Bool} (h : IsS91 w0 W g f0 f1 f2 f3) : w0.heap.size ≤ g := by
  obtain ⟨A0, c0, A2, c2, hb, hg, hr0, hr2⟩ := h
  exact hg
theorem IsS91.ne_blk {w0 W : World} {g : Nat} {f0 : List (S40)} {f1 : Int} {f2 : List (S40)} {f3 : Bool} {a : Nat} {cs : Array Value} {t : TypeId} {fr : Nat × Nat} (h : IsS91 w0 W g f0 f1 f2 f3) (hb2 : W.heap[a]? = some (.cells cs t fr)) (ht : t ≠ 91) : g ≠ a := by
  obtain ⟨A0, c0, A2, c2, hb, hg, hr0, hr2⟩ := h
  rintro rfl
  rw [hb] at hb2
  injection hb2 with hb2
  injection hb2 with _ ht2
  exact ht ht2.symm
theorem IsS91.far {w0 W : World} {g : Nat} {f0 : List (S40)} {f1 : Int} {f2 : List (S40)} {f3 : Bool} {p : Addr} (h : IsS91 w0 W g f0 f1 f2 f3) (hne : g ≠ p.block) (u : Value) : IsS91 w0 (W.setCell p u) g f0 f1 f2 f3 := by
  obtain ⟨A0, c0, A2, c2, hb, hg, hr0, hr2⟩ := h
  exact ⟨A0, c0, A2, c2, blk_far hb hne u, hg, hr0, hr2⟩
theorem cellS91_0 {W : World} {g : Nat} {A0 : Option Addr} {c0 : Nat} {A2 : Option Addr} {c2 : Nat} {f0 : List (S40)} {f1 : Int} {f2 : List (S40)} {f3 : Bool} (h : W.heap[g]? = some (.cells #[.slice A0 f0.length c0, .int .i64 f1, .slice A2 f2.length c2, .bool f3] 91 (0, 0))) : W.cell? ⟨g, 0, none⟩ = some (.slice A0 f0.length c0) := (blk_cell h 0).trans rfl
theorem cellS91_1 {W : World} {g : Nat} {A0 : Option Addr} {c0 : Nat} {A2 : Option Addr} {c2 : Nat} {f0 : List (S40)} {f1 : Int} {f2 : List (S40)} {f3 : Bool} (h : W.heap[g]? = some (.cells #[.slice A0 f0.length c0, .int .i64 f1, .slice A2 f2.length c2, .bool f3] 91 (0, 0))) : W.cell? ⟨g, 1, none⟩ = some (.int .i64 f1) := (blk_cell h 1).trans rfl
theorem IsS91.set_1 {w0 W : World} {g : Nat} {f0 : List (S40)} {f1 : Int} {f2 : List (S40)} {f3 : Bool} (h : IsS91 w0 W g f0 f1 f2 f3) (x : Int) : IsS91 w0 (W.setCell ⟨g, 1, none⟩ (.int .i64 x)) g f0 x f2 f3 := by
  obtain ⟨A0, c0, A2, c2, hb, hg, hr0, hr2⟩ := h
  exact ⟨A0, c0, A2, c2, by simpa using blk_set hb 1 (.int .i64 x), hg, hr0, hr2⟩
theorem cellS91_2 {W : World} {g : Nat} {A0 : Option Addr} {c0 : Nat} {A2 : Option Addr} {c2 : Nat} {f0 : List (S40)} {f1 : Int} {f2 : List (S40)} {f3 : Bool} (h : W.heap[g]? = some (.cells #[.slice A0 f0.length c0, .int .i64 f1, .slice A2 f2.length c2, .bool f3] 91 (0, 0))) : W.cell? ⟨g, 2, none⟩ = some (.slice A2 f2.length c2) := (blk_cell h 2).trans rfl
theorem cellS91_3 {W : World} {g : Nat} {A0 : Option Addr} {c0 : Nat} {A2 : Option Addr} {c2 : Nat} {f0 : List (S40)} {f1 : Int} {f2 : List (S40)} {f3 : Bool} (h : W.heap[g]? = some (.cells #[.slice A0 f0.length c0, .int .i64 f1, .slice A2 f2.length c2, .bool f3] 91 (0, 0))) : W.cell? ⟨g, 3, none⟩ = some (.bool f3) := (blk_cell h 3).trans rfl
theorem IsS91.set_3 {w0 W : World} {g : Nat} {f0 : List (S40)} {f1 : Int} {f2 : List (S40)} {f3 : Bool} (h : IsS91 w0 W g f0 f1 f2 f3) (x : Bool) : IsS91 w0 (W.setCell ⟨g, 3, none⟩ (.bool x)) g f0 f1 f2 x := by
  obtain ⟨A0, c0, A2, c2, hb, hg, hr0, hr2⟩ := h
  exact ⟨A0, c0, A2, c2, by simpa using blk_set hb 3 (.bool x), hg, hr0, hr2⟩
theorem IsS91.new (w0 W : World) (A0 : Option Addr) (c0 : Nat) (A2 : Option Addr) (c2 : Nat) (f0 : List (S40)) (f1 : Int) (f2 : List (S40)) (f3 : Bool) (hB : Below w0.heap.size w0 W) (hr0 : Kd.C k40 w0 A0 f0.length f0) (hr2 : Kd.C k40 w0 A2 f2.length f2) : IsS91 w0 (W.alloc (.cells #[.slice A0 f0.length c0, .int .i64 f1, .slice A2 f2.length c2, .bool f3] 91)) W.heap.size f0 f1 f2 f3 := ⟨A0, c0, A2, c2, by simpa using heap_alloc_new W _, hB.size, hr0, hr2⟩

/-! ### parse_reader_is: function 101 -/
mutual
def parse_reader_is.j0 : Nat → List Int → Bool → List (S40) → Int → List (S40) → Bool → Option (Int × Bool × Int × Bool)
  | 0, _, _, _, _, _, _ => none
  | k + 1, x1, x23, x1000, x1001, x1002, x1003 => if x23 = true then (some (0, false, x1001, x1003)) else (parse_reader_is.l0 k x1 (x1.length : Int) 0 x1000 x1001 x1002 x1003)
def parse_reader_is.l0 : Nat → List Int → Int → Int → List (S40) → Int → List (S40) → Bool → Option (Int × Bool × Int × Bool)
  | 0, _, _, _, _, _, _, _ => none
  | k + 1, x24, x25, x26, x1000, x1001, x1002, x1003 => if x26 < x25 then (if 0 ≤ x26 then (if x26 < (x24.length : Int) then (if 0 ≤ x1001 then (if x1001 < (x1000.length : Int) then (if ((rd_T40 x1000 x1001).f0) = (rd x24 x26) then (some (rd x24 x26, true, wrap64 (x1001 + 1), x1003)) else (parse_reader_is.l0 k x24 x25 (wrap64 (x26 + 1)) x1000 x1001 x1002 x1003)) else (none)) else (none)) else (none)) else (none)) else (some (0, false, x1001, x1003))
end
def parse_reader_is.f (k : Nat) (s0_0 : List (S40)) (s0_1 : Int) (s0_2 : List (S40)) (s0_3 : Bool) (l1 : List Int) : Option (Int × Bool × Int × Bool) := if s0_3 = true then (parse_reader_is.j0 k l1 true s0_0 s0_1 s0_2 s0_3) else (parse_reader_is.j0 k l1 (decide (s0_1 ≥ (s0_0.length : Int))) s0_0 s0_1 s0_2 s0_3)
theorem parse_reader_is.mono_l : ∀ k, (∀ y0 y1 y2 y3 y4 y5, LeO (parse_reader_is.j0 k y0 y1 y2 y3 y4 y5) (parse_reader_is.j0 (k + 1) y0 y1 y2 y3 y4 y5)) ∧ (∀ y0 y1 y2 y3 y4 y5 y6, LeO (parse_reader_is.l0 k y0 y1 y2 y3 y4 y5 y6) (parse_reader_is.l0 (k + 1) y0 y1 y2 y3 y4 y5 y6))
  | 0 => ⟨fun _ _ _ _ _ _ r h => by simp [parse_reader_is.j0] at h, fun _ _ _ _ _ _ _ r h => by simp [parse_reader_is.l0] at h⟩
  | k + 1 => by
    obtain ⟨ih0, ih1⟩ := parse_reader_is.mono_l k
    refine ⟨?_, ?_⟩
    · intro y0 y1 y2 y3 y4 y5
      unfold parse_reader_is.j0
      repeat' first
      | (with_reducible exact ih0 _ _ _ _ _ _)
      | (with_reducible exact ih1 _ _ _ _ _ _ _)
      | (with_reducible exact LeO.refl _)
      | (with_reducible exact LeO.none _)
      | (with_reducible refine LeO.ite ?_ ?_)
      | (with_reducible refine LeO.bind ?_ (fun _ => ?_))
      | exact ih0 _ _ _ _ _ _
      | exact ih1 _ _ _ _ _ _ _
      | exact LeO.none _
      | refine LeO.ite ?_ ?_
      | refine LeO.bind ?_ (fun _ => ?_)
    · intro y0 y1 y2 y3 y4 y5 y6
      unfold parse_reader_is.l0
      repeat' first
      | (with_reducible exact ih0 _ _ _ _ _ _)
      | (with_reducible exact ih1 _ _ _ _ _ _ _)
      | (with_reducible exact LeO.refl _)
      | (with_reducible exact LeO.none _)
      | (with_reducible refine LeO.ite ?_ ?_)
      | (with_reducible refine LeO.bind ?_ (fun _ => ?_))
      | exact ih0 _ _ _ _ _ _
      | exact ih1 _ _ _ _ _ _ _
      | exact LeO.none _
      | refine LeO.ite ?_ ?_
      | refine LeO.bind ?_ (fun _ => ?_)
theorem parse_reader_is.mono : ∀ a0 a1 a2 a3 a4 k, LeO (parse_reader_is.f k a0 a1 a2 a3 a4) (parse_reader_is.f (k + 1) a0 a1 a2 a3 a4) := by
  intro a0 a1 a2 a3 a4 k
  obtain ⟨ih0, ih1⟩ := parse_reader_is.mono_l k
  unfold parse_reader_is.f
  repeat' first
      | (with_reducible exact ih0 _ _ _ _ _ _)
      | (with_reducible exact ih1 _ _ _ _ _ _ _)
      | (with_reducible exact LeO.refl _)
      | (with_reducible exact LeO.none _)
      | (with_reducible refine LeO.ite ?_ ?_)
      | (with_reducible refine LeO.bind ?_ (fun _ => ?_))
      | exact ih0 _ _ _ _ _ _
      | exact ih1 _ _ _ _ _ _ _
      | exact LeO.none _
      | refine LeO.ite ?_ ?_
      | refine LeO.bind ?_ (fun _ => ?_)
set_option maxHeartbeats 8000000 in
set_option maxRecDepth 100000 in
theorem parse_reader_is.calls (k : Nat) (g : Nat) (s0_0 : List (S40)) (s0_1 : Int) (s0_2 : List (S40)) (s0_3 : Bool) (A1 : Option Addr) (c1 : Nat) (l1 : List Int) (r1 : Int) (r2 : Bool) (r3 : Int) (r4 : Bool) (w0 w : World) (hI : IsS91 w0 w g s0_0 s0_1 s0_2 s0_3) (hB : Below w0.heap.size w0 w) (hr1 : Kd.C (Kd.int .i64) w A1 l1.length l1) (hc1 : l1.length ≤ c1) (hf1 : ∀ ad, A1 = some ad → 0 < l1.length → ad.block ≠ g) (h : parse_reader_is.f k s0_0 s0_1 s0_2 s0_3 l1 = some (r1, r2, r3, r4)) :
    Calls Tryd.prog 101 #[.pointer (some ⟨g, 0, none⟩), .slice A1 l1.length c1] w fun e w' => e = .returned (.tuple #[.int .i64 r1, .bool r2]) ∧ IsS91 w0 w' g s0_0 r3 s0_2 r4 ∧ Below w0.heap.size w0 w' ∧ KeepBut w w' g none := by
  have HR1 := Aside0.mk hr1
  have HC1 := Aside0.mk hc1
  clear hr1 hc1
  have HI0 := Aside0.mk hI
  have HK := Aside0.mk (KeepBut.refl w g none)
  have HL := Aside0.mk hB.size
  clear hI
  have HW0 := Aside0.mk hB.size
  have HB := Aside0.mk hB
  clear hB
  have H : (if s0_3 = true then (parse_reader_is.j0 k l1 true s0_0 s0_1 s0_2 s0_3) else (parse_reader_is.j0 k l1 (decide (s0_1 ≥ (s0_0.length : Int))) s0_0 s0_1 s0_2 s0_3)) = some (r1, r2, r3, r4) := h
  clear h
  have HC3 := Aside0.mk H
  clear H
  go_enter Tryd.func101, Tryd.ntmps101
  go_upto_region 1 with (fail)
  repeat (go_quiet (fail); go_upto_region 1 with (fail))
  go_cut [23] (fun v23 wc => ∃ (kq : Nat) (x23_2 : Bool), v23 = .bool x23_2 ∧ Aside0 (parse_reader_is.j0 kq l1 x23_2 s0_0 s0_1 s0_2 s0_3 = some (r1, r2, r3, r4)) ∧ Aside0 (kq ≤ k) ∧ Aside0 (IsS91 w0 wc g s0_0 s0_1 s0_2 s0_3) ∧ Aside0 (KeepBut w wc g none) ∧ Aside0 (Below w0.heap.size w0 wc))
  case first =>
    have H := HC3.out
    clear HC3
    by_cases c4 : s0_3 = true
    · subst c4
      have H1 : (parse_reader_is.j0 k l1 true s0_0 s0_1 s0_2 true) = some (r1, r2, r3, r4) := by rw [if_pos rfl] at H; exact H
      clear H
      have H := H1
      clear H1
      have H' := Aside0.mk H
      clear H
      obtain ⟨ASz5_0, cSz5_0, ASz5_2, cSz5_2, HGz5, hgz5, HSz5_0, HSz5_2⟩ := HI0.out
      have hcz5_0 := cellS91_0 HGz5
      have hcz5_1 := cellS91_1 HGz5
      have hcz5_2 := cellS91_2 HGz5
      have hcz5_3 := cellS91_3 HGz5
      have hfz5_1 := blk_frozen HGz5 1
      have hfz5_3 := blk_frozen HGz5 3
      clear HGz5 hgz5
      go_wp2
      repeat (go_quiet (fail); try go_wp2)
      go_meet
      case rel => exact ⟨_, (true), (by first | rfl | (simp; done) | (simp [*]; done)), H', ⟨by first | omega | exact Nat.le_refl _⟩, ⟨by repeat (first | (with_reducible first | exact HI0.out | apply IsS91.alloc | apply IsS91.drewN | apply IsS91.drew | apply IsS91.set_1 | apply IsS91.set_3) | exact HI0.out)⟩, ⟨by repeat (first | (with_reducible first | exact HK.out | apply KeepBut.set_ | apply keep_drewN | apply keep_drew | apply keep_alloc) | exact HK.out)⟩, ⟨by repeat (first | (with_reducible first | exact HB.out | apply below_alloc | apply pw_below_drewN | apply below_drew1 | refine below_set ?_ (IsS91.ge HI0.out)) | exact HB.out)⟩⟩
    · replace c4 := Bool.eq_false_iff.mpr c4
      subst c4
      have H1 : (parse_reader_is.j0 k l1 (decide (s0_1 ≥ (s0_0.length : Int))) s0_0 s0_1 s0_2 false) = some (r1, r2, r3, r4) := by rw [if_neg (show ¬ (false = true) by decide)] at H; exact H
      clear H
      have H := H1
      clear H1
      have H' := Aside0.mk H
      clear H
      obtain ⟨ASz6_0, cSz6_0, ASz6_2, cSz6_2, HGz6, hgz6, HSz6_0, HSz6_2⟩ := HI0.out
      have hcz6_0 := cellS91_0 HGz6
      have hcz6_1 := cellS91_1 HGz6
      have hcz6_2 := cellS91_2 HGz6
      have hcz6_3 := cellS91_3 HGz6
      have hfz6_1 := blk_frozen HGz6 1
      have hfz6_3 := blk_frozen HGz6 3
      clear HGz6 hgz6
      go_wp2
      repeat (go_quiet (fail); try go_wp2)
      go_meet
      case rel => exact ⟨_, (decide (s0_1 ≥ (s0_0.length : Int))), (by first | rfl | (simp; done) | (simp [*]; done)), H', ⟨by first | omega | exact Nat.le_refl _⟩, ⟨by repeat (first | (with_reducible first | exact HI0.out | apply IsS91.alloc | apply IsS91.drewN | apply IsS91.drew | apply IsS91.set_1 | apply IsS91.set_3) | exact HI0.out)⟩, ⟨by repeat (first | (with_reducible first | exact HK.out | apply KeepBut.set_ | apply keep_drewN | apply keep_drew | apply keep_alloc) | exact HK.out)⟩, ⟨by repeat (first | (with_reducible first | exact HB.out | apply below_alloc | apply pw_below_drewN | apply below_drew1 | refine below_set ?_ (IsS91.ge HI0.out)) | exact HB.out)⟩⟩
  case rest =>
    clear HC3
    try clear c1
    try clear p2
    try clear c4
    try clear hcz5_0
    try clear hcz5_1
    try clear hcz5_2
    try clear hcz5_3
    try clear hcz6_0
    try clear hcz6_1
    try clear hcz6_2
    try clear hcz6_3
    try clear hfz5_1
    try clear hfz5_3
    try clear hfz6_1
    try clear hfz6_3
    obtain ⟨kq, x23_2, rfl, HA, HJ2, HI0, HK, HB⟩ := hcut
    cases kq with
    | zero => exact absurd HA.out (by simp [parse_reader_is.j0])
    | succ kj2 =>
      have H := HA.out
      clear HA
      simp only [parse_reader_is.j0] at H
      by_cases c7 : x23_2 = true
      · subst c7
        have H1 : (some (0, false, s0_1, s0_3)) = some (r1, r2, r3, r4) := by rw [if_pos rfl] at H; exact H
        clear H
        have H := H1
        clear H1
        simp only [Option.some.injEq, Prod.mk.injEq] at H
        obtain ⟨rfl, rfl, rfl, rfl⟩ := H
        go_wp2
        repeat (go_quiet (fail); try go_wp2)
        go_ret2
        exact ⟨by first | rfl | (simp [errW_none, errW_some] <;> rfl) | (simp [*, errW_none, errW_some] <;> rfl), by repeat (first | (with_reducible first | exact HI0.out | apply IsS91.alloc | apply IsS91.drewN | apply IsS91.drew | apply IsS91.set_1 | apply IsS91.set_3) | exact HI0.out), by repeat (first | (with_reducible first | exact HB.out | apply below_alloc | apply pw_below_drewN | apply below_drew1 | refine below_set ?_ (IsS91.ge HI0.out)) | exact HB.out), by repeat (first | (with_reducible first | exact HK.out | apply KeepBut.set_ | apply keep_drewN | apply keep_drew | apply keep_alloc) | exact HK.out)⟩
      · replace c7 := Bool.eq_false_iff.mpr c7
        subst c7
        have H1 : (parse_reader_is.l0 kj2 l1 (l1.length : Int) 0 s0_0 s0_1 s0_2 s0_3) = some (r1, r2, r3, r4) := by rw [if_neg (show ¬ (false = true) by decide)] at H; exact H
        clear H
        have H := H1
        clear H1
        have H' := Aside0.mk H
        clear H
        go_wp2
        repeat (go_quiet (fail); try go_wp2)
        go_loopg [26] kj2 (fun kq v26 w' => ∃ (x26_2 : Int) (x1001_2 : Int), v26 = .int .i64 x26_2 ∧ Aside0 (parse_reader_is.l0 kq l1 (l1.length : Int) x26_2 s0_0 x1001_2 s0_2 s0_3 = some (r1, r2, r3, r4)) ∧ Aside0 (kq ≤ kj2) ∧ Aside0 (IsS91 w0 w' g s0_0 x1001_2 s0_2 s0_3) ∧ Aside0 (KeepBut w w' g none) ∧ Aside0 (Below w0.heap.size w0 w'))
        case atStart => exact ⟨(0), (s0_1), (by first | rfl | (simp; done) | (simp [*]; done)), H', ⟨Nat.le_refl _⟩, ⟨by repeat (first | (with_reducible first | exact HI0.out | apply IsS91.alloc | apply IsS91.drewN | apply IsS91.drew | apply IsS91.set_1 | apply IsS91.set_3) | exact HI0.out)⟩, ⟨by repeat (first | (with_reducible first | exact HK.out | apply KeepBut.set_ | apply keep_drewN | apply keep_drew | apply keep_alloc) | exact HK.out)⟩, ⟨by repeat (first | (with_reducible first | exact HB.out | apply below_alloc | apply pw_below_drewN | apply below_drew1 | refine below_set ?_ (IsS91.ge HI0.out)) | exact HB.out)⟩⟩
        case round =>
          clear H'
          try clear c1
          try clear p2
          try clear c4
          try clear c7
          try clear hcz5_0
          try clear hcz5_1
          try clear hcz5_2
          try clear hcz5_3
          try clear hcz6_0
          try clear hcz6_1
          try clear hcz6_2
          try clear hcz6_3
          try clear hfz5_1
          try clear hfz5_3
          try clear hfz6_1
          try clear hfz6_3
          try clear p2
          obtain ⟨x26_2, x1001_2, rfl, HA, HK2, HI0, HK, HB⟩ := hrel
          cases gk with
          | zero => exact absurd HA.out (by simp [parse_reader_is.l0])
          | succ k2 =>
            have H := HA.out
            clear HA
            simp only [parse_reader_is.l0] at H
            by_cases c8 : x26_2 < (l1.length : Int)
            · rw [if_pos c8] at H
              have c8b0 : decide (x26_2 < (l1.length : Int)) = true := decide_eq_true c8
              clear c8
              by_cases c9 : 0 ≤ x26_2
              · rw [if_pos c9] at H
                have c9b0 : decide (0 ≤ x26_2) = true := decide_eq_true c9
                clear c9
                by_cases c10 : x26_2 < (l1.length : Int)
                · rw [if_pos c10] at H
                  have c10b0 : decide (x26_2 < (l1.length : Int)) = true := decide_eq_true c10
                  clear c10
                  by_cases c11 : 0 ≤ x1001_2
                  · rw [if_pos c11] at H
                    have c11b0 : decide (0 ≤ x1001_2) = true := decide_eq_true c11
                    clear c11
                    by_cases c12 : x1001_2 < (s0_0.length : Int)
                    · rw [if_pos c12] at H
                      have c12b0 : decide (x1001_2 < (s0_0.length : Int)) = true := decide_eq_true c12
                      clear c12
                      by_cases c13 : ((rd_T40 s0_0 x1001_2).f0) = (rd l1 x26_2)
                      · rw [if_pos c13] at H
                        have c13b0 : (((rd_T40 s0_0 x1001_2).f0) == (rd l1 x26_2)) = true := beq_iff_eq.mpr c13
                        have c13b1 : (((rd_T40 s0_0 x1001_2).f0) != (rd l1 x26_2)) = false := bne_eq_false_iff_eq.mpr c13
                        clear c13
                        simp only [Option.some.injEq, Prod.mk.injEq] at H
                        obtain ⟨rfl, rfl, rfl, rfl⟩ := H
                        have p160 : 0 ≤ (x26_2 : Int) := of_decide_eq_true (by first | (with_reducible assumption) | assumption)
                        have q160 : x26_2 < (l1.length : Int) := of_decide_eq_true (by first | (with_reducible assumption) | assumption)
                        obtain ⟨ad160, e160, hx160_0⟩ := Kd.at_int HR1.out x26_2 p160 q160
                        cases e160
                        replace hx160_0 := keep_cell HK.out hx160_0 (by first | (rw [add_block]; exact hf1 _ rfl (by omega)) | exact hf1 _ rfl (by omega) | exact hf1 ad160 rfl (by omega))
                        replace p160 := eq_true p160
                        replace q160 := eq_true q160
                        obtain ⟨ASz14_0, cSz14_0, ASz14_2, cSz14_2, HGz14, hgz14, HSz14_0, HSz14_2⟩ := HI0.out
                        have hcz14_0 := cellS91_0 HGz14
                        have hcz14_1 := cellS91_1 HGz14
                        have hcz14_2 := cellS91_2 HGz14
                        have hcz14_3 := cellS91_3 HGz14
                        have hfz14_1 := blk_frozen HGz14 1
                        have hfz14_3 := blk_frozen HGz14 3
                        clear HGz14 hgz14
                        have p161 : 0 ≤ (x1001_2 : Int) := of_decide_eq_true (by first | (with_reducible assumption) | assumption)
                        have q161 : x1001_2 < (s0_0.length : Int) := of_decide_eq_true (by first | (with_reducible assumption) | assumption)
                        obtain ⟨ad161, e161, hx161_0, hx161_1, hx161_2⟩ := at_T40 HSz14_0 x1001_2 p161 q161
                        cases e161
                        replace hx161_0 := pw_cell_below HB.out hx161_0
                        replace hx161_1 := pw_cell_below HB.out hx161_1
                        replace hx161_2 := pw_cell_below HB.out hx161_2
                        replace p161 := eq_true p161
                        replace q161 := eq_true q161
                        go_wp2
                        repeat (go_quiet (fail); try go_wp2)
                        go_ret2
                        exact ⟨by first | rfl | (simp [errW_none, errW_some] <;> rfl) | (simp [*, errW_none, errW_some] <;> rfl), by repeat (first | (with_reducible first | exact HI0.out | apply IsS91.alloc | apply IsS91.drewN | apply IsS91.drew | apply IsS91.set_1 | apply IsS91.set_3) | exact HI0.out), by repeat (first | (with_reducible first | exact HB.out | apply below_alloc | apply pw_below_drewN | apply below_drew1 | refine below_set ?_ (IsS91.ge HI0.out)) | exact HB.out), by repeat (first | (with_reducible first | exact HK.out | apply KeepBut.set_ | apply keep_drewN | apply keep_drew | apply keep_alloc) | exact HK.out)⟩
                      · rw [if_neg c13] at H
                        have c13b0 : (((rd_T40 s0_0 x1001_2).f0) == (rd l1 x26_2)) = false := beq_eq_false_iff_ne.mpr c13
                        have c13b1 : (((rd_T40 s0_0 x1001_2).f0) != (rd l1 x26_2)) = true := bne_iff_ne.mpr c13
                        have H' := Aside0.mk H
                        clear H
                        have p160 : 0 ≤ (x26_2 : Int) := of_decide_eq_true (by first | (with_reducible assumption) | assumption)
                        have q160 : x26_2 < (l1.length : Int) := of_decide_eq_true (by first | (with_reducible assumption) | assumption)
                        obtain ⟨ad160, e160, hx160_0⟩ := Kd.at_int HR1.out x26_2 p160 q160
                        cases e160
                        replace hx160_0 := keep_cell HK.out hx160_0 (by first | (rw [add_block]; exact hf1 _ rfl (by omega)) | exact hf1 _ rfl (by omega) | exact hf1 ad160 rfl (by omega))
                        replace p160 := eq_true p160
                        replace q160 := eq_true q160
                        obtain ⟨ASz15_0, cSz15_0, ASz15_2, cSz15_2, HGz15, hgz15, HSz15_0, HSz15_2⟩ := HI0.out
                        have hcz15_0 := cellS91_0 HGz15
                        have hcz15_1 := cellS91_1 HGz15
                        have hcz15_2 := cellS91_2 HGz15
                        have hcz15_3 := cellS91_3 HGz15
                        have hfz15_1 := blk_frozen HGz15 1
                        have hfz15_3 := blk_frozen HGz15 3
                        clear HGz15 hgz15
                        have p161 : 0 ≤ (x1001_2 : Int) := of_decide_eq_true (by first | (with_reducible assumption) | assumption)
                        have q161 : x1001_2 < (s0_0.length : Int) := of_decide_eq_true (by first | (with_reducible assumption) | assumption)
                        obtain ⟨ad161, e161, hx161_0, hx161_1, hx161_2⟩ := at_T40 HSz15_0 x1001_2 p161 q161
                        cases e161
                        replace hx161_0 := pw_cell_below HB.out hx161_0
                        replace hx161_1 := pw_cell_below HB.out hx161_1
                        replace hx161_2 := pw_cell_below HB.out hx161_2
                        replace p161 := eq_true p161
                        replace q161 := eq_true q161
                        go_wp2
                        repeat (go_quiet (fail); try go_wp2)
                        go_roundg k2
                        case measure => have := HJ2.out; have := HK2.out; omega
                        case rel => exact ⟨(wrap64 (x26_2 + 1)), (x1001_2), (by first | rfl | (simp; done) | (simp [*]; done)), H', ⟨by have := HJ2.out; have := HK2.out; omega⟩, ⟨by repeat (first | (with_reducible first | exact HI0.out | apply IsS91.alloc | apply IsS91.drewN | apply IsS91.drew | apply IsS91.set_1 | apply IsS91.set_3) | exact HI0.out)⟩, ⟨by repeat (first | (with_reducible first | exact HK.out | apply KeepBut.set_ | apply keep_drewN | apply keep_drew | apply keep_alloc) | exact HK.out)⟩, ⟨by repeat (first | (with_reducible first | exact HB.out | apply below_alloc | apply pw_below_drewN | apply below_drew1 | refine below_set ?_ (IsS91.ge HI0.out)) | exact HB.out)⟩⟩
                    · rw [if_neg c12] at H
                      exact absurd H (by simp)
                  · rw [if_neg c11] at H
                    exact absurd H (by simp)
                · rw [if_neg c10] at H
                  exact absurd H (by simp)
              · rw [if_neg c9] at H
                exact absurd H (by simp)
            · rw [if_neg c8] at H
              have c8b0 : decide (x26_2 < (l1.length : Int)) = false := decide_eq_false c8
              clear c8
              simp only [Option.some.injEq, Prod.mk.injEq] at H
              obtain ⟨rfl, rfl, rfl, rfl⟩ := H
              go_wp2
              repeat (go_quiet (fail); try go_wp2)
              go_ret2
              exact ⟨by first | rfl | (simp [errW_none, errW_some] <;> rfl) | (simp [*, errW_none, errW_some] <;> rfl), by repeat (first | (with_reducible first | exact HI0.out | apply IsS91.alloc | apply IsS91.drewN | apply IsS91.drew | apply IsS91.set_1 | apply IsS91.set_3) | exact HI0.out), by repeat (first | (with_reducible first | exact HB.out | apply below_alloc | apply pw_below_drewN | apply below_drew1 | refine below_set ?_ (IsS91.ge HI0.out)) | exact HB.out), by repeat (first | (with_reducible first | exact HK.out | apply KeepBut.set_ | apply keep_drewN | apply keep_drew | apply keep_alloc) | exact HK.out)⟩

-- NOT PRINTED: function 102 (parse_reader_put)

-- NOT PRINTED: function 78 (parse_reader_row)

-- NOT PRINTED: function 145 (parse_reader_signed)

-- NOT PRINTED: function 141 (parse_reader_product)

-- NOT PRINTED: function 122 (parse_reader_sum)

-- NOT PRINTED: function 103 (parse_reader_not)

-- NOT PRINTED: function 79 (parse_reader_and)

-- NOT PRINTED: function 50 (parse_reader_or)

-- NOT PRINTED: function 21 (parse_Parse)

-- NOT PRINTED: function 32 (expr_Eval)

-- NOT PRINTED: function 34 (expr_Of)

-- NOT PRINTED: function 28 (spinetlaw04_up)
end Go.Proofs.YtldcplgfkcionaaDoor.PAll
