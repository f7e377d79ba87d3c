/- What the lexer's functions do. -/
import Derived.Test.YtldcplgfkcionaaDoorErr
import Derived.Test.YtldcplgfkcionaaDoorLexp
set_option linter.unusedVariables false
set_option linter.unusedSimpArgs false
namespace Go.Proofs.YtldcplgfkcionaaDoor
open Go.RowKit PX
theorem digit_any (c : UInt8) (w : World) : Calls Tryd.prog 63 #[.int .u8 (c.toNat : Int)] w fun e w' => e = .returned (.bool (isDigit c)) ∧ w = w' := by
  have e : isDigit c = (decide ((48 : Int) ≤ (c.toNat : Int)) && decide ((c.toNat : Int) ≤ 57)) := by
    unfold isDigit; rw [Bool.eq_iff_iff]; simp; omega
  by_cases h : (48 : Int) ≤ (c.toNat : Int)
  · rw [decide_eq_true h] at e
    have E := Lib.hid e
    clear e
    go_enter Tryd.func63, Tryd.ntmps63
    go_wp2
    go_ret
    exact ⟨ret_bool (by rw [E.out]; simp), rfl⟩
  · rw [decide_eq_false h] at e
    have E := Lib.hid e
    clear e
    go_enter Tryd.func63, Tryd.ntmps63
    go_wp2
    go_ret
    exact ⟨ret_bool (by rw [E.out]; simp), rfl⟩
theorem letter_any (c : UInt8) (w : World) : Calls Tryd.prog 65 #[.int .u8 (c.toNat : Int)] w fun e w' => e = .returned (.bool (isLetter c)) ∧ w = w' := by
  have e : isLetter c = (decide ((97 : Int) ≤ (c.toNat : Int)) && decide ((c.toNat : Int) ≤ 122)) := by
    unfold isLetter; rw [Bool.eq_iff_iff]; simp; omega
  by_cases h : (97 : Int) ≤ (c.toNat : Int)
  · rw [decide_eq_true h] at e
    have E := Lib.hid e
    clear e
    go_enter Tryd.func65, Tryd.ntmps65
    go_wp2
    go_ret
    exact ⟨ret_bool (by rw [E.out]; simp), rfl⟩
  · rw [decide_eq_false h] at e
    have E := Lib.hid e
    clear e
    go_enter Tryd.func65, Tryd.ntmps65
    go_wp2
    go_ret
    exact ⟨ret_bool (by rw [E.out]; simp), rfl⟩
theorem takeWhile_drop {α : Type} (p : α → Bool) (l : List α) (k : Nat) (hk : k ≤ l.length) (h : ∀ i (hi : i < k), p (l[i]'(by omega)) = true) : (l.takeWhile p).length = k + ((l.drop k).takeWhile p).length := by
  induction l generalizing k with
  | nil => simp at hk; subst hk; simp
  | cons a l ih =>
    cases k with
    | zero => simp
    | succ k =>
      have h0 := h 0 (by omega)
      simp only [List.getElem_cons_zero] at h0
      have := ih k (by simpa using hk) (fun i hi => by have := h (i + 1) (by omega); simpa using this)
      simp [List.takeWhile_cons, h0, this]; omega
theorem takeWhile_stop {α : Type} (p : α → Bool) (l : List α) (k : Nat) (hk : k < l.length) (h : ∀ i (hi : i < k), p (l[i]'(by omega)) = true) (hp : p l[k] = false) : (l.takeWhile p).length = k := by
  rw [takeWhile_drop p l k (by omega) h, List.drop_eq_getElem_cons hk, List.takeWhile_cons, hp]; simp
theorem takeWhile_all {α : Type} (p : α → Bool) (l : List α) (h : ∀ i (hi : i < l.length), p l[i] = true) : (l.takeWhile p).length = l.length := by
  rw [takeWhile_drop p l l.length (by omega) h]; simp
set_option maxHeartbeats 1000000 in
theorem run_digit (s : ByteArray) (hs : s.size ≤ 9223372036854775806) (w : World) : Calls Tryd.prog 62 #[.string s, .func (.func 63) #[] #[]] w fun e w' => e = .returned (.int .i64 ((s.data.toList.takeWhile isDigit).length : Nat)) ∧ w = w' := by
  have hsz : s.data.toList.length = s.size := by simp
  have HSZ := Lib.hid hsz
  clear hsz
  go_enter Tryd.func62, Tryd.ntmps62
  go_wp2
  go_loop [5] (fun i => ∃ k : Nat, k ≤ s.size ∧ i = .int .i64 k ∧ Hid (∀ i (_ : i < k) (hj : i < s.data.toList.length), isDigit s.data.toList[i] = true)) (fun i => s.size - (intOf i).toNat)
  case atStart => exact ⟨0, by omega, rfl, Lib.hid (fun i hi => by omega)⟩
  case round =>
    obtain ⟨k, hk, rfl, H⟩ := hrel
    by_cases hlt : k < s.size
    · cases hd : isDigit s[k]
      · have HD := Lib.hid hd
        clear hd
        go_wp2_with fail
        refine (digit_any s[k] _).mono ?_
        rw [HD.out]
        rintro e w' ⟨rfl, rfl⟩
        go_wp2
        go_ret
        exact ⟨ret_int (by rw [takeWhile_stop isDigit s.data.toList k (by rw [HSZ.out]; exact hlt) (fun i hi => H.out i hi _) HD.out]), rfl⟩
      · have HD := Lib.hid hd
        clear hd
        go_wp2_with fail
        refine (digit_any s[k] _).mono ?_
        rw [HD.out]
        rintro e w' ⟨rfl, rfl⟩
        go_wp2
        go_round
        case rel =>
          refine ⟨k + 1, by omega, by go_num, Lib.hid (fun i hi hj => ?_)⟩
          rcases Nat.lt_or_ge i k with h | h
          · exact H.out i h hj
          · obtain rfl : i = k := by omega
            exact HD.out
        case measure => simp [intOf]; omega
    · obtain rfl : k = s.size := by omega
      go_wp2
      go_ret
      exact ⟨ret_int (by rw [takeWhile_all isDigit s.data.toList (fun i hi => H.out i (by rw [← HSZ.out]; exact hi) hi), HSZ.out]), rfl⟩
set_option maxHeartbeats 1000000 in
theorem run_letter (s : ByteArray) (hs : s.size ≤ 9223372036854775806) (w : World) : Calls Tryd.prog 62 #[.string s, .func (.func 65) #[] #[]] w fun e w' => e = .returned (.int .i64 ((s.data.toList.takeWhile isLetter).length : Nat)) ∧ w = w' := by
  have hsz : s.data.toList.length = s.size := by simp
  have HSZ := Lib.hid hsz
  clear hsz
  go_enter Tryd.func62, Tryd.ntmps62
  go_wp2
  go_loop [5] (fun i => ∃ k : Nat, k ≤ s.size ∧ i = .int .i64 k ∧ Hid (∀ i (_ : i < k) (hj : i < s.data.toList.length), isLetter s.data.toList[i] = true)) (fun i => s.size - (intOf i).toNat)
  case atStart => exact ⟨0, by omega, rfl, Lib.hid (fun i hi => by omega)⟩
  case round =>
    obtain ⟨k, hk, rfl, H⟩ := hrel
    by_cases hlt : k < s.size
    · cases hd : isLetter s[k]
      · have HD := Lib.hid hd
        clear hd
        go_wp2_with fail
        refine (letter_any s[k] _).mono ?_
        rw [HD.out]
        rintro e w' ⟨rfl, rfl⟩
        go_wp2
        go_ret
        exact ⟨ret_int (by rw [takeWhile_stop isLetter s.data.toList k (by rw [HSZ.out]; exact hlt) (fun i hi => H.out i hi _) HD.out]), rfl⟩
      · have HD := Lib.hid hd
        clear hd
        go_wp2_with fail
        refine (letter_any s[k] _).mono ?_
        rw [HD.out]
        rintro e w' ⟨rfl, rfl⟩
        go_wp2
        go_round
        case rel =>
          refine ⟨k + 1, by omega, by go_num, Lib.hid (fun i hi hj => ?_)⟩
          rcases Nat.lt_or_ge i k with h | h
          · exact H.out i h hj
          · obtain rfl : i = k := by omega
            exact HD.out
        case measure => simp [intOf]; omega
    · obtain rfl : k = s.size := by omega
      go_wp2
      go_ret
      exact ⟨ret_int (by rw [takeWhile_all isLetter s.data.toList (fun i hi => H.out i (by rw [← HSZ.out]; exact hi) hi), HSZ.out]), rfl⟩
end Go.Proofs.YtldcplgfkcionaaDoor
