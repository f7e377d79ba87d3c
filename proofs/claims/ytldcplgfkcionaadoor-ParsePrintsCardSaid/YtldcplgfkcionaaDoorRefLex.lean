/- The reference's Tokens tells the tokens. Nothing of the walk. -/
import Derived.Test.YtldcplgfkcionaaDoorLexNum
import Derived.Test.YtldcplgfkcionaaDoorPAllRef2
set_option linter.unusedVariables false
set_option linter.unusedSimpArgs false
namespace Go.Proofs.YtldcplgfkcionaaDoor
open Go.RowKit PX Go.Proofs.YtldcplgfkcionaaDoorW.PrintWords
theorem ev_pos {α : Type} {c : Prop} [Decidable c] {g f : Nat → Option α} {r : α} (h : c) (k : Ev g r) : Ev (fun n => if c then g n else f n) r := by
  obtain ⟨K, hK⟩ := k
  exact ⟨K, fun n hn => by simp only [if_pos h]; exact hK n hn⟩
theorem ev_neg {α : Type} {c : Prop} [Decidable c] {g f : Nat → Option α} {r : α} (h : ¬ c) (k : Ev f r) : Ev (fun n => if c then g n else f n) r := by
  obtain ⟨K, hK⟩ := k
  exact ⟨K, fun n hn => by simp only [if_neg h]; exact hK n hn⟩
theorem ev_bind {α β : Type} {g : Option α} {f : Nat → α → Option β} {a : α} {r : β} (h : g = some a) (k : Ev (fun n => f n a) r) : Ev (fun n => g.bind (f n)) r := by
  obtain ⟨K, hK⟩ := k
  exact ⟨K, fun n hn => by rw [h]; exact hK n hn⟩
theorem bt_at' (s : ByteArray) (i : Nat) (h : i < s.data.toList.length) : bt s (i : Int) = ((s.data.toList[i]).toNat : Int) := by
  have h' : i < s.size := by simpa using h
  unfold bt
  rw [dif_pos (by simpa using h')]
  rfl
theorem u8_eq (c d : UInt8) : ((c.toNat : Int) = (d.toNat : Int)) ↔ c = d := by
  constructor
  · intro h; exact UInt8.toNat_inj.1 (by omega)
  · rintro rfl; rfl
theorem u8_ne {c d : UInt8} (h : c ≠ d) : ¬ ((c.toNat : Int) = (d.toNat : Int)) := fun e => h ((u8_eq c d).1 e)
theorem sign_j1 (s : ByteArray) (c : UInt8) (r : List UInt8) (hs : s.data.toList = c :: r) : Ev (fun k => PAll.spinetref02_sign.j1 k s) (signOf.oneSign c, if signOf.oneSign c = 0 then 0 else 1) := by
  have hz : (0 : Int) < (s.size : Int) := by
    have : s.data.toList.length = s.size := by simp
    rw [hs] at this; simp at this; omega
  have hb : bt s 0 = (c.toNat : Int) := by
    have := bt_at' s 0 (by rw [hs]; simp)
    simp only [hs] at this
    simpa using this
  refine Ev.step (fun k => rfl) ?_
  simp only [PAll.spinetref02_sign.j1]
  simp only [if_pos hz, hb]
  by_cases e1 : c = 43
  · subst e1; exact Ev.now _
  by_cases e2 : c = 45
  · subst e2; exact Ev.now _
  by_cases e3 : c = 42
  · subst e3; exact Ev.now _
  by_cases e4 : c = 47
  · subst e4; exact Ev.now _
  by_cases e5 : c = 37
  · subst e5; exact Ev.now _
  by_cases e6 : c = 60
  · subst e6; exact Ev.now _
  by_cases e7 : c = 40
  · subst e7; exact Ev.now _
  by_cases e8 : c = 41
  · subst e8; exact Ev.now _
  have f1 : ¬ (c.toNat : Int) = 43 := u8_ne e1
  have f2 : ¬ (c.toNat : Int) = 45 := u8_ne e2
  have f3 : ¬ (c.toNat : Int) = 42 := u8_ne e3
  have f4 : ¬ (c.toNat : Int) = 47 := u8_ne e4
  have f5 : ¬ (c.toNat : Int) = 37 := u8_ne e5
  have f6 : ¬ (c.toNat : Int) = 60 := u8_ne e6
  have f7 : ¬ (c.toNat : Int) = 40 := u8_ne e7
  have f8 : ¬ (c.toNat : Int) = 41 := u8_ne e8
  simp only [if_neg f1, if_neg f2, if_neg f3, if_neg f4, if_neg f5, if_neg f6, if_neg f7, if_neg f8]
  simp only [signOf.oneSign, if_neg e1, if_neg e2, if_neg e3, if_neg e4, if_neg e5, if_neg e6, if_neg e7, if_neg e8]
  exact Ev.now _
theorem sign_ev (s : ByteArray) (h : 0 < s.size) : Ev (fun k => PAll.spinetref02_sign.f k s) ((signOf s.data.toList).1, ((signOf s.data.toList).2 : Int)) := by
  have hl : s.data.toList.length = s.size := by simp
  obtain ⟨c, r, hs⟩ : ∃ c r, s.data.toList = c :: r := by
    cases hh : s.data.toList with
    | nil => rw [hh] at hl; simp at hl; omega
    | cons c r => exact ⟨c, r, rfl⟩
  have hb : bt s 0 = (c.toNat : Int) := by
    have := bt_at' s 0 (by rw [hs]; simp)
    simp only [hs] at this
    simpa using this
  have hz : (0 : Int) < (s.size : Int) := by omega
  have j1 := sign_j1 s c r hs
  cases r with
  | nil =>
    have h1 : ¬ (s.size : Int) > 1 := by rw [hs] at hl; simp at hl; omega
    rw [hs]
    unfold PAll.spinetref02_sign.f
    simp only [if_neg h1]
    refine Ev.step (fun k => rfl) ?_
    simp only [PAll.spinetref02_sign.j0]
    simp only [Bool.false_eq_true, if_false]
    simp only [signOf]
    have e : (((if signOf.oneSign c = 0 then 0 else 1 : Nat)) : Int) = if signOf.oneSign c = 0 then 0 else 1 := by split <;> rfl
    rw [e]
    exact j1
  | cons d r =>
    have h1 : (s.size : Int) > 1 := by rw [hs] at hl; simp at hl; omega
    have hb1 : bt s 1 = (d.toNat : Int) := by
      have := bt_at' s 1 (by rw [hs]; simp)
      simp only [hs] at this
      simpa using this
    have e : (((if signOf.oneSign c = 0 then 0 else 1 : Nat)) : Int) = if signOf.oneSign c = 0 then 0 else 1 := by split <;> rfl
    rw [hs]
    unfold PAll.spinetref02_sign.f
    simp only [if_pos h1, hb1]
    refine Ev.step (fun k => rfl) ?_
    simp only [PAll.spinetref02_sign.j0]
    by_cases hd : d = 61
    · subst hd
      have q : (((61 : UInt8).toNat : Int) == 61) = true := rfl
      simp only [q, if_true, if_pos hz, hb]
      by_cases e1 : c = 60
      · subst e1; exact Ev.now _
      by_cases e2 : c = 61
      · subst e2; exact Ev.now _
      by_cases e3 : c = 33
      · subst e3; exact Ev.now _
      have f1 : ¬ (c.toNat : Int) = 60 := u8_ne e1
      have f2 : ¬ (c.toNat : Int) = 61 := u8_ne e2
      have f3 : ¬ (c.toNat : Int) = 33 := u8_ne e3
      simp only [if_neg f1, if_neg f2, if_neg f3]
      simp only [signOf]
      rw [if_neg (fun h => e1 h.2), if_neg (fun h => e2 h.2), if_neg (fun h => e3 h.2), e]
      exact j1
    · have q : ((d.toNat : Int) == 61) = false := beq_eq_false_iff_ne.mpr (u8_ne hd)
      simp only [q, Bool.false_eq_true, if_false]
      simp only [signOf]
      rw [if_neg (fun h => hd h.1), if_neg (fun h => hd h.1), if_neg (fun h => hd h.1), e]
      exact j1
theorem word_f (s : ByteArray) : PAll.spinetref02_Word.f s = some (wordOf s.data.toList) := by
  unfold PAll.spinetref02_Word.f wordOf
  rw [ByteArray.toList_eq]
  split <;> (try split) <;> (try split) <;> (try split) <;> (try split) <;> rfl
theorem w64 {x : Int} (h0 : -9223372036854775808 ≤ x) (h1 : x ≤ 9223372036854775807) : wrap64 x = x := by unfold wrap64; omega
theorem drop_cons (s : ByteArray) (k : Nat) (h : k < s.size) : s.data.toList.drop k = s[k] :: s.data.toList.drop (k + 1) := List.drop_eq_getElem_cons (by simpa using h)
theorem bt_get (s : ByteArray) (k : Nat) (h : k < s.size) : bt s (k : Int) = ((s[k]).toNat : Int) := bt_at' s k (by simpa using h)
theorem over_iff (n d : Int) (_hn : 0 ≤ n) (hd : 0 ≤ d) (hd9 : d ≤ 9) : (n > IntKind.u64.wrap (Int.tdiv (IntKind.u64.wrap (9223372036854775807 - d)) 10)) ↔ 9223372036854775807 < 10 * n + d := by
  rw [IntKind.wrap_u64, IntKind.wrap_u64]
  rw [Int.emod_eq_of_lt (by omega : (0 : Int) ≤ 9223372036854775807 - d) (by omega)]
  rw [Int.tdiv_eq_ediv_of_nonneg (by omega)]
  rw [Int.emod_eq_of_lt (by omega) (by omega)]
  omega
theorem digit_ge (c : UInt8) : isDigit c = true ↔ (48 : Int) ≤ c.toNat ∧ (c.toNat : Int) ≤ 57 := by
  simp only [isDigit, Bool.and_eq_true, decide_eq_true_eq]; omega
theorem letter_ge (c : UInt8) : isLetter c = true ↔ (97 : Int) ≤ c.toNat ∧ (c.toNat : Int) ≤ 122 := by
  simp only [isLetter, Bool.and_eq_true, decide_eq_true_eq]; omega
abbrev dfold (m : Nat) (l : List UInt8) : Nat := l.foldl (fun n c => 10 * n + (c.toNat - 48)) m
theorem l1_ev (s : ByteArray) (hs : s.size ≤ 100000) (xs : List T) (a : Nat) (hx : xs.length ≤ 100000) (R : List T × Int) (d : Nat) : ∀ (tq m : Nat) (n : Int) (big : Bool), tq ≤ s.size → s.size - tq = d → (big = false → n = (m : Int) ∧ m ≤ 9223372036854775807) → (big = true → 9223372036854775807 < m ∧ 0 ≤ n) →
    Ev (fun k => if dfold m ((s.data.toList.drop tq).takeWhile isDigit) ≤ 9223372036854775807 then PAll.spinetref02_Tokens.l0 k s (xs ++ [⟨1, (dfold m ((s.data.toList.drop tq).takeWhile isDigit) : Nat), a⟩]) ((tq + ((s.data.toList.drop tq).takeWhile isDigit).length : Nat) : Int) else some ([], (a : Int))) R →
    Ev (fun k => PAll.spinetref02_Tokens.l1 k s xs a tq n big) R := by
  induction d with
  | zero =>
    intro tq m n big ht hd hf hb h
    obtain rfl : tq = s.size := by omega
    have e : s.data.toList.drop s.size = [] := List.drop_of_length_le (by simp)
    simp only [e, List.takeWhile_nil, List.length_nil, Nat.add_zero, dfold, List.foldl_nil] at h
    refine Ev.step (fun k => rfl) ?_
    simp only [PAll.spinetref02_Tokens.l1, if_neg (Int.lt_irrefl _)]
    refine Ev.step (fun k => rfl) ?_
    simp only [PAll.spinetref02_Tokens.j3, Bool.false_eq_true, if_false]
    cases big with
    | true =>
      obtain ⟨h1, _⟩ := hb rfl
      simp only [show ¬ m ≤ 9223372036854775807 by omega, if_false] at h
      simpa using h
    | false =>
      obtain ⟨rfl, h1⟩ := hf rfl
      simp only [h1, if_true] at h
      simp only [Bool.false_eq_true, if_false]
      rw [w64 (by omega) (by omega)]
      simp only [if_pos (show xs.length < 5864062014805 by omega)]
      exact h
  | succ d ih =>
    intro tq m n big ht hd hf hb h
    have hlt : tq < s.size := by omega
    rw [drop_cons s tq hlt] at h
    have hi : ((tq : Nat) : Int) < (s.size : Int) := by omega
    have h0 : (0 : Int) ≤ (tq : Int) := by omega
    have hbt := bt_get s tq hlt
    have he : wrap64 ((tq : Int) + 1) = ((tq + 1 : Nat) : Int) := by rw [w64 (by omega) (by omega)]; omega
    refine Ev.step (fun k => rfl) ?_
    simp only [PAll.spinetref02_Tokens.l1, if_pos hi, if_pos h0, hbt]
    cases hdig : isDigit s[tq] with
    | true =>
      rw [List.takeWhile_cons, if_pos hdig] at h
      have hg := (digit_ge _).1 hdig
      simp only [if_pos (show ((s[tq].toNat : Nat) : Int) ≥ 48 from hg.1), decide_eq_true hg.2]
      refine Ev.step (fun k => rfl) ?_
      simp only [PAll.spinetref02_Tokens.j3, if_true, if_pos hi, if_pos h0, hbt]
      have ew : IntKind.u64.wrap (IntKind.u64.wrap ((s[tq].toNat : Nat) : Int) - 48) = ((s[tq].toNat : Nat) : Int) - 48 := by rw [IntKind.wrap_u64, IntKind.wrap_u64]; omega
      rw [ew, he]
      have hfold : ∀ l, dfold m (s[tq] :: l) = dfold (10 * m + (s[tq].toNat - 48)) l := fun l => rfl
      simp only [hfold, List.length_cons] at h
      rw [show tq + (((s.data.toList.drop (tq + 1)).takeWhile isDigit).length + 1) = tq + 1 + ((s.data.toList.drop (tq + 1)).takeWhile isDigit).length by omega] at h
      by_cases hov : n > IntKind.u64.wrap (Int.tdiv (IntKind.u64.wrap (9223372036854775807 - (((s[tq].toNat : Nat) : Int) - 48))) 10)
      · simp only [if_pos hov]
        have h10 := (over_iff n _ (by cases big with | true => exact (hb rfl).2 | false => (have := (hf rfl).1; omega)) (by omega) (by omega)).1 hov
        refine ih (tq + 1) (10 * m + (s[tq].toNat - 48)) n true (by omega) (by omega) (by simp) (fun _ => ?_) h
        cases big with
        | false => obtain ⟨rfl, _⟩ := hf rfl; omega
        | true => obtain ⟨q1, q2⟩ := hb rfl; omega
      · simp only [if_neg hov]
        cases big with
        | true =>
          simp only [if_true]
          obtain ⟨q1, q2⟩ := hb rfl
          exact ih (tq + 1) (10 * m + (s[tq].toNat - 48)) n true (by omega) (by omega) (by simp) (fun _ => ⟨by omega, q2⟩) h
        | false =>
          simp only [Bool.false_eq_true, if_false]
          obtain ⟨rfl, q1⟩ := hf rfl
          have hov' : ¬ (9223372036854775807 : Int) < 10 * (m : Int) + (((s[tq].toNat : Nat) : Int) - 48) := fun e => hov ((over_iff (m : Int) _ (by omega) (by omega) (by omega)).2 e)
          refine ih (tq + 1) (10 * m + (s[tq].toNat - 48)) _ false (by omega) (by omega) (fun _ => ⟨?_, by omega⟩) (by simp) h
          rw [IntKind.wrap_u64, IntKind.wrap_u64]; omega
    | false =>
      rw [List.takeWhile_cons, if_neg (by simp [hdig])] at h
      simp only [List.length_nil, Nat.add_zero, dfold, List.foldl_nil] at h
      have hnd : (if ((s[tq].toNat : Nat) : Int) ≥ 48 then (decide (((s[tq].toNat : Nat) : Int) ≤ 57)) else false) = false := by
        by_cases hg : ((s[tq].toNat : Nat) : Int) ≥ 48
        · rw [if_pos hg]
          exact decide_eq_false (fun e => by have := (digit_ge s[tq]).2 ⟨hg, e⟩; rw [hdig] at this; cases this)
        · rw [if_neg hg]
      have hsw : ∀ k, (if ((s[tq].toNat : Nat) : Int) ≥ 48 then PAll.spinetref02_Tokens.j3 k s xs a tq n big (decide (((s[tq].toNat : Nat) : Int) ≤ 57)) else PAll.spinetref02_Tokens.j3 k s xs a tq n big false) = PAll.spinetref02_Tokens.j3 k s xs a tq n big false := by
        intro k
        by_cases hg : ((s[tq].toNat : Nat) : Int) ≥ 48
        · rw [if_pos hg] at hnd ⊢; rw [hnd]
        · rw [if_neg hg]
      simp only [hsw]
      refine Ev.step (fun k => rfl) ?_
      simp only [PAll.spinetref02_Tokens.j3, Bool.false_eq_true, if_false]
      cases big with
      | true =>
        obtain ⟨h1, _⟩ := hb rfl
        simp only [show ¬ m ≤ 9223372036854775807 by omega, if_false] at h
        simpa using h
      | false =>
        obtain ⟨rfl, h1⟩ := hf rfl
        simp only [h1, if_true] at h
        simp only [Bool.false_eq_true, if_false]
        rw [w64 (by omega) (by omega)]
        simp only [if_pos (show xs.length < 5864062014805 by omega)]
        exact h
theorem l2_ev (s : ByteArray) (hs : s.size ≤ 100000) (xs : List T) (a : Nat) (c : Int) (R : List T × Int) (d : Nat) : ∀ (tq : Nat), tq ≤ s.size → s.size - tq = d →
    Ev (fun k => PAll.spinetref02_Tokens.j6 k s xs a c ((tq + ((s.data.toList.drop tq).takeWhile isLetter).length : Nat) : Int)) R →
    Ev (fun k => PAll.spinetref02_Tokens.l2 k s xs a c tq) R := by
  induction d with
  | zero =>
    intro tq ht hd h
    obtain rfl : tq = s.size := by omega
    have e : s.data.toList.drop s.size = [] := List.drop_of_length_le (by simp)
    simp only [e, List.takeWhile_nil, List.length_nil, Nat.add_zero] at h
    refine Ev.step (fun k => rfl) ?_
    simp only [PAll.spinetref02_Tokens.l2, if_neg (Int.lt_irrefl _)]
    exact h
  | succ d ih =>
    intro tq ht hd h
    have hlt : tq < s.size := by omega
    rw [drop_cons s tq hlt] at h
    have hi : ((tq : Nat) : Int) < (s.size : Int) := by omega
    have h0 : (0 : Int) ≤ (tq : Int) := by omega
    have hbt := bt_get s tq hlt
    have he : wrap64 ((tq : Int) + 1) = ((tq + 1 : Nat) : Int) := by rw [w64 (by omega) (by omega)]; omega
    refine Ev.step (fun k => rfl) ?_
    simp only [PAll.spinetref02_Tokens.l2, if_pos hi, if_pos h0, hbt]
    cases hdig : isLetter s[tq] with
    | true =>
      rw [List.takeWhile_cons, if_pos hdig] at h
      have hg := (letter_ge _).1 hdig
      simp only [if_pos (show ((s[tq].toNat : Nat) : Int) ≥ 97 from hg.1), if_pos hg.2, he]
      simp only [List.length_cons] at h
      rw [show tq + (((s.data.toList.drop (tq + 1)).takeWhile isLetter).length + 1) = tq + 1 + ((s.data.toList.drop (tq + 1)).takeWhile isLetter).length by omega] at h
      exact ih (tq + 1) (by omega) (by omega) h
    | false =>
      rw [List.takeWhile_cons, if_neg (by simp [hdig])] at h
      simp only [List.length_nil, Nat.add_zero] at h
      by_cases hg : ((s[tq].toNat : Nat) : Int) ≥ 97
      · simp only [if_pos hg, if_neg (show ¬ ((s[tq].toNat : Nat) : Int) ≤ 122 from fun e => by have := (letter_ge s[tq]).2 ⟨hg, e⟩; rw [hdig] at this; cases this)]
        exact h
      · simp only [if_neg hg]
        exact h
/-- What the reference tells from a place on. -/
def toldFrom (xs : List T) (r : List T × Option Nat) : List T × Int := match r.2 with
  | none => (xs ++ r.1, -1)
  | some a => ([], (a : Int))
theorem toldFrom_cons (xs : List T) (t : T) (r : List T × Option Nat) : toldFrom (xs ++ [t]) r = toldFrom xs (t :: r.1, r.2) := by
  obtain ⟨ts, o⟩ := r
  cases o <;> simp [toldFrom]
theorem extract_at (s : ByteArray) (a b : Nat) : (s.extract a b).data.toList = (s.data.toList.drop a).take (b - a) := by
  simp [ByteArray.data_extract, Array.toList_extract, List.extract_eq_take_drop]
set_option maxHeartbeats 2000000 in
theorem l0_ev (s : ByteArray) (hs : s.size ≤ 10000) (d : Nat) : ∀ (a : Nat) (xs : List T), a ≤ s.size → s.size - a = d → xs.length ≤ a →
    Ev (fun k => PAll.spinetref02_Tokens.l0 k s xs a) (toldFrom xs (lexAt (s.data.toList.drop a) a)) := by
  induction d using Nat.strongRecOn with
  | _ d ih =>
    intro a xs ha hd hx
    by_cases hlt : a < s.size
    · have hi : ((a : Nat) : Int) < (s.size : Int) := by omega
      have h0 : (0 : Int) ≤ (a : Int) := by omega
      have hbt := bt_get s a hlt
      have hdc := drop_cons s a hlt
      have hsz : s.data.toList.length = s.size := by simp
      refine Ev.step (fun k => rfl) ?_
      simp only [PAll.spinetref02_Tokens.l0, if_pos hi, if_pos h0, hbt]
      by_cases h32 : s[a] = 32
      · have q : ((s[a].toNat : Nat) : Int) = 32 := (u8_eq s[a] 32).2 h32
        simp only [if_pos q]
        rw [w64 (by omega) (by omega), hdc, h32, lexAt_space]
        exact ih (s.size - (a + 1)) (by omega) (a + 1) xs (by omega) rfl (by omega)
      · have q : ¬ ((s[a].toNat : Nat) : Int) = 32 := u8_ne h32
        simp only [if_neg q]
        have hdig : (if ((s[a].toNat : Nat) : Int) ≥ 48 then (decide (((s[a].toNat : Nat) : Int) ≤ 57)) else false) = isDigit s[a] := by
          rw [Bool.eq_iff_iff, digit_ge]
          by_cases hg : ((s[a].toNat : Nat) : Int) ≥ 48
          · rw [if_pos hg]; simp; omega
          · rw [if_neg hg]; simp; omega
        have hsw : ∀ k, (if ((s[a].toNat : Nat) : Int) ≥ 48 then PAll.spinetref02_Tokens.j1 k s xs a s[a].toNat a (decide (((s[a].toNat : Nat) : Int) ≤ 57)) else PAll.spinetref02_Tokens.j1 k s xs a s[a].toNat a false) = PAll.spinetref02_Tokens.j1 k s xs a s[a].toNat a (isDigit s[a]) := by
          intro k
          rw [← hdig]
          by_cases hg : ((s[a].toNat : Nat) : Int) ≥ 48
          · rw [if_pos hg, if_pos hg]
          · rw [if_neg hg, if_neg hg]
        simp only [hsw]
        refine Ev.step (fun k => rfl) ?_
        simp only [PAll.spinetref02_Tokens.j1]
        cases hD : isDigit s[a] with
        | true =>
          simp only [if_true]
          have hpos : 0 < ((s.data.toList.drop a).takeWhile isDigit).length := by rw [hdc, List.takeWhile_cons, if_pos hD]; simp
          have hle := takeWhile_le isDigit (s.data.toList.drop a)
          rw [List.length_drop, hsz] at hle
          refine l1_ev s (by omega) xs a (by omega) _ (s.size - a) a 0 0 false ha rfl (fun _ => ⟨rfl, by omega⟩) (by simp) ?_
          have hn : dfold 0 ((s.data.toList.drop a).takeWhile isDigit) = numOf ((s.data.toList.drop a).takeWhile isDigit) := rfl
          rw [hn]
          have hf : first (s.data.toList.drop a) = if numOf ((s.data.toList.drop a).takeWhile isDigit) ≤ 9223372036854775807 then some (1, (numOf ((s.data.toList.drop a).takeWhile isDigit) : Int), ((s.data.toList.drop a).takeWhile isDigit).length) else none := by
            rw [first, if_pos hpos]
          by_cases hm : numOf ((s.data.toList.drop a).takeWhile isDigit) ≤ 9223372036854775807
          · rw [if_pos hm] at hf
            simp only [if_pos hm]
            rw [hdc] at hf
            rw [hdc, lexAt_tok h32 hf, ← hdc, List.drop_drop, ← toldFrom_cons]
            exact ih (s.size - (a + ((s.data.toList.drop a).takeWhile isDigit).length)) (by omega) _ _ (by omega) rfl (by simp; omega)
          · rw [if_neg hm] at hf
            simp only [if_neg hm]
            rw [hdc] at hf
            rw [hdc, lexAt_bad h32 hf]
            exact Ev.now _
        | false =>
          simp only [Bool.false_eq_true, if_false]
          have hd0 : ¬ 0 < ((s.data.toList.drop a).takeWhile isDigit).length := by rw [hdc, List.takeWhile_cons, if_neg (by simp [hD])]; simp
          have hlet : (if ((s[a].toNat : Nat) : Int) ≥ 97 then (decide (((s[a].toNat : Nat) : Int) ≤ 122)) else false) = isLetter s[a] := by
            rw [Bool.eq_iff_iff, letter_ge]
            by_cases hg : ((s[a].toNat : Nat) : Int) ≥ 97
            · rw [if_pos hg]; simp; omega
            · rw [if_neg hg]; simp; omega
          have hsw : ∀ k, (if ((s[a].toNat : Nat) : Int) ≥ 97 then PAll.spinetref02_Tokens.j4 k s xs a s[a].toNat a (decide (((s[a].toNat : Nat) : Int) ≤ 122)) else PAll.spinetref02_Tokens.j4 k s xs a s[a].toNat a false) = PAll.spinetref02_Tokens.j4 k s xs a s[a].toNat a (isLetter s[a]) := by
            intro k
            rw [← hlet]
            by_cases hg : ((s[a].toNat : Nat) : Int) ≥ 97
            · rw [if_pos hg, if_pos hg]
            · rw [if_neg hg, if_neg hg]
          simp only [hsw]
          refine Ev.step (fun k => rfl) ?_
          simp only [PAll.spinetref02_Tokens.j4]
          have hxl : xs.length < 5864062014805 := by omega
          cases hL : isLetter s[a] with
          | true =>
            simp only [if_true]
            have hg := (letter_ge _).1 hL
            have hpos : 0 < ((s.data.toList.drop a).takeWhile isLetter).length := by rw [hdc, List.takeWhile_cons, if_pos hL]; simp
            have hle := takeWhile_le isLetter (s.data.toList.drop a)
            rw [List.length_drop, hsz] at hle
            refine l2_ev s (by omega) xs a _ _ (s.size - a) a ha rfl ?_
            have hwd : (s.extract ((a : Nat) : Int).toNat (((a + ((s.data.toList.drop a).takeWhile isLetter).length : Nat) : Int)).toNat).data.toList = (s.data.toList.drop a).takeWhile isLetter := by
              rw [Int.toNat_natCast, Int.toNat_natCast, extract_at, show a + ((s.data.toList.drop a).takeWhile isLetter).length - a = ((s.data.toList.drop a).takeWhile isLetter).length by omega, take_takeWhile]
            have hf : first (s.data.toList.drop a) = if ((s.data.toList.drop a).takeWhile isLetter).length = 1 then some (2, (((s.data.toList.drop a).headD 0).toNat : Int) - 97, 1)
                else if wordOf ((s.data.toList.drop a).takeWhile isLetter) = 0 then none else some (wordOf ((s.data.toList.drop a).takeWhile isLetter), 0, ((s.data.toList.drop a).takeWhile isLetter).length) := by
              rw [first, if_neg hd0, if_pos hpos]
            refine Ev.step (fun k => rfl) ?_
            simp only [PAll.spinetref02_Tokens.j6]
            have c1 : ((a : Nat) : Int) ≤ ((a + ((s.data.toList.drop a).takeWhile isLetter).length : Nat) : Int) := by omega
            have c2 : ((a + ((s.data.toList.drop a).takeWhile isLetter).length : Nat) : Int) ≤ (s.size : Int) := by omega
            refine ev_pos h0 (ev_pos c1 (ev_pos c2 ?_))
            have hwf := word_f (s.extract ((a : Nat) : Int).toNat (((a + ((s.data.toList.drop a).takeWhile isLetter).length : Nat) : Int)).toNat)
            rw [hwd] at hwf
            clear hwd
            generalize wordOf ((s.data.toList.drop a).takeWhile isLetter) = wd at *
            refine ev_bind hwf ?_
            by_cases h1 : ((s.data.toList.drop a).takeWhile isLetter).length = 1
            · rw [if_pos h1] at hf
              rw [hdc, List.headD_cons] at hf
              have g1 : s.size - (a + 1) < d := by omega
              have g2 : a + 1 ≤ s.size := by omega
              have g3 : (xs ++ [(⟨2, (s[a].toNat : Int) - 97, a⟩ : T)]).length ≤ a + 1 := by rw [List.length_append]; exact Nat.add_le_add_right hx 1
              have c3 : ((a + ((s.data.toList.drop a).takeWhile isLetter).length : Nat) : Int) = wrap64 ((a : Int) + 1) := by rw [w64 (by omega) (by omega)]; omega
              refine ev_pos c3 (ev_pos hxl ?_)
              clear c3
              have hq := lexAt_tok (c := s[a]) (l := s.data.toList.drop (a + 1)) h32 hf a
              have e1 : wrap64 (wrap64 ((s[a].toNat : Nat) : Int) - 97) = (s[a].toNat : Int) - 97 := by
                rw [w64 (x := ((s[a].toNat : Nat) : Int)) (by omega) (by omega), w64 (by omega) (by omega)]
              have e2 : ((a + ((s.data.toList.drop a).takeWhile isLetter).length : Nat) : Int) = ((a + 1 : Nat) : Int) := by rw [h1]
              rw [← hdc, List.drop_drop] at hq
              rw [hq, ← toldFrom_cons, e1, e2]
              exact ih (s.size - (a + 1)) g1 (a + 1) (xs ++ [(⟨2, (s[a].toNat : Int) - 97, a⟩ : T)]) g2 rfl g3
            · rw [if_neg h1] at hf
              have c3 : ¬ ((a + ((s.data.toList.drop a).takeWhile isLetter).length : Nat) : Int) = wrap64 ((a : Int) + 1) := by rw [w64 (by omega) (by omega)]; omega
              refine ev_neg c3 ?_
              clear c3
              by_cases hw : wd = 0
              · rw [if_pos hw] at hf
                refine ev_pos hw ?_
                rw [hdc] at hf
                rw [hdc, lexAt_bad h32 hf]
                exact Ev.now _
              · rw [if_neg hw] at hf
                refine ev_neg hw (ev_pos hxl ?_)
                rw [hdc] at hf
                rw [hdc, lexAt_tok h32 hf, ← hdc, List.drop_drop, ← toldFrom_cons]
                exact ih (s.size - (a + ((s.data.toList.drop a).takeWhile isLetter).length)) (by omega) _ _ (by omega) rfl (by simp; omega)
          | false =>
            simp only [Bool.false_eq_true, if_false]
            have hl0 : ¬ 0 < ((s.data.toList.drop a).takeWhile isLetter).length := by rw [hdc, List.takeWhile_cons, if_neg (by simp [hL])]; simp
            have hf : first (s.data.toList.drop a) = if (signOf (s.data.toList.drop a)).2 = 0 then none else some ((signOf (s.data.toList.drop a)).1, 0, (signOf (s.data.toList.drop a)).2) := by
              rw [first, if_neg hd0, if_neg hl0]
            have hex : (s.extract ((a : Nat) : Int).toNat s.size).data.toList = s.data.toList.drop a := by
              rw [Int.toNat_natCast, extract_at, List.take_of_length_le (by simp)]
            have hsg := sign_ev (s.extract ((a : Nat) : Int).toNat s.size) (by rw [ByteArray.size_extract, Int.toNat_natCast]; omega)
            rw [hex] at hsg
            have hsl := signOf_le (s.data.toList.drop a)
            rw [List.length_drop, hsz] at hsl
            refine ev_pos h0 (ev_pos (show ((a : Nat) : Int) ≤ (s.size : Int) by omega) ?_)
            refine Ev.bind hsg ?_
            by_cases hw : (signOf (s.data.toList.drop a)).2 = 0
            · rw [if_pos hw] at hf
              refine ev_pos (show (((signOf (s.data.toList.drop a)).2 : Nat) : Int) = 0 by omega) ?_
              rw [hdc] at hf
              rw [hdc, lexAt_bad h32 hf]
              exact Ev.now _
            · rw [if_neg hw] at hf
              refine ev_neg (show ¬ (((signOf (s.data.toList.drop a)).2 : Nat) : Int) = 0 by omega) (ev_pos hxl ?_)
              have hq := lexAt_tok (c := s[a]) (l := s.data.toList.drop (a + 1)) h32 (by rw [← hdc]; exact hf) a
              rw [← hdc, List.drop_drop] at hq
              rw [hq, ← toldFrom_cons, w64 (by omega) (by omega)]
              have := ih (s.size - (a + (signOf (s.data.toList.drop a)).2)) (by omega) (a + (signOf (s.data.toList.drop a)).2) (xs ++ [⟨(signOf (s.data.toList.drop a)).1, 0, a⟩]) (by omega) rfl (by simp; omega)
              rw [show ((a + (signOf (s.data.toList.drop a)).2 : Nat) : Int) = (a : Int) + ((signOf (s.data.toList.drop a)).2 : Int) by omega] at this
              exact this
    · obtain rfl : a = s.size := by omega
      rw [List.drop_of_length_le (by simp), lexAt_nil]
      refine Ev.step (fun k => rfl) ?_
      simp only [PAll.spinetref02_Tokens.l0, if_neg (Int.lt_irrefl _)]
      simp only [toldFrom, List.append_nil]
      exact Ev.now _
/-- The reference's Tokens, of a text that is no longer than this. -/
theorem refTokens_f (s : ByteArray) (hs : s.size ≤ 10000) : ∃ k, PAll.spinetref02_Tokens.f k s = some (toldFrom [] (lexAt s.data.toList 0)) := by
  have := l0_ev s hs s.size 0 [] (by omega) (by omega) (by simp)
  exact Ev.rounds this
end Go.Proofs.YtldcplgfkcionaaDoor
