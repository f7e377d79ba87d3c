/- What a reader of tokens makes of them: one relation for all levels. Nothing of the program. -/
import Derived.Test.YtldcplgfkcionaaDoorPX
set_option linter.unusedVariables false
namespace Go.Proofs.YtldcplgfkcionaaDoor.PX
/-- How a reader stands: its place, what it put, and whether something is amiss. -/
structure St where
  at_ : Nat
  out : List T
  bad : Bool
namespace St
def adv (s : St) : St := { s with at_ := s.at_ + 1 }
def put (s : St) (k n : Int) : St := { s with out := s.out ++ [⟨k, n, 0⟩] }
def fail (s : St) : St := { s with bad := true }
def see (l : List T) (s : St) : Int := if s.bad = true ∨ l.length ≤ s.at_ then 0 else (l[s.at_]?.getD ⟨0, 0, 0⟩).f0
def num (l : List T) (s : St) : Int := (l[s.at_]?.getD ⟨0, 0, 0⟩).f1
end St
def level (k : Int) : Nat := if k = 13 then 1 else if k = 12 then 2 else if 8 ≤ k ∧ k ≤ 11 then 3 else if k = 3 ∨ k = 4 then 4 else if 5 ≤ k ∧ k ≤ 7 then 5 else 0
/-- Pr l false v: what level v reads. Pr l true v: what follows behind its first one. -/
inductive Pr (l : List T) : Bool → Nat → St → St → Prop
  | row {v : Nat} {s s1 s2 : St} (hv : v = 1 ∨ v = 2 ∨ v = 4 ∨ v = 5) (h1 : Pr l false (v + 1) s s1) (h2 : Pr l true v s1 s2) : Pr l false v s s2
  | stop {v : Nat} {s : St} (h : level (s.see l) ≠ v) : Pr l true v s s
  | more {v : Nat} {s s1 s2 : St} (h : level (s.see l) = v) (h1 : Pr l false (v + 1) s.adv s1) (h2 : Pr l true v (s1.put (s.see l) 0) s2) : Pr l true v s s2
  | not_ {s s1 : St} (h : s.see l = 14) (h1 : Pr l false 3 s.adv s1) : Pr l false 3 s (s1.put 14 0)
  | sum {s s1 : St} (h : s.see l ≠ 14) (h1 : Pr l false 4 s s1) (h2 : level (s1.see l) ≠ 3) : Pr l false 3 s s1
  | cmp {s s1 s2 : St} (h : s.see l ≠ 14) (h1 : Pr l false 4 s s1) (h2 : level (s1.see l) = 3) (h3 : Pr l false 4 s1.adv s2) : Pr l false 3 s (s2.put (s1.see l) 0)
  | neg {s s1 : St} (h : s.see l = 4) (h1 : Pr l false 6 s.adv s1) : Pr l false 6 s (s1.put 19 0)
  | leaf {s : St} (h : s.see l = 1 ∨ s.see l = 2 ∨ s.see l = 15 ∨ s.see l = 16) : Pr l false 6 s (s.adv.put (s.see l) (s.num l))
  | open_ {s s1 : St} (h : s.see l = 17) (h1 : Pr l false 1 s.adv s1) (h2 : s1.see l = 18) : Pr l false 6 s s1.adv
  | openBad {s s1 : St} (h : s.see l = 17) (h1 : Pr l false 1 s.adv s1) (h2 : s1.see l ≠ 18) : Pr l false 6 s s1.fail
  | none_ {s : St} (h : ¬(s.see l = 4 ∨ s.see l = 1 ∨ s.see l = 2 ∨ s.see l = 15 ∨ s.see l = 16 ∨ s.see l = 17)) : Pr l false 6 s s.fail
theorem Pr.det {l : List T} {b : Bool} {v : Nat} {s s' : St} (h : Pr l b v s s') : ∀ {s'' : St}, Pr l b v s s'' → s' = s'' := by
  induction h with
  | row hv h1 h2 i1 i2 =>
    intro s'' h
    cases h with
    | row _ k1 k2 => obtain rfl := i1 k1; exact i2 k2
    | _ => omega
  | stop h => intro s'' k; cases k with
    | stop _ => rfl
    | more h' => exact absurd h' h
  | more h h1 h2 i1 i2 => intro s'' k; cases k with
    | stop h' => exact absurd h h'
    | more h' k1 k2 => obtain rfl := i1 k1; exact i2 k2
  | not_ h h1 i1 => intro s'' k; cases k with
    | row hv => omega
    | not_ _ k1 => rw [i1 k1]
    | sum h' => exact absurd h h'
    | cmp h' => exact absurd h h'
  | sum h h1 h2 i1 => intro s'' k; cases k with
    | row hv => omega
    | not_ h' => exact absurd h' h
    | sum _ k1 _ => exact i1 k1
    | cmp _ k1 k2 _ => rw [i1 k1] at h2; exact absurd k2 h2
  | cmp h h1 h2 h3 i1 i3 => intro s'' k; cases k with
    | row hv => omega
    | not_ h' => exact absurd h' h
    | sum _ k1 k2 => rw [i1 k1] at h2; exact absurd h2 k2
    | cmp _ k1 k2 k3 => obtain rfl := i1 k1; rw [i3 k3]
  | neg h h1 i1 => intro s'' k; cases k with
    | row hv => omega
    | neg _ k1 => rw [i1 k1]
    | _ => omega
  | leaf h => intro s'' k; cases k with
    | leaf _ => rfl
    | _ => omega
  | open_ h h1 h2 i1 => intro s'' k; cases k with
    | open_ _ k1 _ => rw [i1 k1]
    | openBad _ k1 k2 => rw [i1 k1] at h2; exact absurd h2 k2
    | _ => omega
  | openBad h h1 h2 i1 => intro s'' k; cases k with
    | open_ _ k1 k2 => rw [i1 k1] at h2; exact absurd k2 h2
    | openBad _ k1 _ => rw [i1 k1]
    | _ => omega
  | none_ h => intro s'' k; cases k with
    | none_ _ => rfl
    | _ => omega
theorem see_lt {l : List T} {s : St} (h : s.see l ≠ 0) : s.at_ < l.length := by
  unfold St.see at h; split at h
  · exact absurd rfl h
  · rename_i hc; omega
theorem see_at {l : List T} {s : St} {k : Int} (h : s.see l = k) (hk : k ≠ 0) : s.at_ < l.length := see_lt (by omega)
theorem level_see {k : Int} {v : Nat} (h : level k = v) (hv : v ≠ 0) : k ≠ 0 := by
  rintro rfl; simp [level] at h; omega
theorem adv_at (s : St) : s.adv.at_ = s.at_ + 1 := rfl
theorem adv_out (s : St) : s.adv.out = s.out := rfl
theorem put_at (s : St) (k n : Int) : (s.put k n).at_ = s.at_ := rfl
theorem put_out (s : St) (k n : Int) : (s.put k n).out.length = s.out.length + 1 := by simp [St.put]
theorem fail_at (s : St) : s.fail.at_ = s.at_ := rfl
theorem fail_out (s : St) : s.fail.out = s.out := rfl
/-- It goes on, no further than the end; it puts no more than it passes. -/
theorem Pr.le {l : List T} {b : Bool} {v : Nat} {s s' : St} (h : Pr l b v s s') (hv : v ≠ 0) (hs : s.at_ ≤ l.length) : s.at_ ≤ s'.at_ ∧ s'.at_ ≤ l.length ∧ s'.out.length + s.at_ ≤ s.out.length + s'.at_ := by
  induction h with
  | row _ h1 h2 i1 i2 => have := i1 (by omega) hs; have := i2 hv (by omega); omega
  | stop h => omega
  | more h h1 h2 i1 i2 =>
    have := see_lt (level_see h hv)
    have a := i1 (by omega) (by rw [adv_at]; omega)
    have b := i2 hv (by rw [put_at]; omega)
    simp only [adv_at, adv_out, put_at, put_out] at a b ⊢; omega
  | not_ h h1 i1 =>
    have := see_at h (by omega)
    have a := i1 (by omega) (by rw [adv_at]; omega)
    simp only [adv_at, adv_out, put_at, put_out] at a ⊢; omega
  | sum h h1 h2 i1 => exact i1 (by omega) hs
  | cmp h h1 h2 h3 i1 i3 =>
    have a := i1 (by omega) hs
    have := see_lt (level_see h2 (by omega))
    have b := i3 (by omega) (by rw [adv_at]; omega)
    simp only [adv_at, adv_out, put_at, put_out] at a b ⊢; omega
  | neg h h1 i1 =>
    have := see_at h (by omega)
    have a := i1 (by omega) (by rw [adv_at]; omega)
    simp only [adv_at, adv_out, put_at, put_out] at a ⊢; omega
  | leaf h =>
    have := see_lt (l := l) (fun e => by rw [e] at h; omega)
    simp only [adv_at, adv_out, put_at, put_out]; omega
  | open_ h h1 h2 i1 =>
    have := see_at h (by omega)
    have a := i1 (by omega) (by rw [adv_at]; omega)
    have := see_at h2 (by omega)
    simp only [adv_at, adv_out] at a ⊢; omega
  | openBad h h1 h2 i1 =>
    have := see_at h (by omega)
    have a := i1 (by omega) (by rw [adv_at]; omega)
    simp only [adv_at, adv_out, fail_at, fail_out] at a ⊢; omega
  | none_ h => simp only [fail_at, fail_out]; omega
end Go.Proofs.YtldcplgfkcionaaDoor.PX
