/- Texts in brackets, put together: what the parser makes of them. Nothing of the walk. -/
import Derived.Test.YtldcplgfkcionaaDoorLexCat
import Derived.Test.YtldcplgfkcionaaDoorParse
set_option linter.unusedVariables false
set_option linter.unusedSimpArgs false
namespace Go.Proofs.YtldcplgfkcionaaDoor
open PX
theorem Pr.bad {l : List T} {b : Bool} {v : Nat} {s s' : St} (h : Pr l b v s s') : s.bad = true → s'.bad = true := by
  induction h with
  | row _ h1 h2 i1 i2 => intro hb; exact i2 (i1 hb)
  | stop h => exact id
  | more h h1 h2 i1 i2 => intro hb; exact i2 (i1 hb)
  | not_ h h1 i1 => intro hb; exact i1 hb
  | sum h h1 h2 i1 => exact i1
  | cmp h h1 h2 h3 i1 i3 => intro hb; exact i3 (i1 hb)
  | neg h h1 i1 => intro hb; exact i1 hb
  | leaf h => intro hb; exact hb
  | open_ h h1 h2 i1 => intro hb; exact i1 hb
  | openBad h h1 h2 i1 => intro _; rfl
  | none_ h => intro _; rfl
theorem Pr.good {l : List T} {b : Bool} {v : Nat} {s s' : St} (h : Pr l b v s s') (h' : s'.bad = false) : s.bad = false := by
  cases hb : s.bad with
  | false => rfl
  | true => rw [Pr.bad h hb] at h'; cases h'
/-- The tokens l stand in L from d on, and a closing bracket behind them. -/
structure Emb (l L : List T) (d : Nat) : Prop where
  at_ : ∀ i, (h : i < l.length) → ∃ y, L[d + i]? = some y ∧ y.f0 = l[i].f0 ∧ y.f1 = l[i].f1
  close : ∃ y, L[d + l.length]? = some y ∧ y.f0 = 18
def emb (d : Nat) (pre : List T) (s : St) : St := ⟨d + s.at_, pre ++ s.out, s.bad⟩
theorem emb_put (d : Nat) (pre : List T) (s : St) (k n : Int) : emb d pre (s.put k n) = (emb d pre s).put k n := by simp [emb, St.put]
theorem emb_adv (d : Nat) (pre : List T) (s : St) : emb d pre s.adv = (emb d pre s).adv := rfl
section
variable {l L : List T} {d : Nat} (E : Emb l L d) (pre : List T)
include E
theorem see_emb {s : St} (hb : s.bad = false) (h : s.at_ < l.length) : (emb d pre s).see L = s.see l ∧ (emb d pre s).num L = s.num l := by
  obtain ⟨y, h1, h2, h3⟩ := E.at_ s.at_ h
  have hlt : d + s.at_ < L.length := (List.getElem?_eq_some_iff.1 h1).1
  refine ⟨?_, ?_⟩
  · unfold St.see
    rw [if_neg (by simp [emb, hb]; omega), if_neg (by rw [hb]; simp; omega)]
    show ((L[d + s.at_]?).getD ⟨0, 0, 0⟩).f0 = _
    rw [h1, List.getElem?_eq_getElem h]; exact h2
  · unfold St.num
    show ((L[d + s.at_]?).getD ⟨0, 0, 0⟩).f1 = _
    rw [h1, List.getElem?_eq_getElem h]; exact h3
theorem see_end {s : St} (hb : s.bad = false) (h : s.at_ = l.length) : (emb d pre s).see L = 18 ∧ s.see l = 0 := by
  obtain ⟨y, h1, h2⟩ := E.close
  have hlt : d + l.length < L.length := (List.getElem?_eq_some_iff.1 h1).1
  refine ⟨?_, by unfold St.see; rw [if_pos (.inr (by omega))]⟩
  unfold St.see
  rw [if_neg (by simp [emb, hb]; omega)]
  show ((L[d + s.at_]?).getD ⟨0, 0, 0⟩).f0 = _
  rw [h, h1]; exact h2
/-- What is seen there is what is seen here, but for the end. -/
theorem see_same {s : St} (hb : s.bad = false) (h : s.at_ ≤ l.length) {k : Int} (hk : s.see l = k) (h0 : k ≠ 0) : (emb d pre s).see L = k := by
  by_cases hlt : s.at_ < l.length
  · rw [(see_emb E pre hb hlt).1, hk]
  · rw [(see_end E pre hb (by omega)).2] at hk; exact absurd hk.symm h0
theorem level_same {s : St} (hb : s.bad = false) (h : s.at_ ≤ l.length) : level ((emb d pre s).see L) = level (s.see l) := by
  by_cases hlt : s.at_ < l.length
  · rw [(see_emb E pre hb hlt).1]
  · obtain ⟨h1, h2⟩ := see_end E pre hb (by omega : s.at_ = l.length)
    rw [h1, h2]; rfl
theorem see_ne {s : St} (hb : s.bad = false) (h : s.at_ ≤ l.length) {k : Int} (hk : s.see l ≠ k) (h18 : k ≠ 18) : (emb d pre s).see L ≠ k := by
  by_cases hlt : s.at_ < l.length
  · rw [(see_emb E pre hb hlt).1]; exact hk
  · rw [(see_end E pre hb (by omega)).1]; exact fun e => h18 e.symm
/-- What was read of l is read of L. -/
theorem Pr.emb {b : Bool} {v : Nat} {s s' : St} (h : Pr l b v s s') (hv : v ≠ 0) (hs : s.at_ ≤ l.length) (hb : s'.bad = false) : Pr L b v (emb d pre s) (emb d pre s') := by
  induction h with
  | row hr h1 h2 i1 i2 =>
    have hb1 := Pr.good h2 hb
    exact .row hr (i1 (by omega) hs hb1) (i2 hv (h1.le (by omega) hs).2.1 hb)
  | stop h => exact .stop (by rw [level_same E pre hb hs]; exact h)
  | more h h1 h2 i1 i2 =>
    rename_i v s s1 s2
    have hb1 : s1.bad = false := (Pr.good h2 hb : (s1.put (s.see l) 0).bad = false)
    have hb0 : s.bad = false := (Pr.good h1 hb1 : s.adv.bad = false)
    have hz := level_see h hv
    have hlt := see_lt hz
    have hs' := see_same E pre hb0 hs rfl hz
    have h2' := i2 hv (h1.le (by omega) (by rw [adv_at]; omega)).2.1 hb
    rw [emb_put, ← hs'] at h2'
    exact .more (by rw [hs']; exact h) (i1 (by omega) (by rw [adv_at]; omega) hb1) h2'
  | not_ h h1 i1 =>
    rename_i s s1
    have hlt := see_at h (by omega)
    have hb1 : s1.bad = false := hb
    have hb0 : s.bad = false := (Pr.good h1 hb1 : s.adv.bad = false)
    rw [emb_put]
    exact .not_ (see_same E pre hb0 hs h (by omega)) (i1 (by omega) (by rw [adv_at]; omega) hb)
  | sum h h1 h2 i1 =>
    rename_i s s1
    have hb0 := Pr.good h1 hb
    exact .sum (see_ne E pre hb0 hs h (by omega)) (i1 (by omega) hs hb) (by rw [level_same E pre hb (h1.le (by omega) hs).2.1]; exact h2)
  | cmp h h1 h2 h3 i1 i3 =>
    rename_i s s1 s2
    have hb2 : s2.bad = false := hb
    have hb1 : s1.bad = false := (Pr.good h3 hb2 : s1.adv.bad = false)
    have hb0 := Pr.good h1 hb1
    have hle := (h1.le (by omega) hs).2.1
    have hz := level_see h2 (by omega)
    have hlt := see_lt hz
    have hs' := see_same E pre hb1 hle rfl hz
    rw [emb_put, ← hs']
    exact .cmp (see_ne E pre hb0 hs h (by omega)) (i1 (by omega) hs hb1) (by rw [hs']; exact h2) (i3 (by omega) (by rw [adv_at]; omega) hb)
  | neg h h1 i1 =>
    rename_i s s1
    have hlt := see_at h (by omega)
    have hb1 : s1.bad = false := hb
    have hb0 : s.bad = false := (Pr.good h1 hb1 : s.adv.bad = false)
    rw [emb_put]
    exact .neg (see_same E pre hb0 hs h (by omega)) (i1 (by omega) (by rw [adv_at]; omega) hb)
  | leaf h =>
    rename_i s
    have hb0 : s.bad = false := hb
    have hz : s.see l ≠ 0 := by omega
    have hlt := see_lt hz
    obtain ⟨h1, h2⟩ := see_emb E pre hb0 hlt
    rw [emb_put, emb_adv, ← h1, ← h2]
    exact .leaf (by rw [h1]; exact h)
  | open_ h h1 h2 i1 =>
    rename_i s s1
    have hlt := see_at h (by omega)
    have hb1 : s1.bad = false := hb
    have hb0 : s.bad = false := (Pr.good h1 hb1 : s.adv.bad = false)
    have hle := (h1.le (by omega) (by rw [adv_at]; omega)).2.1
    exact .open_ (see_same E pre hb0 hs h (by omega)) (i1 (by omega) (by rw [adv_at]; omega) hb1) (see_same E pre hb1 hle h2 (by omega))
  | openBad h h1 h2 i1 => cases hb
  | none_ h => cases hb
/-- A text in brackets. -/
theorem bracket {o : Nat} (hd : d = o + 1) (ho : ∃ y, L[o]? = some y ∧ y.f0 = 17) {R : St} (h : Pr l false 1 st0 R) (hb : R.bad = false) (ha : R.at_ = l.length) :
    Pr L false 6 ⟨o, pre, false⟩ ⟨o + l.length + 2, pre ++ R.out, false⟩ := by
  subst hd
  obtain ⟨y, h1, h2⟩ := ho
  have hlt : o < L.length := (List.getElem?_eq_some_iff.1 h1).1
  have hsee : St.see L ⟨o, pre, false⟩ = 17 := by
    unfold St.see
    rw [if_neg (by simp; omega)]
    show ((L[o]?).getD ⟨0, 0, 0⟩).f0 = 17
    rw [h1]; exact h2
  have hp := Pr.emb E pre h (by omega) (Nat.zero_le _) hb
  have e0 : PX.St.adv ⟨o, pre, false⟩ = Go.Proofs.YtldcplgfkcionaaDoor.emb (o + 1) pre st0 := by simp [Go.Proofs.YtldcplgfkcionaaDoor.emb, st0, St.adv]
  have hend := (see_end E pre hb ha).1
  have := Pr.open_ hsee (by rw [e0]; exact hp) hend
  have e1 : (Go.Proofs.YtldcplgfkcionaaDoor.emb (o + 1) pre R).adv = ⟨o + l.length + 2, pre ++ R.out, false⟩ := by
    simp only [Go.Proofs.YtldcplgfkcionaaDoor.emb, St.adv, ha, hb]
    congr 1; omega
  rw [e1] at this
  exact this
end
end Go.Proofs.YtldcplgfkcionaaDoor
