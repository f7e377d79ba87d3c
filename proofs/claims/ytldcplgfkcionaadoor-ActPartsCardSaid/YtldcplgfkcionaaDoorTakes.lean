/- How many a token takes, and which postfixes may be: both texts. -/
import Derived.Test.YtldcplgfkcionaaDoorPost
import Derived.Test.YtldcplgfkcionaaDoorEvl
import Derived.Test.YtldcplgfkcionaaDoorTokArg
import Derived.Test.YtldcplgfkcionaaDoorPAllPar
import Derived.Test.YtldcplgfkcionaaDoorParsep
set_option linter.unusedVariables false
set_option linter.unusedSimpArgs false
namespace Go.Proofs.YtldcplgfkcionaaDoor
open Go.RowKit PX Go.Proofs.YtldcplgfkcionaaDoorW.PrintWords
theorem takes0 {t : T} (h : takes t = 0) : (t.f0 = 1 ∨ t.f0 = 2 ∨ t.f0 = 15 ∨ t.f0 = 16) ∧ 0 ≤ t.f1 ∧ (t.f0 = 2 → t.f1 ≤ 25) := by
  unfold takes at h
  split at h
  · cases h
  · split at h
    · omega
    · split at h
      · cases h
      · split at h
        · omega
        · split at h
          · cases h
          · split at h <;> cases h
theorem takes1 {t : T} (h : takes t = 1) : t.f0 = 14 ∨ t.f0 = 19 := by
  unfold takes at h
  split at h
  · cases h
  · split at h
    · cases h
    · split at h
      · cases h
      · split at h
        · cases h
        · split at h
          · omega
          · split at h <;> cases h
theorem takes2 {t : T} (h : takes t = 2) : 3 ≤ t.f0 ∧ t.f0 ≤ 13 := by
  unfold takes at h
  split at h
  · cases h
  · split at h
    · cases h
    · split at h
      · cases h
      · split at h
        · cases h
        · split at h
          · cases h
          · split at h
            · omega
            · cases h
theorem takes_f (K : Nat) (k n c : Int) : PAll.parse_takes.f (K + 5) k n c = some (takes ⟨k, n, c⟩) := by
  simp only [PAll.parse_takes.f, PAll.parse_takes.j0, PAll.parse_takes.j1, PAll.parse_takes.j2, PAll.parse_takes.j3, takes, decide_eq_true_eq, beq_iff_eq, if_true, if_false, Bool.false_eq_true]
  by_cases h1 : c = 0
  · by_cases h2 : n < 0
    · simp [h1, h2]
    · by_cases h3 : k = 1
      · simp [h1, h2, h3]
      · by_cases h4 : k = 2
        · subst h4
          by_cases h5 : n ≤ 25
          · simp [h1, h2, h5]
          · have h6 : n ≠ 0 := by omega
            simp [h1, h2, h5, h6]
        · by_cases h6 : n = 0
          · subst h6
            by_cases a15 : k = 15
            · subst a15; simp [h1]
            by_cases a16 : k = 16
            · subst a16; simp [h1]
            by_cases a14 : k = 14
            · subst a14; simp [h1]
            by_cases a19 : k = 19
            · subst a19; simp [h1]
            by_cases a3 : 3 ≤ k
            · by_cases a13 : k ≤ 13
              · simp [h1, h3, h4, a15, a16, a14, a19, a3, a13]
              · simp [h1, h3, h4, a15, a16, a14, a19, a3, a13]
            · simp [h1, h3, h4, a15, a16, a14, a19, a3]
          · simp [h1, h2, h3, h4, h6]
  · simp [h1]
theorem level_two (k : Int) : (0 < level k) ↔ 3 ≤ k ∧ k ≤ 13 := by
  unfold level
  repeat' split
  all_goals omega
theorem takes_any (t : T) (w : World) : Calls Tryd.prog 53 #[.agg #[.int .i64 t.f0, .int .i64 t.f1, .int .i64 t.f2]] w fun e w' => e = .returned (.int .i64 (takes t)) ∧ Below w.heap.size w w' :=
  PAll.parse_takes.calls 5 t.f0 t.f1 t.f2 _ w (takes_f 0 t.f0 t.f1 t.f2)
theorem mayL_ev (l : List T) (hl : l.length ≤ 100) (d : Nat) : ∀ (q : Nat) (n : Int), q ≤ l.length → l.length - q = d → 0 ≤ n → n ≤ q → Ev (fun k => PAll.parse_May.l0 k n l l.length q) (mayGo (l.drop q) n == some 1) := by
  induction d with
  | zero =>
    intro q n hq hd hn hn2
    obtain rfl : q = l.length := by omega
    refine Ev.step (fun k => rfl) ?_
    simp only [PAll.parse_May.l0]
    refine ev_neg (by omega) ?_
    rw [List.drop_of_length_le (Nat.le_refl _)]
    have e : (mayGo [] n == some 1) = (n == 1) := by simp [mayGo]
    rw [e]
    exact Ev.now _
  | succ d ih =>
    intro q n hq hd hn hn2
    have hlt : q < l.length := by omega
    refine Ev.step (fun k => rfl) ?_
    simp only [PAll.parse_May.l0]
    refine ev_pos (by omega) (ev_pos (by omega) (ev_pos (by omega) ?_))
    have hti : PAll.rd_T40 l q = l[q] := by simp [PAll.rd_T40, List.getD_eq_getElem?_getD, List.getElem?_eq_getElem hlt]
    rw [hti, List.drop_eq_getElem_cons hlt]
    simp only [mayGo]
    have ht : Ev (fun k => PAll.parse_takes.f k l[q].f0 l[q].f1 l[q].f2) (takes l[q]) := Ev.of (fun k => PAll.parse_takes.mono _ _ _ k) (takes_f 0 _ _ _)
    refine Ev.bind ht ?_
    have hc := takes_cases l[q]
    by_cases h0 : takes l[q] < 0
    · refine ev_pos h0 ?_
      rw [if_pos (.inl h0)]
      exact Ev.now _
    · refine ev_neg h0 ?_
      by_cases h1 : takes l[q] > n
      · refine ev_pos h1 ?_
        rw [if_pos (.inr h1)]
        exact Ev.now _
      · refine ev_neg h1 ?_
        have e1 : wrap64 (1 - takes l[q]) = 1 - takes l[q] := w64 (by omega) (by omega)
        rw [if_neg (by omega), e1, w64 (by omega) (by omega), w64 (by omega) (by omega)]
        have := ih (q + 1) (n + (1 - takes l[q])) (by omega) (by omega) (by omega) (by omega)
        exact this
theorem may_f (l : List T) : ∃ k, PAll.parse_May.f k l = some (may l) := by
  by_cases h : l.length ≤ 100
  · have := mayL_ev l h l.length 0 0 (by omega) (by omega) (by omega) (by omega)
    obtain ⟨k, hk⟩ := Ev.rounds this
    refine ⟨k, ?_⟩
    unfold PAll.parse_May.f
    rw [if_neg (by omega)]
    simpa [may, h] using hk
  · refine ⟨0, ?_⟩
    unfold PAll.parse_May.f
    rw [if_pos (by omega)]
    simp [may, h]
theorem may_any (A : Option Addr) (c : Nat) (l : List T) (w : World) (hC : ToksC w A l.length l) (hc : l.length ≤ c) :
    Calls Tryd.prog 26 #[.slice A l.length c] w fun e w' => e = .returned (.bool (may l)) ∧ Below w.heap.size w w' := by
  obtain ⟨k, hk⟩ := may_f l
  exact PAll.parse_May.calls k A c l _ w hC hc hk
end Go.Proofs.YtldcplgfkcionaaDoor
