/- A reader always ends. Nothing of the program. -/
import Derived.Test.YtldcplgfkcionaaDoorParsep
set_option linter.unusedVariables false
namespace Go.Proofs.YtldcplgfkcionaaDoor.PX
theorem pr_total (l : List T) (n : Nat) : (∀ (v : Nat) (s : St), 1 ≤ v → v ≤ 6 → s.at_ ≤ l.length → (l.length - s.at_) * 8 + (7 - v) < n → ∃ s', Pr l false v s s') ∧
    (∀ (v : Nat) (s : St), (v = 1 ∨ v = 2 ∨ v = 4 ∨ v = 5) → s.at_ ≤ l.length → (l.length - s.at_) * 8 < n → ∃ s', Pr l true v s s') := by
  induction n with
  | zero => exact ⟨fun _ _ _ _ _ h => by omega, fun _ _ _ _ h => by omega⟩
  | succ n ih =>
    obtain ⟨i1, i2⟩ := ih
    have tails : ∀ (v : Nat) (s : St), (v = 1 ∨ v = 2 ∨ v = 4 ∨ v = 5) → s.at_ ≤ l.length → (l.length - s.at_) * 8 < n + 1 → ∃ s', Pr l true v s s' := by
      intro v s hv ha hn
      by_cases h : level (s.see l) = v
      · have hlt := see_lt (level_see h (by omega))
        obtain ⟨s1, h1⟩ := i1 (v + 1) s.adv (by omega) (by omega) (by rw [adv_at]; omega) (by rw [adv_at]; omega)
        have hle := h1.le (by omega) (by rw [adv_at]; omega)
        rw [adv_at] at hle
        obtain ⟨s2, h2⟩ := i2 v (s1.put (s.see l) 0) hv (by rw [put_at]; omega) (by rw [put_at]; omega)
        exact ⟨s2, .more h h1 h2⟩
      · exact ⟨s, .stop h⟩
    refine ⟨?_, tails⟩
    intro v s h1 h6 ha hn
    by_cases hr : v = 1 ∨ v = 2 ∨ v = 4 ∨ v = 5
    · obtain ⟨s1, g1⟩ := i1 (v + 1) s (by omega) (by omega) ha (by omega)
      have hle := g1.le (by omega) ha
      obtain ⟨s2, g2⟩ := tails v s1 hr (by omega) (by omega)
      exact ⟨s2, .row hr g1 g2⟩
    · by_cases h3 : v = 3
      · subst h3
        by_cases h14 : s.see l = 14
        · have hlt := see_at h14 (by omega)
          obtain ⟨s1, g1⟩ := i1 3 s.adv (by omega) (by omega) (by rw [adv_at]; omega) (by rw [adv_at]; omega)
          exact ⟨_, .not_ h14 g1⟩
        · obtain ⟨s1, g1⟩ := i1 4 s (by omega) (by omega) ha (by omega)
          have hle := g1.le (by omega) ha
          by_cases hc : level (s1.see l) = 3
          · have hlt := see_lt (level_see hc (by omega))
            obtain ⟨s2, g2⟩ := i1 4 s1.adv (by omega) (by omega) (by rw [adv_at]; omega) (by rw [adv_at]; omega)
            exact ⟨_, .cmp h14 g1 hc g2⟩
          · exact ⟨_, .sum h14 g1 hc⟩
      · obtain rfl : v = 6 := by omega
        by_cases h4 : s.see l = 4
        · have hlt := see_at h4 (by omega)
          obtain ⟨s1, g1⟩ := i1 6 s.adv (by omega) (by omega) (by rw [adv_at]; omega) (by rw [adv_at]; omega)
          exact ⟨_, .neg h4 g1⟩
        · by_cases hl : s.see l = 1 ∨ s.see l = 2 ∨ s.see l = 15 ∨ s.see l = 16
          · exact ⟨_, .leaf hl⟩
          · by_cases h17 : s.see l = 17
            · have hlt := see_at h17 (by omega)
              obtain ⟨s1, g1⟩ := i1 1 s.adv (by omega) (by omega) (by rw [adv_at]; omega) (by rw [adv_at]; omega)
              by_cases h18 : s1.see l = 18
              · exact ⟨_, .open_ h17 g1 h18⟩
              · exact ⟨_, .openBad h17 g1 h18⟩
            · exact ⟨_, .none_ (by omega)⟩
theorem pr_ex (l : List T) (v : Nat) (s : St) (h1 : 1 ≤ v) (h6 : v ≤ 6) (ha : s.at_ ≤ l.length) : ∃ s', Pr l false v s s' := (pr_total l ((l.length - s.at_) * 8 + 8)).1 v s h1 h6 ha (by omega)
end Go.Proofs.YtldcplgfkcionaaDoor.PX
