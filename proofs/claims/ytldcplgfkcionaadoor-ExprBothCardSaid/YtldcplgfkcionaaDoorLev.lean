/- What Level tells. -/
import Derived.Test.YtldcplgfkcionaaDoorPAllRef3
import Derived.Test.YtldcplgfkcionaaDoorParsep
set_option linter.unusedVariables false
set_option linter.unusedSimpArgs false
namespace Go.Proofs.YtldcplgfkcionaaDoor
open Go.RowKit PX Go.Proofs.YtldcplgfkcionaaDoorW.PrintWords
theorem level_f (k : Int) : PAll.spinetref03_Level.f 3 k = some (level k : Int) := by
  simp only [PAll.spinetref03_Level.f, PAll.spinetref03_Level.j0, PAll.spinetref03_Level.j1, level]
  by_cases h1 : k = 13
  · simp [h1]
  by_cases h2 : k = 12
  · simp [h2]
  by_cases h3 : 8 ≤ k
  · by_cases h4 : k ≤ 11
    · simp [h1, h2, h3, h4]
    · have n3 : k ≠ 3 := by omega
      have n4 : k ≠ 4 := by omega
      have n7 : ¬ k ≤ 7 := by omega
      simp [h1, h2, h3, h4, n3, n4, n7]
  · by_cases h5 : k = 3
    · subst h5; simp
    · by_cases h6 : k = 4
      · subst h6; simp
      · by_cases h7 : 5 ≤ k
        · have n7 : k ≤ 7 := by omega
          simp [h1, h2, h3, h5, h6, h7, n7]
        · simp [h1, h2, h3, h5, h6, h7]
theorem level_any (k : Int) (w : World) : Calls Tryd.prog 83 #[.int .i64 k] w fun e w' => e = .returned (.int .i64 (level k : Nat)) ∧ ∃ n, w' = w.drewN n :=
  (PAll.spinetref03_Level.calls 3 k _ w (level_f k)).mono fun e w' ⟨he, hd⟩ => ⟨he, by obtain ⟨n, hn⟩ := hd; exact ⟨n, hn⟩⟩
end Go.Proofs.YtldcplgfkcionaaDoor
