/- A postfix's text: what the parser's Text does. -/
import Derived.Test.YtldcplgfkcionaaDoorTakes
import Derived.Test.YtldcplgfkcionaaDoorTold
set_option linter.unusedVariables false
set_option linter.unusedSimpArgs false
namespace Go.Proofs.YtldcplgfkcionaaDoor
open Go.RowKit PX Go.Proofs.YtldcplgfkcionaaDoorW.PrintWords
/-- The sign of one that takes two, with its spaces. -/
def sgn (k : Int) : List UInt8 := if 12 ≤ k then [32] ++ kText k ++ [32] else kText k
def fit (s : List UInt8) : Except Int (List UInt8) := if 200 < s.length then .error 3 else .ok s
/-- The text of one that takes nothing, one, or two. -/
def leafT (t : T) : List UInt8 := if t.f0 = 1 then Lib.itoa t.f1 else if t.f0 = 2 then [UInt8.ofNat (97 + t.f1.toNat)] else if t.f0 = 15 then [116, 114, 117, 101] else [102, 97, 108, 115, 101]
def oneT (t : T) (a : List UInt8) : List UInt8 := if t.f0 = 19 then [40, 45] ++ a ++ [41] else [40, 110, 111, 116, 32] ++ a ++ [41]
def twoT (t : T) (a b : List UInt8) : List UInt8 := [40] ++ a ++ sgn t.f0 ++ b ++ [41]
abbrev runsT := runs (fun t => .ok (leafT t)) (fun t a => fit (oneT t a)) (fun t a b => fit (twoT t a b))
abbrev stepT := PX.step (fun t => .ok (leafT t)) (fun t a => fit (oneT t a)) (fun t a b => fit (twoT t a b))
abbrev valT := val (fun t => .ok (leafT t)) (fun t a => fit (oneT t a)) (fun t a b => fit (twoT t a b))
abbrev valueT := value (fun t => .ok (leafT t)) (fun t a => fit (oneT t a)) (fun t a b => fit (twoT t a b))
def toldT : Except Int (List UInt8) → List UInt8 × Er
  | .ok s => (s, .none)
  | .error c => ([], .code c)
def ptextOf (p : List T) : List UInt8 × Er := if may p then toldT (valueT p) else ([], .code 1)
theorem value_fail (p : List T) (q : Nat) {t : T} {xs r : List (List UInt8)} {s : List UInt8} (h1 : runsT (p.take (q + 1)) [] = stepT t xs) (h2 : stepT t xs = (fit s).map fun v => r ++ [v]) (h : 200 < s.length) : toldT (valueT p) = ([], .code 3) := by
  rw [h2, fit, if_pos h] at h1
  have := runs_fail _ _ _ p (q + 1) h1
  unfold valueT value
  rw [this]
  rfl
theorem takes0 {t : T} (h : takes t = 0) : (t.f0 = 1 ∨ t.f0 = 2 ∨ t.f0 = 15 ∨ t.f0 = 16) ∧ 0 ≤ t.f1 ∧ (t.f0 = 2 → t.f1 ≤ 25) := by
  unfold takes at h
  split at h
  · cases h
  · split at h
    · omega
    · split at h
      · cases h
      · split at h
        · omega
        · split at h
          · cases h
          · split at h <;> cases h
theorem takes1 {t : T} (h : takes t = 1) : t.f0 = 14 ∨ t.f0 = 19 := by
  unfold takes at h
  split at h
  · cases h
  · split at h
    · cases h
    · split at h
      · cases h
      · split at h
        · cases h
        · split at h
          · omega
          · split at h <;> cases h
theorem takes2 {t : T} (h : takes t = 2) : 3 ≤ t.f0 ∧ t.f0 ≤ 13 := by
  unfold takes at h
  split at h
  · cases h
  · split at h
    · cases h
    · split at h
      · cases h
      · split at h
        · cases h
        · split at h
          · cases h
          · split at h
            · omega
            · cases h
abbrev signTab : Array Value := #[.string ⟨#[]⟩, .string ⟨#[]⟩, .string ⟨#[]⟩, .string ⟨#[43]⟩, .string ⟨#[45]⟩, .string ⟨#[42]⟩, .string ⟨#[47]⟩, .string ⟨#[37]⟩, .string ⟨#[60]⟩, .string ⟨#[60, 61]⟩, .string ⟨#[61, 61]⟩, .string ⟨#[33, 61]⟩, .string ⟨#[32, 97, 110, 100, 32]⟩, .string ⟨#[32, 111, 114, 32]⟩]
theorem sign_index (w : World) : (Instr.index 145 (.agg signTab) (.int .i64 3)).run Tryd.prog w = .ok (.string ⟨#[43]⟩) w ∧
    (Instr.index 145 (.agg signTab) (.int .i64 4)).run Tryd.prog w = .ok (.string ⟨#[45]⟩) w ∧
    (Instr.index 145 (.agg signTab) (.int .i64 5)).run Tryd.prog w = .ok (.string ⟨#[42]⟩) w ∧
    (Instr.index 145 (.agg signTab) (.int .i64 6)).run Tryd.prog w = .ok (.string ⟨#[47]⟩) w ∧
    (Instr.index 145 (.agg signTab) (.int .i64 7)).run Tryd.prog w = .ok (.string ⟨#[37]⟩) w ∧
    (Instr.index 145 (.agg signTab) (.int .i64 8)).run Tryd.prog w = .ok (.string ⟨#[60]⟩) w ∧
    (Instr.index 145 (.agg signTab) (.int .i64 9)).run Tryd.prog w = .ok (.string ⟨#[60, 61]⟩) w ∧
    (Instr.index 145 (.agg signTab) (.int .i64 10)).run Tryd.prog w = .ok (.string ⟨#[61, 61]⟩) w ∧
    (Instr.index 145 (.agg signTab) (.int .i64 11)).run Tryd.prog w = .ok (.string ⟨#[33, 61]⟩) w ∧
    (Instr.index 145 (.agg signTab) (.int .i64 12)).run Tryd.prog w = .ok (.string ⟨#[32, 97, 110, 100, 32]⟩) w ∧
    (Instr.index 145 (.agg signTab) (.int .i64 13)).run Tryd.prog w = .ok (.string ⟨#[32, 111, 114, 32]⟩) w :=
  ⟨by kernel_rfl, by kernel_rfl, by kernel_rfl, by kernel_rfl, by kernel_rfl, by kernel_rfl, by kernel_rfl, by kernel_rfl, by kernel_rfl, by kernel_rfl, by kernel_rfl⟩
set_option maxHeartbeats 4000000 in
set_option maxRecDepth 100000 in
theorem psign_any (k : Int) (h1 : 3 ≤ k) (h2 : k ≤ 13) (w : World) : Calls Tryd.prog 55 #[.int .i64 k] w fun e w' => e = .returned (.string (bytesArr (sgn k))) ∧ w' = w := by
  obtain ⟨x3, x4, x5, x6, x7, x8, x9, x10, x11, x12, x13⟩ := sign_index w
  simp only [signTab] at x3 x4 x5 x6 x7 x8 x9 x10 x11 x12 x13
  obtain rfl | rfl | rfl | rfl | rfl | rfl | rfl | rfl | rfl | rfl | rfl : k = 3 ∨ k = 4 ∨ k = 5 ∨ k = 6 ∨ k = 7 ∨ k = 8 ∨ k = 9 ∨ k = 10 ∨ k = 11 ∨ k = 12 ∨ k = 13 := by omega
  all_goals
    go_enter Tryd.func55, Tryd.ntmps55
    go_wp2_with fail
    go_ret
    exact ⟨rfl, rfl⟩
end Go.Proofs.YtldcplgfkcionaaDoor
