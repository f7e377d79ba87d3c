/- The parser's relation, reckoned: for texts that are given. Nothing of the walk. -/
import Derived.Test.YtldcplgfkcionaaDoorParse
set_option linter.unusedVariables false
namespace Go.Proofs.YtldcplgfkcionaaDoor
open PX
def lexF : Nat → List UInt8 → Nat → Option (List T × Option Nat)
  | 0, _, _ => none
  | _ + 1, [], _ => some ([], none)
  | n + 1, c :: l, a =>
    if c = 32 then lexF n l (a + 1)
    else match first (c :: l) with
      | none => some ([], some a)
      | some (k, m, j) => (lexF n ((c :: l).drop j) (a + j)).map fun r => (⟨k, m, (a : Int)⟩ :: r.1, r.2)
theorem lexF_sound (n : Nat) : ∀ (l : List UInt8) (a : Nat) (r : List T × Option Nat), lexF n l a = some r → lexAt l a = r := by
  induction n with
  | zero => intro l a r h; cases h
  | succ n ih =>
    intro l a r h
    cases l with
    | nil => simp only [lexF, Option.some.injEq] at h; rw [lexAt_nil, h]
    | cons c l =>
      simp only [lexF] at h
      by_cases hc : c = 32
      · subst hc
        rw [if_pos rfl] at h
        rw [lexAt_space]; exact ih _ _ _ h
      · rw [if_neg hc] at h
        cases hf : first (c :: l) with
        | none => rw [hf] at h; simp only [Option.some.injEq] at h; rw [lexAt_bad hc hf, h]
        | some x =>
          obtain ⟨k, m, j⟩ := x
          rw [hf] at h
          simp only [Option.map_eq_some_iff] at h
          obtain ⟨r', h1, h2⟩ := h
          rw [lexAt_tok hc hf, ih _ _ _ h1, h2]
def prF : Nat → List T → Bool → Nat → St → Option St
  | 0, _, _, _, _ => none
  | n + 1, l, false, v, s =>
    if v = 1 ∨ v = 2 ∨ v = 4 ∨ v = 5 then (prF n l false (v + 1) s).bind fun s1 => prF n l true v s1
    else if v = 3 then
      if s.see l = 14 then (prF n l false 3 s.adv).map fun s1 => s1.put 14 0
      else (prF n l false 4 s).bind fun s1 => if level (s1.see l) = 3 then (prF n l false 4 s1.adv).map fun s2 => s2.put (s1.see l) 0 else some s1
    else if v = 6 then
      if s.see l = 4 then (prF n l false 6 s.adv).map fun s1 => s1.put 19 0
      else if s.see l = 1 ∨ s.see l = 2 ∨ s.see l = 15 ∨ s.see l = 16 then some (s.adv.put (s.see l) (s.num l))
      else if s.see l = 17 then (prF n l false 1 s.adv).map fun s1 => if s1.see l = 18 then s1.adv else s1.fail
      else some s.fail
    else none
  | n + 1, l, true, v, s =>
    if level (s.see l) = v then (prF n l false (v + 1) s.adv).bind fun s1 => prF n l true v (s1.put (s.see l) 0) else some s
theorem prF_sound (l : List T) (n : Nat) : ∀ (b : Bool) (v : Nat) (s s' : St), prF n l b v s = some s' → Pr l b v s s' := by
  induction n with
  | zero => intro b v s s' h; cases h
  | succ n ih =>
    intro b v s s' h
    cases b with
    | true =>
      simp only [prF] at h
      split at h
      · rename_i hv
        obtain ⟨s1, h1, h2⟩ := Option.bind_eq_some_iff.1 h
        exact .more hv (ih _ _ _ _ h1) (ih _ _ _ _ h2)
      · rename_i hv
        simp only [Option.some.injEq] at h
        subst h
        exact .stop hv
    | false =>
      simp only [prF] at h
      split at h
      · rename_i hv
        obtain ⟨s1, h1, h2⟩ := Option.bind_eq_some_iff.1 h
        exact .row hv (ih _ _ _ _ h1) (ih _ _ _ _ h2)
      · split at h
        · rename_i hv
          subst hv
          split at h
          · rename_i h14
            obtain ⟨s1, h1, rfl⟩ := Option.map_eq_some_iff.1 h
            exact .not_ h14 (ih _ _ _ _ h1)
          · rename_i h14
            obtain ⟨s1, h1, h2⟩ := Option.bind_eq_some_iff.1 h
            split at h2
            · rename_i h3
              obtain ⟨s2, h4, rfl⟩ := Option.map_eq_some_iff.1 h2
              exact .cmp h14 (ih _ _ _ _ h1) h3 (ih _ _ _ _ h4)
            · rename_i h3
              simp only [Option.some.injEq] at h2
              subst h2
              exact .sum h14 (ih _ _ _ _ h1) h3
        · split at h
          · rename_i hv
            subst hv
            split at h
            · rename_i h4
              obtain ⟨s1, h1, rfl⟩ := Option.map_eq_some_iff.1 h
              exact .neg h4 (ih _ _ _ _ h1)
            · split at h
              · rename_i hl
                simp only [Option.some.injEq] at h
                subst h
                exact .leaf hl
              · split at h
                · rename_i h17
                  obtain ⟨s1, h1, rfl⟩ := Option.map_eq_some_iff.1 h
                  split
                  · rename_i h18; exact .open_ h17 (ih _ _ _ _ h1) h18
                  · rename_i h18; exact .openBad h17 (ih _ _ _ _ h1) h18
                · simp only [Option.some.injEq] at h
                  subst h
                  exact .none_ (by omega)
          · cases h
/-- The postfix of a text that is given. -/
theorem parsed_run (n m : Nat) (s : List UInt8) (l : List T) (R : St) (hs : s.length ≤ 200) (h1 : lexF n s 0 = some (l, none)) (h2 : prF m l false 1 st0 = some R) : Parsed s (parsedOf l s.length R) := by
  have hl := lexF_sound n s 0 _ h1
  unfold Parsed
  have hx : lexed s = (l, .none) := by rw [lexed, if_neg (by omega), hl]
  rw [hx]
  exact ⟨R, prF_sound l m _ _ _ _ h2, rfl⟩
end Go.Proofs.YtldcplgfkcionaaDoor
