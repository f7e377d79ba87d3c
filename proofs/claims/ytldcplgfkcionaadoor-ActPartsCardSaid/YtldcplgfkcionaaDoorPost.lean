/- Postfixes as trees: what a machine with a stack makes of one, and what a recursion from its end makes of it. Nothing of the program. -/
import Derived.Test.YtldcplgfkcionaaDoorPX
set_option linter.unusedVariables false
namespace Go.Proofs.YtldcplgfkcionaaDoor.PX
/-- How many a token takes; below 0: it is none of a postfix. -/
def takes (t : T) : Int :=
  if t.f2 ≠ 0 ∨ t.f1 < 0 then -1
  else if t.f0 = 1 ∨ (t.f0 = 2 ∧ t.f1 ≤ 25) then 0
  else if t.f1 ≠ 0 then -1
  else if t.f0 = 15 ∨ t.f0 = 16 then 0
  else if t.f0 = 14 ∨ t.f0 = 19 then 1
  else if 3 ≤ t.f0 ∧ t.f0 ≤ 13 then 2
  else -1
theorem takes_cases (t : T) : takes t = -1 ∨ takes t = 0 ∨ takes t = 1 ∨ takes t = 2 := by unfold takes; split <;> (try split) <;> (try split) <;> (try split) <;> (try split) <;> (try split) <;> simp
/-- How many values there are behind a postfix's part; none: it is none. -/
def mayGo : List T → Int → Option Int
  | [], n => some n
  | t :: p, n => if takes t < 0 ∨ takes t > n then none else mayGo p (n + (1 - takes t))
def may (p : List T) : Bool := decide (p.length ≤ 100) && (mayGo p 0 == some 1)
theorem mayGo_append (p q : List T) (n : Int) : mayGo (p ++ q) n = (mayGo p n).bind (mayGo q) := by
  induction p generalizing n with
  | nil => rfl
  | cons t p ih => simp only [List.cons_append, mayGo]; split <;> simp [ih]
theorem mayGo_snoc (p : List T) (t : T) (n m : Int) (h : mayGo p n = some m) : mayGo (p ++ [t]) n = if takes t < 0 ∨ takes t > m then none else some (m + (1 - takes t)) := by
  rw [mayGo_append, h]; simp only [Option.bind_some, mayGo]

inductive Tr where
  | leaf (t : T)
  | one (t : T) (a : Tr)
  | two (t : T) (a b : Tr)
namespace Tr
def flat : Tr → List T
  | leaf t => [t]
  | one t a => a.flat ++ [t]
  | two t a b => a.flat ++ b.flat ++ [t]
def wf : Tr → Prop
  | leaf t => takes t = 0
  | one t a => takes t = 1 ∧ a.wf
  | two t a b => takes t = 2 ∧ a.wf ∧ b.wf
def len (x : Tr) : Nat := x.flat.length
theorem len_pos (x : Tr) : 0 < x.flat.length := by cases x <;> simp [flat] <;> omega
end Tr
def flats : List Tr → List T
  | [] => []
  | x :: l => x.flat ++ flats l
theorem flats_append (a b : List Tr) : flats (a ++ b) = flats a ++ flats b := by
  induction a with
  | nil => rfl
  | cons x a ih => simp [flats, ih]
theorem flats_one (x : Tr) : flats [x] = x.flat := by simp [flats]
theorem two_last {α : Type} (l : List α) (h : 2 ≤ l.length) : ∃ l' a b, l = l' ++ [a, b] := by
  obtain ⟨r, b, rfl⟩ : ∃ r b, l = r ++ [b] := ⟨l.dropLast, l.getLast (by intro e; subst e; simp at h), (List.dropLast_concat_getLast _).symm⟩
  obtain ⟨r', a, rfl⟩ : ∃ r' a, r = r' ++ [a] := ⟨r.dropLast, r.getLast (by intro e; subst e; simp at h), (List.dropLast_concat_getLast _).symm⟩
  exact ⟨r', a, b, by simp⟩
theorem one_last {α : Type} (l : List α) (h : 1 ≤ l.length) : ∃ l' a, l = l' ++ [a] :=
  ⟨l.dropLast, l.getLast (by intro e; subst e; simp at h), (List.dropLast_concat_getLast _).symm⟩
/-- What may be is the postfix of trees. -/
theorem trees_of (p : List T) : ∀ (S : List Tr) (m : Int), (∀ x ∈ S, x.wf) → mayGo p S.length = some m → ∃ S' : List Tr, (∀ x ∈ S', x.wf) ∧ (S'.length : Int) = m ∧ flats S' = flats S ++ p := by
  induction p with
  | nil => intro S m hS h; simp only [mayGo, Option.some.injEq] at h; exact ⟨S, hS, h, by simp⟩
  | cons t p ih =>
    intro S m hS h
    simp only [mayGo] at h
    split at h
    · cases h
    rename_i hc
    rcases takes_cases t with e | e | e | e
    · exact absurd (.inl (by omega)) hc
    · obtain ⟨S', h1, h2, h3⟩ := ih (S ++ [.leaf t]) m (by intro x hx; simp at hx; rcases hx with hx | rfl; exact hS x hx; exact e) (by simpa [e] using h)
      exact ⟨S', h1, h2, by rw [h3, flats_append, flats_one]; simp [Tr.flat]⟩
    · obtain ⟨l, a, rfl⟩ := one_last S (by omega)
      obtain ⟨S', h1, h2, h3⟩ := ih (l ++ [.one t a]) m (by intro x hx; simp at hx; rcases hx with hx | rfl; exact hS x (by simp [hx]); exact ⟨e, hS a (by simp)⟩) (by simpa [e] using h)
      exact ⟨S', h1, h2, by rw [h3, flats_append, flats_append, flats_one, flats_one]; simp [Tr.flat]⟩
    · obtain ⟨l, a, b, rfl⟩ := two_last S (by omega)
      obtain ⟨S', h1, h2, h3⟩ := ih (l ++ [.two t a b]) m (by intro x hx; simp at hx; rcases hx with hx | rfl; exact hS x (by simp [hx]); exact ⟨e, hS a (by simp), hS b (by simp)⟩) (by
        have e1 : ((l ++ [a, b]).length : Int) + (1 - takes t) = ((l ++ [Tr.two t a b]).length : Int) := by simp [e]; omega
        rw [← e1]; exact h)
      exact ⟨S', h1, h2, by rw [h3, flats_append, flats_append, flats_one]; simp [Tr.flat, flats]⟩
theorem tree_of {p : List T} (h : mayGo p 0 = some 1) : ∃ x : Tr, x.wf ∧ p = x.flat := by
  obtain ⟨S, h1, h2, h3⟩ := trees_of p [] 1 (by simp) (by simpa using h)
  obtain ⟨x, rfl⟩ : ∃ x, S = [x] := by
    match S, h2 with
    | [x], _ => exact ⟨x, rfl⟩
    | [], h2 => simp at h2
    | _ :: _ :: _, h2 => simp at h2; omega
  exact ⟨x, h1 x (by simp), by rw [flats_one] at h3; simpa [flats] using h3.symm⟩
theorem mayGo_tree (x : Tr) (h : x.wf) (n : Int) (hn : 0 ≤ n) (q : List T) : mayGo (x.flat ++ q) n = mayGo q (n + 1) := by
  induction x generalizing n q with
  | leaf t => obtain h : takes t = 0 := h; simp only [Tr.flat, List.cons_append, List.nil_append, mayGo]; rw [if_neg (by omega), h]; rfl
  | one t a ih =>
    obtain ⟨h, ha⟩ := h
    simp only [Tr.flat, List.append_assoc]
    rw [ih ha n hn]
    simp only [List.cons_append, List.nil_append, mayGo]; rw [if_neg (by omega), h]; congr 1; omega
  | two t a b ia ib =>
    obtain ⟨h, ha, hb⟩ := h
    simp only [Tr.flat, List.append_assoc]
    rw [ia ha n hn, ib hb (n + 1) (by omega)]
    simp only [List.cons_append, List.nil_append, mayGo]; rw [if_neg (by omega), h]; congr 1; omega

section machine
variable {V : Type} (lf : T → Except Int V) (op1 : T → V → Except Int V) (op2 : T → V → V → Except Int V)
/-- One step of the machine with a stack; its top is the last. -/
def step (t : T) (l : List V) : Except Int (List V) :=
  if takes t = 0 then (lf t).map fun v => l ++ [v]
  else if takes t = 1 then match l.getLast? with
    | some a => (op1 t a).map fun v => l.dropLast ++ [v]
    | none => .error 0
  else match l.getLast?, l.dropLast.getLast? with
    | some b, some a => (op2 t a b).map fun v => l.dropLast.dropLast ++ [v]
    | _, _ => .error 0
theorem step_leaf {t : T} (h : takes t = 0) (l : List V) : step lf op1 op2 t l = (lf t).map fun v => l ++ [v] := by simp [step, h]
theorem step_one {t : T} (h : takes t = 1) (l : List V) (a : V) : step lf op1 op2 t (l ++ [a]) = (op1 t a).map fun v => l ++ [v] := by simp [step, h]
theorem step_two {t : T} (h : takes t = 2) (l : List V) (a b : V) : step lf op1 op2 t (l ++ [a, b]) = (op2 t a b).map fun v => l ++ [v] := by
  have e : l ++ [a, b] = (l ++ [a]) ++ [b] := by simp
  rw [e]
  simp [step, h]
/-- The machine's way through a postfix. -/
def runs : List T → List V → Except Int (List V)
  | [], l => .ok l
  | t :: p, l => (step lf op1 op2 t l).bind (runs p)
theorem runs_append (p q : List T) (l : List V) : runs lf op1 op2 (p ++ q) l = (runs lf op1 op2 p l).bind (runs lf op1 op2 q) := by
  induction p generalizing l with
  | nil => rfl
  | cons t p ih =>
    simp only [List.cons_append, runs]
    cases step lf op1 op2 t l with
    | error e => rfl
    | ok l' => exact ih l'
/-- The value of a tree. -/
def val : Tr → Except Int V
  | .leaf t => lf t
  | .one t a => (val a).bind (op1 t)
  | .two t a b => (val a).bind fun x => (val b).bind fun y => op2 t x y
theorem runs_tree (x : Tr) (h : x.wf) (l : List V) (q : List T) : runs lf op1 op2 (x.flat ++ q) l = (val lf op1 op2 x).bind fun v => runs lf op1 op2 q (l ++ [v]) := by
  induction x generalizing l q with
  | leaf t =>
    simp only [Tr.flat, List.cons_append, List.nil_append, runs, val]
    rw [step_leaf _ _ _ h]
    cases lf t <;> rfl
  | one t a ih =>
    obtain ⟨h, ha⟩ := h
    simp only [Tr.flat, List.append_assoc, val]
    rw [ih ha]
    cases val lf op1 op2 a with
    | error e => rfl
    | ok v =>
      simp only [Except.bind, List.cons_append, List.nil_append, runs]
      rw [step_one _ _ _ h]
      cases op1 t v <;> rfl
  | two t a b ia ib =>
    obtain ⟨h, ha, hb⟩ := h
    simp only [Tr.flat, List.append_assoc, val]
    rw [ia ha]
    cases val lf op1 op2 a with
    | error e => rfl
    | ok v =>
      simp only [Except.bind]
      rw [ib hb]
      cases val lf op1 op2 b with
      | error e => rfl
      | ok u =>
        simp only [Except.bind, List.cons_append, List.nil_append, runs, List.append_assoc]
        rw [step_two _ _ _ h]
        cases op2 t v u <;> rfl
/-- Each step leaves as many as it must. -/
theorem runs_len (p : List T) : ∀ (l l' : List V) (m : Int), runs lf op1 op2 p l = .ok l' → mayGo p l.length = some m → (l'.length : Int) = m := by
  induction p with
  | nil => intro l l' m h h2; simp only [runs, Except.ok.injEq] at h; simp only [mayGo, Option.some.injEq] at h2; rw [← h]; exact h2
  | cons t p ih =>
    intro l l' m h h2
    simp only [mayGo] at h2
    split at h2
    · cases h2
    rename_i hc
    simp only [runs] at h
    cases hs : step lf op1 op2 t l with
    | error e => rw [hs] at h; cases h
    | ok l1 =>
      rw [hs] at h
      have hl : (l1.length : Int) = l.length + (1 - takes t) := by
        rcases takes_cases t with e | e | e | e
        · exact absurd (.inl (by omega)) hc
        · rw [step_leaf _ _ _ e] at hs
          cases hv : lf t with
          | error e => rw [hv] at hs; cases hs
          | ok v => rw [hv] at hs; simp only [Except.map, Except.ok.injEq] at hs; rw [← hs, e]; simp
        · obtain ⟨r, a, rfl⟩ := one_last l (by omega)
          rw [step_one _ _ _ e] at hs
          cases hv : op1 t a with
          | error e => rw [hv] at hs; cases hs
          | ok v => rw [hv] at hs; simp only [Except.map, Except.ok.injEq] at hs; rw [← hs, e]; simp
        · obtain ⟨r, a, b, rfl⟩ := two_last l (by omega)
          rw [step_two _ _ _ e] at hs
          cases hv : op2 t a b with
          | error e => rw [hv] at hs; cases hs
          | ok v => rw [hv] at hs; simp only [Except.map, Except.ok.injEq] at hs; rw [← hs, e]; simp; omega
      exact ih l1 l' m h (by rw [hl]; exact h2)
theorem mayGo_take {p : List T} {n m : Int} (h : mayGo p n = some m) (q : Nat) : ∃ k, mayGo (p.take q) n = some k := by
  have e : p = p.take q ++ p.drop q := (List.take_append_drop q p).symm
  rw [e, mayGo_append] at h
  cases hk : mayGo (p.take q) n with
  | none => rw [hk] at h; cases h
  | some k => exact ⟨k, rfl⟩
/-- At a token of a postfix that may be, the machine has as many as it takes. -/
theorem may_at {p : List T} (h : mayGo p 0 = some 1) (q : Nat) (hq : q < p.length) {l : List V} (hr : runs lf op1 op2 (p.take q) [] = .ok l) :
    0 ≤ takes p[q] ∧ takes p[q] ≤ l.length := by
  obtain ⟨k, hk⟩ := mayGo_take h q
  have hl := runs_len lf op1 op2 (p.take q) [] l k hr hk
  obtain ⟨k', hk'⟩ := mayGo_take h (q + 1)
  rw [List.take_succ_eq_append_getElem hq, mayGo_snoc _ _ _ _ hk] at hk'
  split at hk'
  · cases hk'
  · rename_i hc; omega
theorem runs_snoc (p : List T) (q : Nat) (hq : q < p.length) {l : List V} (hr : runs lf op1 op2 (p.take q) [] = .ok l) : runs lf op1 op2 (p.take (q + 1)) [] = step lf op1 op2 p[q] l := by
  rw [List.take_succ_eq_append_getElem hq, runs_append, hr]
  simp only [Except.bind, runs]
  cases step lf op1 op2 p[q] l <;> rfl
theorem runs_fail (p : List T) (q : Nat) {e : Int} (hr : runs lf op1 op2 (p.take q) [] = .error e) : runs lf op1 op2 p [] = .error e := by
  have h : p = p.take q ++ p.drop q := (List.take_append_drop q p).symm
  rw [h, runs_append, hr]
  rfl
/-- What a postfix that may be comes to. -/
def value (p : List T) : Except Int V := (runs lf op1 op2 p []).bind fun l => match l with | v :: _ => .ok v | [] => .error 0
theorem value_tree (x : Tr) (h : x.wf) : value lf op1 op2 x.flat = val lf op1 op2 x := by
  unfold value
  have := runs_tree lf op1 op2 x h [] []
  rw [List.append_nil] at this
  rw [this]
  cases val lf op1 op2 x <;> rfl
end machine
end Go.Proofs.YtldcplgfkcionaaDoor.PX
