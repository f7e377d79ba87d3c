/- What a postfix is worth: the program's machine, and the reference's recursion. Nothing of the walk. -/
import Derived.Test.YtldcplgfkcionaaDoorNump
import Derived.Test.YtldcplgfkcionaaDoorTakes
import Derived.Test.YtldcplgfkcionaaDoorPAllEnd
set_option linter.unusedVariables false
set_option linter.unusedSimpArgs false
namespace Go.Proofs.YtldcplgfkcionaaDoor
open Go.RowKit Go.Proofs.YtldcplgfkcionaaDoorW.PrintWords
open PX (T V Tr takes runs val value mayGo may tree_of takes_cases)
def truthV (b : Bool) : V := (2, if b then 1 else 0)
def wholeV (n : Int) : V := (1, n)
/-- What a variable holds. -/
def lookV (typed : Bool) (vars : Int) (env : List Int) (v : Int) : Option Int :=
  if typed then if v < vars then some 0 else none else if v < env.length then some (rd env v) else none
def leafE (look : Int → Option Int) (t : T) : Except Int V :=
  if t.f0 = 1 then .ok (wholeV t.f1) else if t.f0 = 2 then (match look t.f1 with | some n => .ok (wholeV n) | none => .error 4) else .ok (truthV (t.f0 == 15))
def oneE (t : T) (a : V) : Except Int V :=
  if t.f0 = 19 ∧ a.1 = 1 then .ok (wholeV (wrap64 (-a.2))) else if t.f0 = 14 ∧ a.1 = 2 then .ok (truthV (a.2 == 0)) else .error 8
def numE (k a b : Int) : Except Int V :=
  if k = 3 then .ok (wholeV (wrap64 (a + b))) else if k = 4 then .ok (wholeV (wrap64 (a - b))) else if k = 5 then .ok (wholeV (wrap64 (a * b)))
  else if k = 6 then (if b = 0 then .error 9 else .ok (wholeV (wrap64 (a.tdiv b)))) else if k = 7 then (if b = 0 then .error 9 else .ok (wholeV (a.tmod b)))
  else if k = 8 then .ok (truthV (decide (a < b))) else if k = 9 then .ok (truthV (decide (a ≤ b))) else .error 8
def bothE (k : Int) (a b : V) : Except Int V :=
  if a.1 ≠ b.1 then .error 8 else if k = 10 then .ok (truthV (a.2 == b.2)) else if k = 11 then .ok (truthV (!(a.2 == b.2)))
  else if a.1 = 1 then numE k a.2 b.2
  else if k = 12 then .ok (truthV (decide (wrap64 (a.2 + b.2) > 1))) else if k = 13 then .ok (truthV (decide (wrap64 (a.2 + b.2) > 0))) else .error 8
/-- A division by 0 gives 0 where types are asked for. -/
def zeroE (typed : Bool) : Except Int V → Except Int V
  | .error e => if e = 9 ∧ typed = true then .ok (wholeV 0) else .error e
  | .ok v => .ok v
def twoE (typed : Bool) (t : T) (a b : V) : Except Int V := zeroE typed (bothE t.f0 a b)
abbrev runsE (look : Int → Option Int) (typed : Bool) := runs (leafE look) oneE (twoE typed)
abbrev stepE (look : Int → Option Int) (typed : Bool) := PX.step (leafE look) oneE (twoE typed)
abbrev valE (look : Int → Option Int) (typed : Bool) := val (leafE look) oneE (twoE typed)
abbrev valueE (look : Int → Option Int) (typed : Bool) := value (leafE look) oneE (twoE typed)
/-- A value as it may be. -/
def VOk (v : V) : Prop := (v.1 = 1 ∨ v.1 = 2 ∧ (v.2 = 0 ∨ v.2 = 1)) ∧ -9223372036854775808 ≤ v.2 ∧ v.2 ≤ 9223372036854775807
theorem truthV_ok (b : Bool) : VOk (truthV b) := by cases b <;> simp [truthV, VOk]
theorem wholeV_ok {n : Int} (h1 : -9223372036854775808 ≤ n) (h2 : n ≤ 9223372036854775807) : VOk (wholeV n) := ⟨.inl rfl, h1, h2⟩
theorem wholeV_wrap (n : Int) : VOk (wholeV (wrap64 n)) := wholeV_ok (wrap_in n).1 (wrap_in n).2
def EOk (e : Except Int V) : Prop := match e with | .ok v => VOk v | .error c => c = 4 ∨ c = 8 ∨ c = 9
theorem numE_ok (k : Int) {a b : Int} (ha : -9223372036854775808 ≤ a ∧ a ≤ 9223372036854775807) : EOk (numE k a b) := by
  have := tmod_bounds a b ha.1 ha.2
  unfold numE
  repeat' split
  all_goals first | exact wholeV_wrap _ | exact truthV_ok _ | exact wholeV_ok this.1 this.2 | exact .inr (.inl rfl) | exact .inr (.inr rfl)
theorem oneE_ok (t : T) (a : V) : EOk (oneE t a) := by
  unfold oneE
  repeat' split
  all_goals first | exact wholeV_wrap _ | exact truthV_ok _ | exact .inr (.inl rfl) | exact .inr (.inr rfl)
theorem bothE_ok (k : Int) {a b : V} (ha : VOk a) : EOk (bothE k a b) := by
  unfold bothE
  repeat' split
  all_goals first | exact truthV_ok _ | exact numE_ok _ ha.2 | exact .inr (.inl rfl) | exact .inr (.inr rfl)
theorem twoE_ok (typed : Bool) (t : T) {a b : V} (ha : VOk a) : EOk (twoE typed t a b) := by
  have := bothE_ok t.f0 (b := b) ha
  unfold twoE
  cases h : bothE t.f0 a b with
  | ok v => rw [h] at this; exact this
  | error e =>
    rw [h] at this
    simp only [zeroE]
    split
    · exact wholeV_ok (by omega) (by omega)
    · exact this
theorem leafE_ok {look : Int → Option Int} (hl : ∀ v n, look v = some n → -9223372036854775808 ≤ n ∧ n ≤ 9223372036854775807) {t : T} (ht : -9223372036854775808 ≤ t.f1 ∧ t.f1 ≤ 9223372036854775807) : EOk (leafE look t) := by
  unfold leafE
  split
  · exact wholeV_ok ht.1 ht.2
  · split
    · split
      · rename_i n hn; exact wholeV_ok (hl _ _ hn).1 (hl _ _ hn).2
      · simp [EOk]
    · exact truthV_ok _
/-- How the reference tells of it. -/
def encE (e : Except Int V) : Int × Int × Int := match e with | .ok v => (v.1, v.2, 0) | .error c => (0, 0, c)
theorem rtruth_f (b : Bool) : PAll.spinetref04_truth.f b = some (encE (.ok (truthV b))) := by cases b <;> rfl
theorem rwhole_f (n : Int) : PAll.spinetref04_whole.f n = some (encE (.ok (wholeV n))) := rfl
theorem two_ev (k : Int) {a b : V} (ha : VOk a) (hb : VOk b) : Ev (fun K => PAll.spinetref04_two.f K k a.1 a.2 b.1 b.2) (encE (bothE k a b)) := by
  obtain ⟨ka, na⟩ := a
  obtain ⟨kb, nb⟩ := b
  obtain ⟨ha1, ha2, ha3⟩ := ha
  obtain ⟨hb1, hb2, hb3⟩ := hb
  simp only at ha1 ha2 ha3 hb1 hb2 hb3
  refine Ev.of (fun K => PAll.spinetref04_two.mono _ _ _ _ _ K) (k := 3) ?_
  show PAll.spinetref04_two.f 3 k ka na kb nb = some (encE (bothE k (ka, na) (kb, nb)))
  simp only [PAll.spinetref04_two.f, PAll.spinetref04_two.j0, PAll.spinetref04_two.j1, bothE, numE, rtruth_f, rwhole_f, radd_f, rsub_f, rmul_f, Option.bind_some, beq_iff_eq]
  by_cases hk : ka = kb
  · subst hk
    rw [if_pos (show ka = ka from rfl), if_neg (show ¬ ka ≠ ka by simp)]
    by_cases h10 : k = 10
    · subst h10; simp
    by_cases h11 : k = 11
    · subst h11; simp
    rw [if_neg h10, if_neg h10, if_neg h11, if_neg h11]
    rcases ha1 with rfl | ⟨rfl, hx⟩
    · rw [if_neg (show ¬ (1 : Int) = 2 by omega), if_pos (show (1 : Int) = 1 from rfl)]
      by_cases h6 : k = 6
      · subst h6
        by_cases hz : nb = 0
        · subst hz; rfl
        · simp [hz, rdiv_f na nb ha2 ha3 hb2 hb3 hz, rwhole_f]
      by_cases h7 : k = 7
      · subst h7
        by_cases hz : nb = 0
        · subst hz; rfl
        · simp [hz, rmod_f na nb ha2 ha3 hb2 hb3 hz, rwhole_f]
      by_cases h3 : k = 3
      · subst h3; simp
      by_cases h4 : k = 4
      · subst h4; simp
      by_cases h5 : k = 5
      · subst h5; simp
      by_cases h8 : k = 8
      · subst h8; simp
      by_cases h9 : k = 9
      · subst h9; simp
      simp [h3, h4, h5, h6, h7, h8, h9, encE]
    · have hy : nb = 0 ∨ nb = 1 := by omega
      rw [if_pos (show (2 : Int) = 2 from rfl), if_neg (show ¬ (2 : Int) = 1 by omega)]
      by_cases h12 : k = 12
      · subst h12
        rcases hx with rfl | rfl <;> rcases hy with rfl | rfl <;> simp [wrap64, truthV, encE]
      by_cases h13 : k = 13
      · subst h13
        rcases hx with rfl | rfl <;> rcases hy with rfl | rfl <;> simp [wrap64, truthV, encE]
      simp [h12, h13, encE]
  · rw [if_neg hk, if_pos hk]; rfl
theorem lookV_ok (typed : Bool) (vars : Int) (env : List Int) (he : ∀ x ∈ env, -9223372036854775808 ≤ x ∧ x ≤ 9223372036854775807) : ∀ v n, lookV typed vars env v = some n → -9223372036854775808 ≤ n ∧ n ≤ 9223372036854775807 := by
  intro v n h
  unfold lookV at h
  split at h
  · split at h
    · simp only [Option.some.injEq] at h; omega
    · cases h
  · split at h
    · simp only [Option.some.injEq] at h
      subst h
      unfold rd
      by_cases hv : v.toNat < env.length
      · rw [List.getD_eq_getElem?_getD, List.getElem?_eq_getElem hv]; exact he _ (List.getElem_mem hv)
      · rw [List.getD_eq_getElem?_getD, List.getElem?_eq_none (by omega)]; simp
    · cases h
theorem valE_ok (look : Int → Option Int) (typed : Bool) (hl : ∀ v n, look v = some n → -9223372036854775808 ≤ n ∧ n ≤ 9223372036854775807) (x : Tr) (hx : ∀ t ∈ x.flat, -9223372036854775808 ≤ t.f1 ∧ t.f1 ≤ 9223372036854775807) : EOk (valE look typed x) := by
  induction x with
  | leaf t => exact leafE_ok hl (hx t (by simp [Tr.flat]))
  | one t a ih =>
    have h1 := ih (fun t ht => hx t (by simp [Tr.flat, ht]))
    show EOk ((valE look typed a).bind (oneE t))
    cases h : valE look typed a with
    | error e => rw [h] at h1; exact h1
    | ok v => exact oneE_ok t v
  | two t a b ia ib =>
    have h1 := ia (fun t ht => hx t (by simp [Tr.flat, ht]))
    have h2 := ib (fun t ht => hx t (by simp [Tr.flat, ht]))
    show EOk ((valE look typed a).bind fun v => (valE look typed b).bind fun u => twoE typed t v u)
    cases h : valE look typed a with
    | error e => rw [h] at h1; exact h1
    | ok v =>
      rw [h] at h1
      cases h' : valE look typed b with
      | error e => rw [h'] at h2; exact h2
      | ok u => exact twoE_ok typed t h1
/-- The reference's recursion from the end tells a tree's value. -/
theorem end_ev (p : List T) (hl : p.length ≤ 1000000) (hw : ∀ t ∈ p, -9223372036854775808 ≤ t.f1 ∧ t.f1 ≤ 9223372036854775807) (env : List Int) (hen : env.length ≤ 1000000) (he : ∀ x ∈ env, -9223372036854775808 ≤ x ∧ x ≤ 9223372036854775807) (vars : Int) (typed : Bool) (x : Tr) :
    ∀ (pre suf : List T), x.wf → p = pre ++ x.flat ++ suf →
    Ev (fun k => PAll.spinetref04_End.f k p ((pre.length + x.flat.length : Nat) - 1 : Int) env vars typed) ((encE (valE (lookV typed vars env) typed x)).1, (encE (valE (lookV typed vars env) typed x)).2.1, (encE (valE (lookV typed vars env) typed x)).2.2, (pre.length : Int)) := by
  have at_ : ∀ (pre suf : List T) (t : T), p = pre ++ [t] ++ suf → pre.length < p.length ∧ PAll.rd_T40 p pre.length = t ∧ t ∈ p := by
    intro pre suf t h
    have hlt : pre.length < p.length := by rw [h]; simp
    refine ⟨hlt, ?_, by rw [h]; simp⟩
    simp [PAll.rd_T40, List.getD_eq_getElem?_getD, h]
  induction x with
  | leaf t =>
    intro pre suf h0 hp
    obtain ⟨hk, hn0, hn2⟩ := takes0 h0
    obtain ⟨hlt, hrd, hmem⟩ := at_ pre suf t hp
    have e1 : ((pre.length + (Tr.leaf t).flat.length : Nat) : Int) - 1 = (pre.length : Int) := by simp [Tr.flat]
    rw [e1]
    refine Ev.step (fun k => rfl) ?_
    simp only [PAll.spinetref04_End.f]
    rw [hrd]
    refine ev_pos (by omega) (ev_pos (by omega) ?_)
    show Ev _ ((encE (leafE (lookV typed vars env) t)).1, (encE (leafE (lookV typed vars env) t)).2.1, (encE (leafE (lookV typed vars env) t)).2.2, (pre.length : Int))
    rcases hk with h | h | h | h
    · refine ev_pos h ?_
      rw [leafE, if_pos h]
      exact Ev.now _
    · refine ev_neg (by omega) (ev_pos h ?_)
      have hlf : leafE (lookV typed vars env) t = match lookV typed vars env t.f1 with | some n => .ok (wholeV n) | none => .error 4 := by rw [leafE, if_neg (by omega), if_pos h]
      rw [hlf]
      clear hlf
      cases typed with
      | true =>
        refine ev_pos rfl (Ev.step (fun k => rfl) ?_)
        simp only [PAll.spinetref04_End.j0]
        by_cases hv : t.f1 < vars
        · have hlk : lookV true vars env t.f1 = some 0 := by unfold lookV; rw [if_pos rfl, if_pos hv]
          rw [hlk]
          exact ev_pos (decide_eq_true hv) (Ev.now _)
        · have hlk : lookV true vars env t.f1 = none := by unfold lookV; rw [if_pos rfl, if_neg hv]
          rw [hlk]
          exact ev_neg (by simp [hv]) (ev_pos trivial (Ev.now _))
      | false =>
        refine ev_neg (by simp) (Ev.step (fun k => rfl) ?_)
        simp only [PAll.spinetref04_End.j0]
        refine ev_neg (by simp) (ev_neg (by simp) ?_)
        by_cases hv : t.f1 < env.length
        · have hlk : lookV false vars env t.f1 = some (rd env t.f1) := by unfold lookV; rw [if_neg (by simp), if_pos hv]
          rw [hlk]
          exact ev_pos hv (ev_pos hn0 (Ev.now _))
        · have hlk : lookV false vars env t.f1 = none := by unfold lookV; rw [if_neg (by simp), if_neg hv]
          rw [hlk]
          exact ev_neg hv (Ev.now _)
    · have b15 : (t.f0 == 15) = true := by rw [h]; rfl
      refine ev_neg (by omega) (ev_neg (by omega) (ev_pos h (Ev.step (fun k => rfl) ?_)))
      simp only [PAll.spinetref04_End.j1]
      refine ev_pos b15 ?_
      rw [leafE, if_neg (by omega), if_neg (by omega), rtruth_f]
      exact Ev.now _
    · have b16 : (t.f0 == 16) = true := by rw [h]; rfl
      refine ev_neg (by omega) (ev_neg (by omega) (ev_neg (by omega) (Ev.step (fun k => rfl) ?_)))
      simp only [PAll.spinetref04_End.j1]
      refine ev_pos b16 ?_
      rw [leafE, if_neg (by omega), if_neg (by omega), rtruth_f]
      exact Ev.now _
  | one t a ih =>
    intro pre suf h0 hp
    obtain ⟨h1, ha⟩ : takes t = 1 ∧ a.wf := h0
    have hk := takes1 h1
    have hp1 : p = (pre ++ a.flat) ++ [t] ++ suf := by rw [hp]; simp [Tr.flat]
    have hp2 : p = pre ++ a.flat ++ ([t] ++ suf) := by rw [hp]; simp [Tr.flat]
    obtain ⟨hlt, hrd, hmem⟩ := at_ _ suf t hp1
    have hpos := Tr.len_pos a
    have e1 : ((pre.length + (Tr.one t a).flat.length : Nat) : Int) - 1 = ((pre ++ a.flat).length : Int) := by simp [Tr.flat]; omega
    have e2 : wrap64 (((pre ++ a.flat).length : Int) - 1) = ((pre.length + a.flat.length : Nat) : Int) - 1 := by rw [w64 (by omega) (by omega)]; simp
    have hi := ih pre ([t] ++ suf) ha hp2
    rw [e1]
    refine Ev.step (fun k => rfl) ?_
    simp only [PAll.spinetref04_End.f]
    rw [hrd]
    have b16 : (t.f0 == 16) = false := beq_eq_false_iff_ne.mpr (by omega)
    refine ev_pos (by omega) (ev_pos (by omega) (ev_neg (by omega) (ev_neg (by omega) (ev_neg (by omega) (Ev.step (fun k => rfl) ?_)))))
    simp only [PAll.spinetref04_End.j1]
    refine ev_neg (by rw [b16]; simp) ?_
    have hv : valE (lookV typed vars env) typed (.one t a) = (valE (lookV typed vars env) typed a).bind (oneE t) := rfl
    rw [hv]
    have hx : ∀ t' ∈ a.flat, -9223372036854775808 ≤ t'.f1 ∧ t'.f1 ≤ 9223372036854775807 := fun t' ht' => hw t' (by rw [hp2]; simp [ht'])
    have hok := valE_ok (lookV typed vars env) typed (lookV_ok typed vars env he) a hx
    have main : ∀ b : Bool, b = true → Ev (fun k => PAll.spinetref04_End.j2 k p ((pre ++ a.flat).length : Int) env vars typed b t.f0 t.f1 t.f2)
        ((encE ((valE (lookV typed vars env) typed a).bind (oneE t))).1, (encE ((valE (lookV typed vars env) typed a).bind (oneE t))).2.1, (encE ((valE (lookV typed vars env) typed a).bind (oneE t))).2.2, (pre.length : Int)) := by
      rintro b rfl
      refine Ev.step (fun k => rfl) ?_
      simp only [PAll.spinetref04_End.j2]
      refine ev_pos trivial ?_
      rw [e2]
      refine Ev.bind hi ?_
      cases hva : valE (lookV typed vars env) typed a with
      | error c =>
        rw [hva] at hok
        refine ev_neg (by show ¬ c = 0; rcases hok with h | h | h <;> omega) (Ev.now _)
      | ok v =>
        refine ev_pos rfl ?_
        show Ev _ ((encE (oneE t v)).1, (encE (oneE t v)).2.1, (encE (oneE t v)).2.2, (pre.length : Int))
        rcases hk with h | h
        · refine ev_pos h (Ev.step (fun k => rfl) ?_)
          simp only [PAll.spinetref04_End.j3]
          by_cases hv2 : v.1 = 2
          · refine ev_pos (by show (v.1 == 2) = true; rw [hv2]; rfl) ?_
            rw [oneE, if_neg (by omega), if_pos ⟨h, hv2⟩, rtruth_f]
            exact Ev.now _
          · refine ev_neg (by show ¬ (v.1 == 2) = true; simp [hv2]) (ev_neg (by omega) (Ev.step (fun k => rfl) ?_))
            rw [oneE, if_neg (by omega), if_neg (by simp [hv2])]
            simp only [PAll.spinetref04_End.j4]
            exact ev_neg (by simp) (Ev.now _)
        · refine ev_neg (by omega) (Ev.step (fun k => rfl) ?_)
          simp only [PAll.spinetref04_End.j3]
          refine ev_neg (by simp) (ev_pos h (Ev.step (fun k => rfl) ?_))
          simp only [PAll.spinetref04_End.j4]
          by_cases hv1 : v.1 = 1
          · refine ev_pos (by show (v.1 == 1) = true; rw [hv1]; rfl) ?_
            rw [oneE, if_pos ⟨h, hv1⟩]
            refine ev_bind (rsub_f _ _) ?_
            rw [show (0 : Int) - (encE (.ok v)).2.1 = -v.2 by simp [encE]]
            exact Ev.now _
          · refine ev_neg (by show ¬ (v.1 == 1) = true; simp [hv1]) ?_
            rw [oneE, if_neg (by simp [hv1]), if_neg (by omega)]
            exact Ev.now _
    rcases hk with h | h
    · exact ev_pos h (main _ (by rw [h]; rfl))
    · exact ev_neg (by omega) (main _ (by rw [h]; rfl))
  | two t a b ia ib =>
    intro pre suf h0 hp
    obtain ⟨h2, ha, hb⟩ : takes t = 2 ∧ a.wf ∧ b.wf := h0
    obtain ⟨hk3, hk13⟩ := takes2 h2
    have hp1 : p = (pre ++ a.flat ++ b.flat) ++ [t] ++ suf := by rw [hp]; simp [Tr.flat]
    have hpb : p = (pre ++ a.flat) ++ b.flat ++ ([t] ++ suf) := by rw [hp]; simp [Tr.flat]
    have hpa : p = pre ++ a.flat ++ (b.flat ++ [t] ++ suf) := by rw [hp]; simp [Tr.flat]
    obtain ⟨hlt, hrd, hmem⟩ := at_ _ suf t hp1
    have hposa := Tr.len_pos a
    have hposb := Tr.len_pos b
    have hab : (pre ++ a.flat).length = pre.length + a.flat.length := by simp
    have habb : (pre ++ a.flat ++ b.flat).length = pre.length + a.flat.length + b.flat.length := by simp; omega
    have e1 : ((pre.length + (Tr.two t a b).flat.length : Nat) : Int) - 1 = ((pre ++ a.flat ++ b.flat).length : Int) := by simp [Tr.flat]; omega
    have e2 : wrap64 (((pre ++ a.flat ++ b.flat).length : Int) - 1) = (((pre ++ a.flat).length + b.flat.length : Nat) : Int) - 1 := by rw [w64 (by omega) (by omega)]; omega
    have e3 : wrap64 (((pre ++ a.flat).length : Int) - 1) = ((pre.length + a.flat.length : Nat) : Int) - 1 := by rw [w64 (by omega) (by omega)]; omega
    have hib := ib (pre ++ a.flat) ([t] ++ suf) hb hpb
    have hia := ia pre (b.flat ++ [t] ++ suf) ha hpa
    rw [e1]
    refine Ev.step (fun k => rfl) ?_
    simp only [PAll.spinetref04_End.f]
    rw [hrd]
    have b16 : (t.f0 == 16) = false := beq_eq_false_iff_ne.mpr (by omega)
    have b14 : (t.f0 == 14) = false := beq_eq_false_iff_ne.mpr (by omega)
    have b19 : (t.f0 == 19) = false := beq_eq_false_iff_ne.mpr (by omega)
    refine ev_pos (by omega) (ev_pos (by omega) (ev_neg (by omega) (ev_neg (by omega) (ev_neg (by omega) (Ev.step (fun k => rfl) ?_)))))
    simp only [PAll.spinetref04_End.j1]
    refine ev_neg (by rw [b16]; simp) (ev_neg (by omega) (Ev.step (fun k => rfl) ?_))
    simp only [PAll.spinetref04_End.j2]
    refine ev_neg (by rw [b19]; simp) ?_
    have hv : valE (lookV typed vars env) typed (.two t a b) = (valE (lookV typed vars env) typed a).bind fun x => (valE (lookV typed vars env) typed b).bind fun y => twoE typed t x y := rfl
    rw [hv, e2]
    refine Ev.bind hib ?_
    simp only
    rw [e3]
    refine Ev.bind hia ?_
    simp only
    have hxa : ∀ t' ∈ a.flat, -9223372036854775808 ≤ t'.f1 ∧ t'.f1 ≤ 9223372036854775807 := fun t' ht' => hw t' (by rw [hpa]; simp [ht'])
    have hxb : ∀ t' ∈ b.flat, -9223372036854775808 ≤ t'.f1 ∧ t'.f1 ≤ 9223372036854775807 := fun t' ht' => hw t' (by rw [hpb]; simp [ht'])
    have hoka := valE_ok (lookV typed vars env) typed (lookV_ok typed vars env he) a hxa
    have hokb := valE_ok (lookV typed vars env) typed (lookV_ok typed vars env he) b hxb
    cases hva : valE (lookV typed vars env) typed a with
    | error c =>
      rw [hva] at hoka
      exact ev_neg (by show ¬ c = 0; rcases hoka with h | h | h <;> omega) (Ev.now _)
    | ok v =>
      rw [hva] at hoka
      refine ev_pos rfl ?_
      cases hvb : valE (lookV typed vars env) typed b with
      | error c =>
        rw [hvb] at hokb
        exact ev_neg (by show ¬ c = 0; rcases hokb with h | h | h <;> omega) (Ev.now _)
      | ok u =>
        rw [hvb] at hokb
        refine ev_pos rfl ?_
        show Ev _ ((encE (twoE typed t v u)).1, (encE (twoE typed t v u)).2.1, (encE (twoE typed t v u)).2.2, (pre.length : Int))
        refine Ev.bind (two_ev t.f0 hoka hokb) ?_
        have hbo := bothE_ok t.f0 (b := u) hoka
        unfold twoE
        cases hbe : bothE t.f0 v u with
        | ok r => exact ev_neg (by show ¬ (0 : Int) = 9; omega) (Ev.now _)
        | error c =>
          by_cases h9 : c = 9
          · subst h9
            refine ev_pos rfl ?_
            cases typed with
            | true => exact ev_pos rfl (Ev.now _)
            | false => exact ev_neg (by simp) (Ev.now _)
          · refine ev_neg h9 ?_
            rw [zeroE, if_neg (by simp [h9])]
            exact Ev.now _
end Go.Proofs.YtldcplgfkcionaaDoor
