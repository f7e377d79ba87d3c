/- Texts of this claim, merged (PX, Post, Evl, Base, Box2, Tok, Wid, Parsep, Takes, Lev, Rtakes, Nump, Exprp, Exprw, Tail). -/
import Derived.Test.YtemoonhnncopoaaGreatDoorProg
import Derived.WalkKit
import Derived.ProofKit
import Derived.LaidEql
import Derived.WideLaws
import Derived.KernelRfl
import Derived.Lib.Hide
import Derived.OneCell
import Derived.OpenShut
import Derived.Deep.Slices
import Derived.Deep.LoopGhost
import Derived.Deep.Draws
import Derived.ChangeOld
import Derived.Maps.AppendAt
import Derived.Laws.Rows
import Derived.Deep.QuietTactic
import Derived.BigQuiet
import Derived.Outline
import Derived.Deep.AppendLies
import Derived.StillTail
import Derived.Deep.Quiet
import Derived.Test.YtemoonhnncopoaaGreatDoorZActDoes2
import Derived.Test.YtemoonhnncopoaaGreatDoorZActDoes3
import Derived.Test.YtemoonhnncopoaaGreatDoorZActDoes4
import Derived.Test.YtemoonhnncopoaaGreatDoorZActDoes5
import Derived.Test.YtemoonhnncopoaaGreatDoorZActDoes7
section
set_option linter.unusedVariables false
namespace Go.Proofs.YtemoonhnncopoaaGreatDoor.PX
abbrev T := PAll.S91
abbrev V := Int × Int
end Go.Proofs.YtemoonhnncopoaaGreatDoor.PX
end
section
set_option linter.unusedVariables false
namespace Go.Proofs.YtemoonhnncopoaaGreatDoor.PX
def takes (t : T) : Int :=
  if t.f2 ≠ 0 ∨ t.f1 < 0 then -1
  else if t.f0 = 1 ∨ (t.f0 = 2 ∧ t.f1 ≤ 25) then 0
  else if t.f1 ≠ 0 then -1
  else if t.f0 = 15 ∨ t.f0 = 16 then 0
  else if t.f0 = 14 ∨ t.f0 = 19 then 1
  else if 3 ≤ t.f0 ∧ t.f0 ≤ 13 then 2
  else -1
theorem takes_cases (t : T) : takes t = -1 ∨ takes t = 0 ∨ takes t = 1 ∨ takes t = 2 := by unfold takes; split <;> (try split) <;> (try split) <;> (try split) <;> (try split) <;> (try split) <;> simp
def mayGo : List T → Int → Option Int
  | [], n => some n
  | t :: p, n => if takes t < 0 ∨ takes t > n then none else mayGo p (n + (1 - takes t))
def may (p : List T) : Bool := decide (p.length ≤ 100) && (mayGo p 0 == some 1)
theorem mayGo_append (p q : List T) (n : Int) : mayGo (p ++ q) n = (mayGo p n).bind (mayGo q) := by
  induction p generalizing n with
  | nil => rfl
  | cons t p ih => simp only [List.cons_append, mayGo]; split <;> simp [ih]
theorem mayGo_snoc (p : List T) (t : T) (n m : Int) (h : mayGo p n = some m) : mayGo (p ++ [t]) n = if takes t < 0 ∨ takes t > m then none else some (m + (1 - takes t)) := by
  rw [mayGo_append, h]; simp only [Option.bind_some, mayGo]
inductive Tr where
  | leaf (t : T)
  | one (t : T) (a : Tr)
  | two (t : T) (a b : Tr)
namespace Tr
def flat : Tr → List T
  | leaf t => [t]
  | one t a => a.flat ++ [t]
  | two t a b => a.flat ++ b.flat ++ [t]
def wf : Tr → Prop
  | leaf t => takes t = 0
  | one t a => takes t = 1 ∧ a.wf
  | two t a b => takes t = 2 ∧ a.wf ∧ b.wf
theorem len_pos (x : Tr) : 0 < x.flat.length := by cases x <;> simp [flat] <;> omega
end Tr
def flats : List Tr → List T
  | [] => []
  | x :: l => x.flat ++ flats l
theorem flats_append (a b : List Tr) : flats (a ++ b) = flats a ++ flats b := by
  induction a with
  | nil => rfl
  | cons x a ih => simp [flats, ih]
theorem flats_one (x : Tr) : flats [x] = x.flat := by simp [flats]
theorem two_last {α : Type} (l : List α) (h : 2 ≤ l.length) : ∃ l' a b, l = l' ++ [a, b] := by
  obtain ⟨r, b, rfl⟩ : ∃ r b, l = r ++ [b] := ⟨l.dropLast, l.getLast (by intro e; subst e; simp at h), (List.dropLast_concat_getLast _).symm⟩
  obtain ⟨r', a, rfl⟩ : ∃ r' a, r = r' ++ [a] := ⟨r.dropLast, r.getLast (by intro e; subst e; simp at h), (List.dropLast_concat_getLast _).symm⟩
  exact ⟨r', a, b, by simp⟩
theorem one_last {α : Type} (l : List α) (h : 1 ≤ l.length) : ∃ l' a, l = l' ++ [a] :=
  ⟨l.dropLast, l.getLast (by intro e; subst e; simp at h), (List.dropLast_concat_getLast _).symm⟩
theorem trees_of (p : List T) : ∀ (S : List Tr) (m : Int), (∀ x ∈ S, x.wf) → mayGo p S.length = some m → ∃ S' : List Tr, (∀ x ∈ S', x.wf) ∧ (S'.length : Int) = m ∧ flats S' = flats S ++ p := by
  induction p with
  | nil => intro S m hS h; simp only [mayGo, Option.some.injEq] at h; exact ⟨S, hS, h, by simp⟩
  | cons t p ih =>
    intro S m hS h
    simp only [mayGo] at h
    split at h
    · cases h
    rename_i hc
    rcases takes_cases t with e | e | e | e
    · exact absurd (.inl (by omega)) hc
    · obtain ⟨S', h1, h2, h3⟩ := ih (S ++ [.leaf t]) m (by intro x hx; simp at hx; rcases hx with hx | rfl; exact hS x hx; exact e) (by simpa [e] using h)
      exact ⟨S', h1, h2, by rw [h3, flats_append, flats_one]; simp [Tr.flat]⟩
    · obtain ⟨l, a, rfl⟩ := one_last S (by omega)
      obtain ⟨S', h1, h2, h3⟩ := ih (l ++ [.one t a]) m (by intro x hx; simp at hx; rcases hx with hx | rfl; exact hS x (by simp [hx]); exact ⟨e, hS a (by simp)⟩) (by simpa [e] using h)
      exact ⟨S', h1, h2, by rw [h3, flats_append, flats_append, flats_one, flats_one]; simp [Tr.flat]⟩
    · obtain ⟨l, a, b, rfl⟩ := two_last S (by omega)
      obtain ⟨S', h1, h2, h3⟩ := ih (l ++ [.two t a b]) m (by intro x hx; simp at hx; rcases hx with hx | rfl; exact hS x (by simp [hx]); exact ⟨e, hS a (by simp), hS b (by simp)⟩) (by
        have e1 : ((l ++ [a, b]).length : Int) + (1 - takes t) = ((l ++ [Tr.two t a b]).length : Int) := by simp [e]; omega
        rw [← e1]; exact h)
      exact ⟨S', h1, h2, by rw [h3, flats_append, flats_append, flats_one]; simp [Tr.flat, flats]⟩
theorem tree_of {p : List T} (h : mayGo p 0 = some 1) : ∃ x : Tr, x.wf ∧ p = x.flat := by
  obtain ⟨S, h1, h2, h3⟩ := trees_of p [] 1 (by simp) (by simpa using h)
  obtain ⟨x, rfl⟩ : ∃ x, S = [x] := by
    match S, h2 with
    | [x], _ => exact ⟨x, rfl⟩
    | [], h2 => simp at h2
    | _ :: _ :: _, h2 => simp at h2; omega
  exact ⟨x, h1 x (by simp), by rw [flats_one] at h3; simpa [flats] using h3.symm⟩
section machine
variable {V : Type} (lf : T → Except Int V) (op1 : T → V → Except Int V) (op2 : T → V → V → Except Int V)
def step (t : T) (l : List V) : Except Int (List V) :=
  if takes t = 0 then (lf t).map fun v => l ++ [v]
  else if takes t = 1 then match l.getLast? with
    | some a => (op1 t a).map fun v => l.dropLast ++ [v]
    | none => .error 0
  else match l.getLast?, l.dropLast.getLast? with
    | some b, some a => (op2 t a b).map fun v => l.dropLast.dropLast ++ [v]
    | _, _ => .error 0
theorem step_leaf {t : T} (h : takes t = 0) (l : List V) : step lf op1 op2 t l = (lf t).map fun v => l ++ [v] := by simp [step, h]
theorem step_one {t : T} (h : takes t = 1) (l : List V) (a : V) : step lf op1 op2 t (l ++ [a]) = (op1 t a).map fun v => l ++ [v] := by simp [step, h]
theorem step_two {t : T} (h : takes t = 2) (l : List V) (a b : V) : step lf op1 op2 t (l ++ [a, b]) = (op2 t a b).map fun v => l ++ [v] := by
  have e : l ++ [a, b] = (l ++ [a]) ++ [b] := by simp
  rw [e]
  simp [step, h]
def runs : List T → List V → Except Int (List V)
  | [], l => .ok l
  | t :: p, l => (step lf op1 op2 t l).bind (runs p)
theorem runs_append (p q : List T) (l : List V) : runs lf op1 op2 (p ++ q) l = (runs lf op1 op2 p l).bind (runs lf op1 op2 q) := by
  induction p generalizing l with
  | nil => rfl
  | cons t p ih =>
    simp only [List.cons_append, runs]
    cases step lf op1 op2 t l with
    | error e => rfl
    | ok l' => exact ih l'
def val : Tr → Except Int V
  | .leaf t => lf t
  | .one t a => (val a).bind (op1 t)
  | .two t a b => (val a).bind fun x => (val b).bind fun y => op2 t x y
theorem runs_tree (x : Tr) (h : x.wf) (l : List V) (q : List T) : runs lf op1 op2 (x.flat ++ q) l = (val lf op1 op2 x).bind fun v => runs lf op1 op2 q (l ++ [v]) := by
  induction x generalizing l q with
  | leaf t =>
    simp only [Tr.flat, List.cons_append, List.nil_append, runs, val]
    rw [step_leaf _ _ _ h]
    cases lf t <;> rfl
  | one t a ih =>
    obtain ⟨h, ha⟩ := h
    simp only [Tr.flat, List.append_assoc, val]
    rw [ih ha]
    cases val lf op1 op2 a with
    | error e => rfl
    | ok v =>
      simp only [Except.bind, List.cons_append, List.nil_append, runs]
      rw [step_one _ _ _ h]
      cases op1 t v <;> rfl
  | two t a b ia ib =>
    obtain ⟨h, ha, hb⟩ := h
    simp only [Tr.flat, List.append_assoc, val]
    rw [ia ha]
    cases val lf op1 op2 a with
    | error e => rfl
    | ok v =>
      simp only [Except.bind]
      rw [ib hb]
      cases val lf op1 op2 b with
      | error e => rfl
      | ok u =>
        simp only [Except.bind, List.cons_append, List.nil_append, runs, List.append_assoc]
        rw [step_two _ _ _ h]
        cases op2 t v u <;> rfl
theorem runs_len (p : List T) : ∀ (l l' : List V) (m : Int), runs lf op1 op2 p l = .ok l' → mayGo p l.length = some m → (l'.length : Int) = m := by
  induction p with
  | nil => intro l l' m h h2; simp only [runs, Except.ok.injEq] at h; simp only [mayGo, Option.some.injEq] at h2; rw [← h]; exact h2
  | cons t p ih =>
    intro l l' m h h2
    simp only [mayGo] at h2
    split at h2
    · cases h2
    rename_i hc
    simp only [runs] at h
    cases hs : step lf op1 op2 t l with
    | error e => rw [hs] at h; cases h
    | ok l1 =>
      rw [hs] at h
      have hl : (l1.length : Int) = l.length + (1 - takes t) := by
        rcases takes_cases t with e | e | e | e
        · exact absurd (.inl (by omega)) hc
        · rw [step_leaf _ _ _ e] at hs
          cases hv : lf t with
          | error e => rw [hv] at hs; cases hs
          | ok v => rw [hv] at hs; simp only [Except.map, Except.ok.injEq] at hs; rw [← hs, e]; simp
        · obtain ⟨r, a, rfl⟩ := one_last l (by omega)
          rw [step_one _ _ _ e] at hs
          cases hv : op1 t a with
          | error e => rw [hv] at hs; cases hs
          | ok v => rw [hv] at hs; simp only [Except.map, Except.ok.injEq] at hs; rw [← hs, e]; simp
        · obtain ⟨r, a, b, rfl⟩ := two_last l (by omega)
          rw [step_two _ _ _ e] at hs
          cases hv : op2 t a b with
          | error e => rw [hv] at hs; cases hs
          | ok v => rw [hv] at hs; simp only [Except.map, Except.ok.injEq] at hs; rw [← hs, e]; simp; omega
      exact ih l1 l' m h (by rw [hl]; exact h2)
theorem mayGo_take {p : List T} {n m : Int} (h : mayGo p n = some m) (q : Nat) : ∃ k, mayGo (p.take q) n = some k := by
  have e : p = p.take q ++ p.drop q := (List.take_append_drop q p).symm
  rw [e, mayGo_append] at h
  cases hk : mayGo (p.take q) n with
  | none => rw [hk] at h; cases h
  | some k => exact ⟨k, rfl⟩
theorem may_at {p : List T} (h : mayGo p 0 = some 1) (q : Nat) (hq : q < p.length) {l : List V} (hr : runs lf op1 op2 (p.take q) [] = .ok l) :
    0 ≤ takes p[q] ∧ takes p[q] ≤ l.length := by
  obtain ⟨k, hk⟩ := mayGo_take h q
  have hl := runs_len lf op1 op2 (p.take q) [] l k hr hk
  obtain ⟨k', hk'⟩ := mayGo_take h (q + 1)
  rw [List.take_succ_eq_append_getElem hq, mayGo_snoc _ _ _ _ hk] at hk'
  split at hk'
  · cases hk'
  · rename_i hc; omega
theorem runs_snoc (p : List T) (q : Nat) (hq : q < p.length) {l : List V} (hr : runs lf op1 op2 (p.take q) [] = .ok l) : runs lf op1 op2 (p.take (q + 1)) [] = step lf op1 op2 p[q] l := by
  rw [List.take_succ_eq_append_getElem hq, runs_append, hr]
  simp only [Except.bind, runs]
  cases step lf op1 op2 p[q] l <;> rfl
theorem runs_fail (p : List T) (q : Nat) {e : Int} (hr : runs lf op1 op2 (p.take q) [] = .error e) : runs lf op1 op2 p [] = .error e := by
  have h : p = p.take q ++ p.drop q := (List.take_append_drop q p).symm
  rw [h, runs_append, hr]
  rfl
def value (p : List T) : Except Int V := (runs lf op1 op2 p []).bind fun l => match l with | v :: _ => .ok v | [] => .error 0
theorem value_tree (x : Tr) (h : x.wf) : value lf op1 op2 x.flat = val lf op1 op2 x := by
  unfold value
  have := runs_tree lf op1 op2 x h [] []
  rw [List.append_nil] at this
  rw [this]
  cases val lf op1 op2 x <;> rfl
end machine
end Go.Proofs.YtemoonhnncopoaaGreatDoor.PX
end
section
set_option linter.unusedVariables false
set_option linter.unusedSimpArgs false
namespace Go.Proofs.YtemoonhnncopoaaGreatDoor
open Go.RowKit PX Go.Proofs.YtemoonhnncopoaaGreatDoorW.PrintWords
theorem ev_pos {α : Type} {c : Prop} [Decidable c] {g f : Nat → Option α} {r : α} (h : c) (k : Ev g r) : Ev (fun n => if c then g n else f n) r := by
  obtain ⟨K, hK⟩ := k
  exact ⟨K, fun n hn => by simp only [if_pos h]; exact hK n hn⟩
theorem ev_neg {α : Type} {c : Prop} [Decidable c] {g f : Nat → Option α} {r : α} (h : ¬ c) (k : Ev f r) : Ev (fun n => if c then g n else f n) r := by
  obtain ⟨K, hK⟩ := k
  exact ⟨K, fun n hn => by simp only [if_neg h]; exact hK n hn⟩
theorem ev_bind {α β : Type} {g : Option α} {f : Nat → α → Option β} {a : α} {r : β} (h : g = some a) (k : Ev (fun n => f n a) r) : Ev (fun n => g.bind (f n)) r := by
  obtain ⟨K, hK⟩ := k
  exact ⟨K, fun n hn => by rw [h]; exact hK n hn⟩
theorem w64 {x : Int} (h0 : -9223372036854775808 ≤ x) (h1 : x ≤ 9223372036854775807) : wrap64 x = x := by unfold wrap64; omega
end Go.Proofs.YtemoonhnncopoaaGreatDoor
end
section
set_option linter.unusedVariables false
namespace Go
section
variable {P : Program} (w : World)
theorem run_equalIn_iface_int (d : Nat) {ti tn : TypeId} {ms : Array (String × TypeId)} {i : TypeInfo} {k : IntKind} (a b : Int)
    (hi : P.underlying ti = some (.interface ms)) (hn : P.underlying tn = some (.int k)) (hinfo : P.info? tn = some i) (hcomp : i.comparable = true) :
    (Op.equalIn (d + 2) ti (.iface tn (.int k a)) (.iface tn (.int k b))).run P w = .ok (a == b) w := by
  simp [Op.equalIn, run_underlying hi, run_underlying hn, typeInfo, hinfo, hcomp]
theorem run_eql_iface_int {ti tn : TypeId} {ms : Array (String × TypeId)} {i : TypeInfo} {k : IntKind} (a b : Int)
    (hi : P.underlying ti = some (.interface ms)) (hn : P.underlying tn = some (.int k)) (hinfo : P.info? tn = some i) (hcomp : i.comparable = true) :
    (binOp .eql ti (.iface tn (.int k a)) (.iface tn (.int k b))).run P w = .ok (.bool (a == b)) w := by
  simp only [binOp]
  simp [Op.equal, Op.maxDepth, run_equalIn_iface_int w 9998 a b hi hn hinfo hcomp]
theorem run_neq_iface_nil_left {ti : TypeId} {ms : Array (String × TypeId)} (tp : TypeId) (v : Value) (hi : P.underlying ti = some (.interface ms)) :
    (binOp .neq ti .nilIface (.iface tp v)).run P w = .ok (.bool true) w := by
  have h : ∀ d : Nat, (Op.equalIn (d + 1) ti .nilIface (.iface tp v)).run P w = .ok false w := fun d => by simp [Op.equalIn, run_underlying hi]
  simp only [binOp]
  simp [Op.equal, Op.maxDepth, h 9999]
end
end Go
namespace Go.Proofs.YtemoonhnncopoaaGreatDoor
open Go.RowKit
theorem ret_int {k : IntKind} {a b : Int} (h : a = b) : Ending.returned (.int k a) = .returned (.int k b) := by rw [h]
theorem ret_bool {a b : Bool} (h : a = b) : Ending.returned (.bool a) = .returned (.bool b) := by rw [h]
structure Chg (S : Nat → Prop) (w w' : World) : Prop where
  os : w'.os = w.os
  tape : w'.tape = w.tape
  output : w'.output = w.output
  size : w.heap.size ≤ w'.heap.size
  block : ∀ k, k < w.heap.size → ¬ S k → w'.heap[k]? = w.heap[k]?
namespace Chg
variable {S S' : Nat → Prop} {a b c : World}
theorem refl (S : Nat → Prop) (w : World) : Chg S w w := ⟨rfl, rfl, rfl, Nat.le_refl _, fun _ _ _ => rfl⟩
theorem trans' (h : Chg S a b) (k : Chg S' b c) (hS : ∀ i, i < a.heap.size → S' i → S i) : Chg S a c :=
  ⟨k.os.trans h.os, k.tape.trans h.tape, k.output.trans h.output, Nat.le_trans h.size k.size,
    fun i hi hs => (k.block i (Nat.lt_of_lt_of_le hi h.size) (fun e => hs (hS i hi e))).trans (h.block i hi hs)⟩
theorem trans (h : Chg S a b) (k : Chg S b c) : Chg S a c := h.trans' k fun _ _ h => h
theorem drewN (h : Chg S a b) (n : Nat) : Chg S a (b.drewN n) := ⟨h.os, h.tape, h.output, h.size, h.block⟩
theorem alloc (h : Chg S a b) (o : Obj) : Chg S a (b.alloc o) :=
  h.trans ⟨rfl, rfl, rfl, by simp, fun k hk _ => Below.heap_alloc _ _ _ hk⟩
theorem setCell (h : Chg S a b) {p : Addr} (hp : p.block < a.heap.size → S p.block) (u : Value) : Chg S a (b.setCell p u) :=
  ⟨h.os, h.tape, h.output, Nat.le_trans h.size (by simp [World.setCell]), fun k hk hs => by
    rw [Below.heap_setCell _ _ _ _ (fun e => by subst e; exact hs (hp hk))]; exact h.block k hk hs⟩
theorem below {B : Nat} (h : Chg S a b) (hB : B ≤ a.heap.size) (hS : ∀ k, k < B → ¬ S k) : Below B a b :=
  ⟨h.os, h.tape, h.output, h.size, fun k hk => h.block k (Nat.lt_of_lt_of_le hk hB) (hS k hk)⟩
theorem of_below (h : Below a.heap.size a b) : Chg S a b := ⟨h.os, h.tape, h.output, h.size, fun k hk _ => h.block k hk⟩
theorem of_grown {row : Option Nat} (h : a.grownBy b row) (hS : ∀ k, row = some k → k < a.heap.size → S k) : Chg S a b :=
  ⟨h.os, h.tape, h.output, h.size, fun k hk hs => h.block k hk fun e => hs (hS k e.symm hk)⟩
theorem blk (h : Chg S a b) {g : Nat} {o : Obj} (hg : a.heap[g]? = some o) (hs : ¬ S g) : b.heap[g]? = some o :=
  (h.block g (lt_of_block hg) hs).trans hg
theorem cell (h : Chg S a b) {p : Addr} (hp : p.block < a.heap.size) (hs : ¬ S p.block) : b.cell? p = a.cell? p := World.cell?_of_block (w := a) (h.block p.block hp hs)
end Chg
theorem blk_drewN {w : World} {g : Nat} {o : Obj} (n : Nat) (h : w.heap[g]? = some o) : (w.drewN n).heap[g]? = some o := h
theorem blk_alloc {w : World} {g : Nat} {o : Obj} (o' : Obj) (h : w.heap[g]? = some o) : (w.alloc o').heap[g]? = some o :=
  (Below.heap_alloc _ _ _ (lt_of_block h)).trans h
theorem blk_new (w : World) (o : Obj) : (w.alloc o).heap[w.heap.size]? = some o := heap_alloc_new w o
theorem blk_far {w : World} {g : Nat} {o : Obj} {p : Addr} (h : w.heap[g]? = some o) (hp : g ≠ p.block) (u : Value) : (w.setCell p u).heap[g]? = some o := (Below.heap_setCell w p u g hp).trans h
theorem blk_set {w : World} {g : Nat} {t : TypeId} {cs : Array Value} {fr : Nat × Nat} (h : w.heap[g]? = some (.cells cs t fr)) (i : Nat) (u : Value) :
    (w.setCell ⟨g, i, none⟩ u).heap[g]? = some (.cells (cs.setIfInBounds i u) t fr) := by
  have hlt := lt_of_block h
  have h' : w.heap[g] = .cells cs t fr := by simpa [Array.getElem?_eq_getElem hlt] using h
  show (w.heap.modify g _)[g]? = _
  rw [Array.getElem?_eq_getElem (by simpa using hlt), Array.getElem_modify_self, h']
  rfl
theorem blk_cell {w : World} {g : Nat} {t : TypeId} {cs : Array Value} {fr : Nat × Nat} (h : w.heap[g]? = some (.cells cs t fr)) (i : Nat) : w.cell? ⟨g, i, none⟩ = cs[i]? := by
  simp [World.cell?, h]
theorem blk_free {w : World} {g : Nat} {t : TypeId} {cs : Array Value} (h : w.heap[g]? = some (.cells cs t (0, 0))) (i : Nat) : w.frozen? ⟨g, i, none⟩ = false := by simp [World.frozen?, h]
structure Rep (α : Type) where
  size : Nat
  ok : (Nat → Prop) → World → List Value → α → Prop
  mono : ∀ {F F' : Nat → Prop} {w w' : World} {cs : List Value} {x : α}, (∀ b, F b → F' b) → (∀ b, F b → b < w.heap.size → w'.heap[b]? = w.heap[b]?) → ok F w cs x → ok F' w' cs x
def Rep.unit : Rep Unit := ⟨0, fun _ _ cs _ => cs = [], fun _ _ h => h⟩
def Rep.int (k : IntKind) : Rep Int := ⟨1, fun _ _ cs x => cs = [.int k x] ∧ (Lit.int k x).wf = true, fun _ _ h => h⟩
def Rep.str : Rep ByteArray := ⟨1, fun _ _ cs x => cs = [.string x] ∧ x.size ≤ maxLen, fun _ _ h => h⟩
def Rep.pair {α β : Type} (R : Rep α) (S : Rep β) : Rep (α × β) :=
  ⟨R.size + S.size, fun F w cs x => ∃ c d, cs = c ++ d ∧ c.length = R.size ∧ R.ok F w c x.1 ∧ S.ok F w d x.2,
    fun hF hw ⟨c, d, h1, h2, h3, h4⟩ => ⟨c, d, h1, h2, R.mono hF hw h3, S.mono hF hw h4⟩⟩
theorem cell_agree {w w' : World} {b : Nat} (h : b < w.heap.size → w'.heap[b]? = w.heap[b]?) {o : Nat} {v : Value} (hc : w.cell? ⟨b, o, none⟩ = some v) : w'.cell? ⟨b, o, none⟩ = some v := by
  have hlt := World.block_lt_of_cell? w _ hc
  exact (World.cell?_of_block (w := w) (a := ⟨b, o, none⟩) (h hlt)).trans hc
def Rep.slice {α : Type} (R : Rep α) : Rep (List α) :=
  ⟨1, fun F w cs xs => (∃ a cap, cs = [.slice a 0 cap] ∧ xs = []) ∨
      ∃ b off cap, cs = [.slice (some ⟨b, off, none⟩) xs.length cap] ∧ F b ∧ b < w.heap.size ∧ xs ≠ [] ∧ xs.length ≤ cap ∧ cap ≤ maxLen ∧
        ∀ i (h : i < xs.length), ∃ c : List Value, c.length = R.size ∧ (∀ j (hj : j < c.length), w.cell? ⟨b, off + i * R.size + j, none⟩ = some c[j]) ∧ R.ok F w c xs[i],
   fun {F F' w w' cs xs} hF hw h => by
    rcases h with h | ⟨b, off, cap, h1, h2, hlt, h3, h4, h5, h6⟩
    · exact .inl h
    · refine .inr ⟨b, off, cap, h1, hF b h2, ?_, h3, h4, h5, fun i hi => ?_⟩
      · have := hw b h2 hlt
        rw [Array.getElem?_eq_getElem hlt] at this
        exact lt_of_block this
      obtain ⟨c, hc, hcell, hok⟩ := h6 i hi
      exact ⟨c, hc, fun j hj => cell_agree (hw b h2) (hcell j hj), R.mono hF hw hok⟩⟩
theorem Rep.slice_open {α : Type} {R : Rep α} {F : Nat → Prop} {w : World} {v : Value} {xs : List α} (h : R.slice.ok F w [v] xs) :
    ∃ A cap, v = .slice A xs.length cap ∧ (0 < xs.length → ∃ b off, A = some ⟨b, off, none⟩ ∧ F b ∧ b < w.heap.size ∧ xs.length ≤ cap ∧ cap ≤ maxLen ∧
      ∀ i (h : i < xs.length), ∃ c : List Value, c.length = R.size ∧ (∀ j (hj : j < c.length), w.cell? ⟨b, off + i * R.size + j, none⟩ = some c[j]) ∧ R.ok F w c xs[i]) := by
  rcases h with ⟨a, cap, h1, rfl⟩ | ⟨b, off, cap, h1, h2, hlt, h3, h4, h5, h6⟩
  · obtain rfl : v = .slice a 0 cap := by simpa using h1
    exact ⟨a, cap, rfl, fun h => by simp at h⟩
  · obtain rfl : v = .slice (some ⟨b, off, none⟩) xs.length cap := by simpa using h1
    exact ⟨_, cap, rfl, fun h0 => ⟨b, off, rfl, h2, hlt, h4, h5, h6⟩⟩
def Reads {α : Type} (P : Program) (t : TypeId) (R : Rep α) : Prop :=
  R.size = P.cellsOf t ∧ ∀ {H : Type} (enc : TypeId × Value → H) (w : World) (fuel : Nat) (cs : List Value) (d : DataW H × List MemPlace),
    DataW.trod enc P w 0 (fun _ => true) true fuel t cs = some d → ∃ x, R.ok (fun b => b < w.heap.size) w cs x ∧ cs.length = R.size
theorem reads_int {P : Program} {t : TypeId} {k : IntKind} (ht : P.underlying t = some (.int k)) (hs : P.cellsOf t = 1) : Reads P t (Rep.int k) := by
  refine ⟨hs.symm, fun enc w fuel cs d h => ?_⟩
  obtain ⟨n, rfl, _, hw⟩ := DataW.trod_int ht h
  exact ⟨n, ⟨rfl, hw⟩, rfl⟩
theorem reads_str {P : Program} {t : TypeId} (ht : P.underlying t = some .string) (hs : P.cellsOf t = 1) : Reads P t Rep.str := by
  refine ⟨hs.symm, fun enc w fuel cs d h => ?_⟩
  obtain ⟨b, rfl, _, hw⟩ := DataW.trod_string ht h
  exact ⟨b, ⟨rfl, hw⟩, rfl⟩
def FieldsOk {α : Type} (P : Program) (o : Nat) (fs : List Field) (R : Rep α) : Prop :=
  ∀ {H : Type} (enc : TypeId × Value → H) (w : World) (fuel : Nat) (cs : List Value),
    (∀ f, f ∈ fs → ∃ d, DataW.trod enc P w 0 (fun _ => true) true fuel f.type ((cs.drop f.offset).take (P.cellsOf f.type)) = some d) → o + R.size ≤ cs.length →
    ∃ x, R.ok (fun b => b < w.heap.size) w ((cs.drop o).take R.size) x
theorem fields_nil (P : Program) (o : Nat) : FieldsOk P o [] Rep.unit := fun enc w fuel cs _ _ => ⟨(), by simp [Rep.unit]⟩
theorem fields_cons {α β : Type} {P : Program} {o : Nat} {f : Field} {fs : List Field} {R : Rep α} {S : Rep β} (hf : f.offset = o) (hR : Reads P f.type R) (hS : FieldsOk P (o + R.size) fs S) :
    FieldsOk P o (f :: fs) (R.pair S) := by
  intro H enc w fuel cs h hl
  have hl' : o + (R.size + S.size) ≤ cs.length := hl
  obtain ⟨d, hd⟩ := h f (by simp)
  obtain ⟨x, hx, hlen⟩ := hR.2 enc w fuel _ d hd
  obtain ⟨y, hy⟩ := hS enc w fuel cs (fun g hg => h g (by simp [hg])) (by omega)
  rw [hf, ← hR.1] at hx hlen
  refine ⟨(x, y), (cs.drop o).take R.size, (cs.drop (o + R.size)).take S.size, ?_, hlen, hx, hy⟩
  show (cs.drop o).take (R.size + S.size) = _
  rw [List.take_add, List.drop_drop]
theorem reads_struct {α : Type} {P : Program} {t : TypeId} {fs : Array Field} {R : Rep α} (ht : P.underlying t = some (.struct fs)) (hf : FieldsOk P 0 fs.toList R) (hs : R.size = P.cellsOf t) : Reads P t R := by
  refine ⟨hs, fun enc w fuel cs d h => ?_⟩
  obtain ⟨xs, n, rfl, rfl, hl, hxs, hfs⟩ := DataW.trod_struct ht h
  obtain ⟨x, hx⟩ := hf enc w n cs (fun f hfm => by
    obtain ⟨i, hi⟩ := List.mem_iff_getElem?.1 hfm
    have hi' : fs[i]? = some f := by simpa using hi
    have hlt : i < fs.size := (Array.getElem?_eq_some_iff.1 hi').1
    have hlt' : i < xs.length := by omega
    exact ⟨xs[i], (hfs i f hi').trans (List.getElem?_eq_getElem hlt')⟩) (by omega)
  refine ⟨x, ?_, by omega⟩
  rw [List.drop_zero, List.take_of_length_le (by omega)] at hx
  exact hx
theorem choose_list {α : Type} (n : Nat) (p : Nat → α → Prop) (h : ∀ i, i < n → ∃ x, p i x) : ∃ xs : List α, xs.length = n ∧ ∀ i (hi : i < xs.length), p i xs[i] := by
  induction n with
  | zero => exact ⟨[], rfl, fun i hi => by simp at hi⟩
  | succ n ih =>
    obtain ⟨xs, hl, hxs⟩ := ih fun i hi => h i (by omega)
    obtain ⟨x, hx⟩ := h n (by omega)
    refine ⟨xs ++ [x], by simp [hl], fun i hi => ?_⟩
    by_cases hin : i < xs.length
    · rw [List.getElem_append_left hin]; exact hxs i hin
    · have : i = n := by simp at hi; omega
      subst this
      rw [List.getElem_append_right (by omega)]; simpa using hx
theorem spot_of_cell {w : World} {a : Addr} {v : Value} (h : w.cell? a = some v) : a.spot = none := by
  unfold World.cell? at h
  split at h
  · split at h
    · cases h
    · rename_i hs; simpa using hs
  · cases h
theorem add_at (b off n : Nat) : (⟨b, off, none⟩ : Addr).add n = ⟨b, off + n, none⟩ := by
  unfold Addr.add; split <;> simp_all
theorem reads_slice {α : Type} {P : Program} {t e : TypeId} {R : Rep α} (ht : P.underlying t = some (.slice e)) (hs : P.cellsOf t = 1) (he : Reads P e R) (hpos : 0 < R.size) : Reads P t R.slice := by
  refine ⟨hs.symm, fun enc w fuel cs d h => ?_⟩
  rcases DataW.trod_slice ht h with ⟨rfl, _⟩ | ⟨a, len, cap, elems, rest, n, rfl, rfl, _, _, hle, hcap, hlen, hel, _, _⟩
  · exact ⟨[], .inl ⟨none, 0, rfl, rfl⟩, rfl⟩
  · by_cases h0 : len = 0
    · subst h0
      exact ⟨[], .inl ⟨some a, cap, rfl, rfl⟩, rfl⟩
    have key : ∀ i, i < len → ∃ x : α, ∃ c : List Value, c.length = R.size ∧ (∀ j (hj : j < c.length), w.cell? (a.add (i * R.size) |>.add j) = some c[j]) ∧ R.ok (fun b => b < w.heap.size) w c x := by
      intro i hi
      have := hel i hi
      rw [List.getElem?_eq_getElem (by omega)] at this
      obtain ⟨c, hc, hd⟩ := Option.bind_eq_some_iff.1 this
      obtain ⟨x, hx, hl⟩ := he.2 enc w n c _ hd
      obtain ⟨_, hl2, hcell⟩ := World.cells?_some hc
      refine ⟨x, c, hl, fun j hj => ?_, hx⟩
      rw [he.1, hcell j (by omega)]
      exact List.getElem?_eq_getElem hj
    obtain ⟨x0, c0, hc0, hcell0, _⟩ := key 0 (by omega)
    have hsp := hcell0 0 (by omega)
    have hblk := World.block_lt_of_cell? w _ hsp
    have hspot : a.spot = none := by
      have := spot_of_cell hsp
      simpa [Addr.add] using this
    obtain ⟨b, off, spot⟩ := a
    obtain rfl : spot = none := hspot
    simp only [add_at] at key hblk
    obtain ⟨xs, hxl, hxs⟩ := choose_list len _ key
    refine ⟨xs, .inr ⟨b, off, cap, by rw [hxl], hblk, hblk, fun e => by subst e; simp at hxl; omega, by omega, hcap, fun i hi => ?_⟩, rfl⟩
    exact hxs i hi
theorem own_shape {w : World} {B : Nat} {e : TypeId} {size n : Nat} {v : Value} {xs : List Value} (h : w.ownsRow B e size v n xs) (hn : 0 < n) :
    ∃ g cap, v = .slice (some ⟨g, 0, none⟩) n cap ∧ B ≤ g ∧ g < w.heap.size ∧ n ≤ cap ∧ cap ≤ maxLen ∧ (∀ j u, xs[j]? = some u → w.cell? ⟨g, j, none⟩ = some u) ∧ ∀ j, w.frozen? ⟨g, j, none⟩ = false := by
  obtain ⟨hl, ⟨rfl, rfl⟩ | ⟨g, cap, cur, rfl, hB, hg, hc, hm, hs, ht⟩⟩ := h
  · omega
  refine ⟨g, cap, rfl, hB, lt_of_block hg, hc, hm, fun j u hj => ?_, fun j => blk_free hg j⟩
  rw [blk_cell hg j, ← Array.getElem?_toList]
  have hjl : j < xs.length := (List.getElem?_eq_some_iff.1 hj).1
  rw [← ht] at hj
  rw [List.getElem?_take] at hj
  split at hj
  · exact hj
  · cases hj
theorem own_slice {w : World} {B : Nat} {e : TypeId} {size n : Nat} {v : Value} {xs : List Value} (h : w.ownsRow B e size v n xs) : ∃ A cap, v = .slice A n cap := by
  obtain ⟨_, ⟨rfl, rfl⟩ | ⟨g, cap, cur, rfl, _⟩⟩ := h
  · exact ⟨_, _, rfl⟩
  · exact ⟨_, _, rfl⟩
theorem own_lt {w : World} {B : Nat} {e : TypeId} {size n : Nat} {v : Value} {xs : List Value} (h : w.ownsRow B e size v n xs) (k : Nat) (hk : v.ownBlock = some k) : B ≤ k ∧ k < w.heap.size := h.lt k hk
theorem own_chg {w w' : World} {B : Nat} {e : TypeId} {size n : Nat} {v : Value} {xs : List Value} {S : Nat → Prop} (h : w.ownsRow B e size v n xs) (hc : Chg S w w') (hs : ∀ k, v.ownBlock = some k → ¬ S k) : w'.ownsRow B e size v n xs := by
  obtain ⟨hl, ⟨rfl, rfl⟩ | ⟨g, cap, cur, rfl, hB, hg, r⟩⟩ := h
  · exact ⟨hl, .inl ⟨rfl, rfl⟩⟩
  · exact ⟨hl, .inr ⟨g, cap, cur, rfl, hB, hc.blk hg (hs g rfl), r⟩⟩
theorem own_far {w : World} {B : Nat} {e : TypeId} {size n : Nat} {v : Value} {xs : List Value} (h : w.ownsRow B e size v n xs) {p : Addr} (hp : v.ownBlock ≠ some p.block) (u : Value) : (w.setCell p u).ownsRow B e size v n xs := ownsRow_setCell_other h hp u
section app
variable {P : Program} {ops : Array Oper} {rest : List Oper} {o : Oper} {a : Act} {Q : Exit → Act → World → Prop}
theorem app_from {W : World} (hgd : o.guard = none) (s x : Operand) (t e : TypeId) (z : Value) (size bytes : Nat)
    (ho : o.op = .call { callee := .builtin .append, args := #[s, x], argTypes := #[t, t] })
    (ht : P.underlying t = some (.slice e)) (hinfo : (P.info? e).map (fun i => (i.zero, i.size, i.bytes)) = some (some z, size, bytes)) (hz : z.cells.size = size) (hs0 : 0 < size) (hb0 : 0 < bytes)
    (B : Nat) (v : Value) (n : Nat) (xs ys : List Value) (ad : Addr) (m c : Nat) (hs : a.eval s = v) (hx : a.eval x = .slice (some ad) m c) (hys : ys.length = m * size) (h1 : ∀ u ∈ ys, u.oneCell' = true)
    (hc : ∀ j u, ys[j]? = some u → W.cell? (ad.add j) = some u)
    (HO : W.ownsRow B e size v n xs) (hbase : B ≤ W.heap.size) (hl : (n + m) * bytes ≤ 140737488355328)
    (h : ∀ v1 w1, w1.ownsRow B e size v1 (n + m) (xs ++ ys) → Chg (fun k => v.ownBlock = some k) W w1 → (v1.ownBlock = v.ownBlock ∨ v1.ownBlock = some W.heap.size) → wpList P ops Q rest (a.put o.dst v1) w1) :
    wpList P ops Q (o :: rest) a W := by
  obtain ⟨i0, hi, hzz⟩ := Option.map_eq_some_iff.1 hinfo
  simp only [Prod.mk.injEq] at hzz
  obtain ⟨hz0, hz1, hz2⟩ := hzz
  have hlen : n + m ≤ 140737488355328 := Nat.le_trans (Nat.le_mul_of_pos_right _ hb0) hl
  refine wpList_append_own_at W hgd s x t ho B e i0 z size bytes ht hi hz0 hz1 hz2 hz hs0 v n xs hs HO ad m c ys hx hys hc h1 (by simp only [maxLen]; omega) hl hbase ?_
  intro v1 w1 hown hg _ hat
  exact h v1 w1 hown (Chg.of_grown hg fun k hk _ => hk) hat
theorem app_one {W : World} (hgd : o.guard = none) (s x : Operand) (t e : TypeId) (z : Value) (size bytes : Nat)
    (ho : o.op = .call { callee := .builtin .append, args := #[s, x], argTypes := #[t, t] })
    (ht : P.underlying t = some (.slice e)) (hinfo : (P.info? e).map (fun i => (i.zero, i.size, i.bytes)) = some (some z, size, bytes)) (hz : z.cells.size = size) (hs0 : 0 < size) (hb0 : 0 < bytes)
    (B : Nat) (v : Value) (n : Nat) (xs : List Value) (ys : Array Value) (N : Nat) (hs : a.eval s = v) (hx : a.eval x = .slice (some ⟨N, 0, none⟩) 1 1) (hN : N = W.heap.size) (hys : ys.size = size) (h1 : ∀ u ∈ ys.toList, u.oneCell' = true)
    (HO : W.ownsRow B e size v n xs) (hbase : B ≤ W.heap.size) (hl : (n + 1) * bytes ≤ 140737488355328)
    (h : ∀ v1 w1, w1.ownsRow B e size v1 (n + 1) (xs ++ ys.toList) → Chg (fun k => v.ownBlock = some k) W w1 → (v1.ownBlock = v.ownBlock ∨ ∃ b, v1.ownBlock = some b ∧ W.heap.size ≤ b) → wpList P ops Q rest (a.put o.dst v1) w1) :
    wpList P ops Q (o :: rest) a (W.alloc (.cells ys e)) := by
  subst hN
  refine app_from hgd s x t e z size bytes ho ht hinfo hz hs0 hb0 B v n xs ys.toList ⟨W.heap.size, 0, none⟩ 1 1 hs hx (by simp [hys]) h1
    (by simpa using World.news_of_block (cs := ys) (t := e) (fr := (0, 0)) (heap_alloc_new W (.cells ys e))) (HO.alloc _) (by simp; omega) hl ?_
  intro v1 w1 hown hg hat
  refine h v1 w1 hown (((Chg.refl (fun k => v.ownBlock = some k) W).alloc _).trans hg) ?_
  rcases hat with hat | hat
  · exact .inl hat
  · exact .inr ⟨_, hat, by simp⟩
end app
end Go.Proofs.YtemoonhnncopoaaGreatDoor
end
section
namespace Go.Proofs.YtemoonhnncopoaaGreatDoor
open Go.RowKit
theorem laid3 {w w2 : World} {x y z : Value} {t : TypeId} (hb : Below (w.alloc (.cells #[x, y, z] t)).heap.size (w.alloc (.cells #[x, y, z] t)) w2) :
    w2.cell? ⟨w.heap.size, 0, none⟩ = some x ∧ w2.cell? ⟨w.heap.size, 1, none⟩ = some y ∧ w2.cell? ⟨w.heap.size, 2, none⟩ = some z ∧
      w2.frozen? ⟨w.heap.size, 0, none⟩ = false ∧ w2.frozen? ⟨w.heap.size, 1, none⟩ = false ∧ w2.frozen? ⟨w.heap.size, 2, none⟩ = false ∧ w.heap.size < w2.heap.size ∧ Below w.heap.size w w2 := by
  have h := (hb.block w.heap.size (by simp)).trans (blk_new _ _)
  have hz := hb.size
  simp at hz
  exact ⟨blk_cell h 0, blk_cell h 1, blk_cell h 2, blk_free h 0, blk_free h 1, blk_free h 2, by omega, ((Below.refl _ _).alloc (Nat.le_refl _) _).trans (hb.mono (by simp))⟩
theorem below_set3 {B g : Nat} {w W : World} (h : Below B w W) (hB : B ≤ g) (a b c : Value) : Below B w (((W.setCell ⟨g, 0, none⟩ a).setCell ⟨g, 1, none⟩ b).setCell ⟨g, 2, none⟩ c) :=
  ((h.setCell hB _).setCell hB _).setCell hB _
theorem below_then {B : Nat} {w w1 w2 : World} (h : Below B w w1) (hB : B ≤ w1.heap.size) (k : Below w1.heap.size w1 w2) : Below B w w2 := h.trans (k.mono hB)
theorem below_drewN' {B : Nat} {w w' : World} (h : Below B w w') (n : Nat) : Below B w (w'.drewN n) := by
  induction n generalizing w' with
  | zero => exact h
  | succ n ih =>
    have := ih h.drew
    rw [World.drewN_drew, Nat.add_comm] at this
    exact this
end Go.Proofs.YtemoonhnncopoaaGreatDoor
end
section
set_option linter.unusedVariables false
set_option linter.unusedSimpArgs false
namespace Go.Proofs.YtemoonhnncopoaaGreatDoor
open Go.RowKit PX Go.Proofs.YtemoonhnncopoaaGreatDoorW.PrintWords
abbrev Toks (w : World) (B : Nat) (v : Value) (l : List T) : Prop := Kd.R PAll.k91 91 w B (fun _ => True) v l
abbrev ToksC (w : World) (A : Option Addr) (n : Nat) (l : List T) : Prop := Kd.C PAll.k91 w A n l
section
variable {P : Program} {ops : Array Oper} {rest : List Oper} {o : Oper} {a : Act} {Q : Exit → Act → World → Prop}
theorem tok_append {W : World} (hgd : o.guard = none) (s x : Operand)
    (ho : o.op = .call { callee := .builtin .append, args := #[s, x], argTypes := #[92, 92] })
    (B : Nat) (v : Value) (xs : List T) (k n c : Int) (hs : a.eval s = v) (N : Nat) (hx : a.eval x = .slice (some ⟨N, 0, none⟩) 1 1) (hN : N = W.heap.size)
    (HO : Toks W B v xs) (hB : B ≤ W.heap.size) (hl : xs.length < 1000000)
    (h : ∀ v1 w1, Toks w1 B v1 (xs ++ [⟨k, n, c⟩]) → W.grownBy w1 v.ownBlock → (v1.ownBlock = v.ownBlock ∨ ∃ b, v1.ownBlock = some b ∧ W.heap.size ≤ b) → wpList Tryz.prog ops Q rest (a.put o.dst v1) w1) :
    wpList Tryz.prog ops Q (o :: rest) a (W.alloc (.cells #[.int .i64 k, .int .i64 n, .int .i64 c] 91)) := by
  subst hN
  refine Kd.R_append PAll.k91 (w0 := W) B hgd s x 92 91 (.agg #[(.int .i64 0), (.int .i64 0), (.int .i64 0)]) 24 ho Tryz.underlying92 PAll.info91 rfl (by decide) (by omega) v xs (⟨k, n, c⟩ : T) [.int .i64 k, .int .i64 n, .int .i64 c]
    (fun _ => True) (fun _ => False) hs hx (PAll.k91_mkM _ _ _ (⟨k, n, c⟩ : T)) (fun _ hk => hk.elim) (fun _ _ => trivial) HO (Below.refl _ _) hB (by omega) ?_
  intro v1 w1 h1 _ h3 h4
  exact h v1 w1 h1 h3 h4
end
inductive Er where
  | none
  | code (c : Int)
  | spot (at_ c : Int)
def ErV (B : Nat) (w : World) (v : Value) : Er → Prop
  | .none => v = .nilIface
  | .code c => v = .iface 93 (.int .i64 c)
  | .spot a c => ∃ g, v = .iface 126 (.pointer (some ⟨g, 0, none⟩)) ∧ B ≤ g ∧ w.heap[g]? = some (.cells #[.int .i64 a, .int .i64 c] 128 (0, 0))
end Go.Proofs.YtemoonhnncopoaaGreatDoor
end
section
set_option linter.unusedVariables false
set_option linter.unusedSimpArgs false
namespace Go.Proofs.YtemoonhnncopoaaGreatDoor
open PX
def Wide (l : List T) : Prop := ∀ t ∈ l, -9223372036854775808 ≤ t.f1 ∧ t.f1 ≤ 9223372036854775807
end Go.Proofs.YtemoonhnncopoaaGreatDoor
end
section
set_option linter.unusedVariables false
namespace Go.Proofs.YtemoonhnncopoaaGreatDoor.PX
structure St where
  at_ : Nat
  out : List T
  bad : Bool
namespace St
def adv (s : St) : St := { s with at_ := s.at_ + 1 }
def put (s : St) (k n : Int) : St := { s with out := s.out ++ [⟨k, n, 0⟩] }
def fail (s : St) : St := { s with bad := true }
def see (l : List T) (s : St) : Int := if s.bad = true ∨ l.length ≤ s.at_ then 0 else (l[s.at_]?.getD ⟨0, 0, 0⟩).f0
def num (l : List T) (s : St) : Int := (l[s.at_]?.getD ⟨0, 0, 0⟩).f1
end St
def level (k : Int) : Nat := if k = 13 then 1 else if k = 12 then 2 else if 8 ≤ k ∧ k ≤ 11 then 3 else if k = 3 ∨ k = 4 then 4 else if 5 ≤ k ∧ k ≤ 7 then 5 else 0
inductive Pr (l : List T) : Bool → Nat → St → St → Prop
  | row {v : Nat} {s s1 s2 : St} (hv : v = 1 ∨ v = 2 ∨ v = 4 ∨ v = 5) (h1 : Pr l false (v + 1) s s1) (h2 : Pr l true v s1 s2) : Pr l false v s s2
  | stop {v : Nat} {s : St} (h : level (s.see l) ≠ v) : Pr l true v s s
  | more {v : Nat} {s s1 s2 : St} (h : level (s.see l) = v) (h1 : Pr l false (v + 1) s.adv s1) (h2 : Pr l true v (s1.put (s.see l) 0) s2) : Pr l true v s s2
  | not_ {s s1 : St} (h : s.see l = 14) (h1 : Pr l false 3 s.adv s1) : Pr l false 3 s (s1.put 14 0)
  | sum {s s1 : St} (h : s.see l ≠ 14) (h1 : Pr l false 4 s s1) (h2 : level (s1.see l) ≠ 3) : Pr l false 3 s s1
  | cmp {s s1 s2 : St} (h : s.see l ≠ 14) (h1 : Pr l false 4 s s1) (h2 : level (s1.see l) = 3) (h3 : Pr l false 4 s1.adv s2) : Pr l false 3 s (s2.put (s1.see l) 0)
  | neg {s s1 : St} (h : s.see l = 4) (h1 : Pr l false 6 s.adv s1) : Pr l false 6 s (s1.put 19 0)
  | leaf {s : St} (h : s.see l = 1 ∨ s.see l = 2 ∨ s.see l = 15 ∨ s.see l = 16) : Pr l false 6 s (s.adv.put (s.see l) (s.num l))
  | open_ {s s1 : St} (h : s.see l = 17) (h1 : Pr l false 1 s.adv s1) (h2 : s1.see l = 18) : Pr l false 6 s s1.adv
  | openBad {s s1 : St} (h : s.see l = 17) (h1 : Pr l false 1 s.adv s1) (h2 : s1.see l ≠ 18) : Pr l false 6 s s1.fail
  | none_ {s : St} (h : ¬(s.see l = 4 ∨ s.see l = 1 ∨ s.see l = 2 ∨ s.see l = 15 ∨ s.see l = 16 ∨ s.see l = 17)) : Pr l false 6 s s.fail
theorem Pr.det {l : List T} {b : Bool} {v : Nat} {s s' : St} (h : Pr l b v s s') : ∀ {s'' : St}, Pr l b v s s'' → s' = s'' := by
  induction h with
  | row hv h1 h2 i1 i2 =>
    intro s'' h
    cases h with
    | row _ k1 k2 => obtain rfl := i1 k1; exact i2 k2
    | _ => omega
  | stop h => intro s'' k; cases k with
    | stop _ => rfl
    | more h' => exact absurd h' h
  | more h h1 h2 i1 i2 => intro s'' k; cases k with
    | stop h' => exact absurd h h'
    | more h' k1 k2 => obtain rfl := i1 k1; exact i2 k2
  | not_ h h1 i1 => intro s'' k; cases k with
    | row hv => omega
    | not_ _ k1 => rw [i1 k1]
    | sum h' => exact absurd h h'
    | cmp h' => exact absurd h h'
  | sum h h1 h2 i1 => intro s'' k; cases k with
    | row hv => omega
    | not_ h' => exact absurd h' h
    | sum _ k1 _ => exact i1 k1
    | cmp _ k1 k2 _ => rw [i1 k1] at h2; exact absurd k2 h2
  | cmp h h1 h2 h3 i1 i3 => intro s'' k; cases k with
    | row hv => omega
    | not_ h' => exact absurd h' h
    | sum _ k1 k2 => rw [i1 k1] at h2; exact absurd h2 k2
    | cmp _ k1 k2 k3 => obtain rfl := i1 k1; rw [i3 k3]
  | neg h h1 i1 => intro s'' k; cases k with
    | row hv => omega
    | neg _ k1 => rw [i1 k1]
    | _ => omega
  | leaf h => intro s'' k; cases k with
    | leaf _ => rfl
    | _ => omega
  | open_ h h1 h2 i1 => intro s'' k; cases k with
    | open_ _ k1 _ => rw [i1 k1]
    | openBad _ k1 k2 => rw [i1 k1] at h2; exact absurd h2 k2
    | _ => omega
  | openBad h h1 h2 i1 => intro s'' k; cases k with
    | open_ _ k1 k2 => rw [i1 k1] at h2; exact absurd k2 h2
    | openBad _ k1 _ => rw [i1 k1]
    | _ => omega
  | none_ h => intro s'' k; cases k with
    | none_ _ => rfl
    | _ => omega
theorem see_lt {l : List T} {s : St} (h : s.see l ≠ 0) : s.at_ < l.length := by
  unfold St.see at h; split at h
  · exact absurd rfl h
  · rename_i hc; omega
theorem see_at {l : List T} {s : St} {k : Int} (h : s.see l = k) (hk : k ≠ 0) : s.at_ < l.length := see_lt (by omega)
theorem level_see {k : Int} {v : Nat} (h : level k = v) (hv : v ≠ 0) : k ≠ 0 := by
  rintro rfl; simp [level] at h; omega
theorem adv_at (s : St) : s.adv.at_ = s.at_ + 1 := rfl
theorem adv_out (s : St) : s.adv.out = s.out := rfl
theorem put_at (s : St) (k n : Int) : (s.put k n).at_ = s.at_ := rfl
theorem put_out (s : St) (k n : Int) : (s.put k n).out.length = s.out.length + 1 := by simp [St.put]
theorem fail_at (s : St) : s.fail.at_ = s.at_ := rfl
theorem fail_out (s : St) : s.fail.out = s.out := rfl
theorem Pr.le {l : List T} {b : Bool} {v : Nat} {s s' : St} (h : Pr l b v s s') (hv : v ≠ 0) (hs : s.at_ ≤ l.length) : s.at_ ≤ s'.at_ ∧ s'.at_ ≤ l.length ∧ s'.out.length + s.at_ ≤ s.out.length + s'.at_ := by
  induction h with
  | row _ h1 h2 i1 i2 => have := i1 (by omega) hs; have := i2 hv (by omega); omega
  | stop h => omega
  | more h h1 h2 i1 i2 =>
    have := see_lt (level_see h hv)
    have a := i1 (by omega) (by rw [adv_at]; omega)
    have b := i2 hv (by rw [put_at]; omega)
    simp only [adv_at, adv_out, put_at, put_out] at a b ⊢; omega
  | not_ h h1 i1 =>
    have := see_at h (by omega)
    have a := i1 (by omega) (by rw [adv_at]; omega)
    simp only [adv_at, adv_out, put_at, put_out] at a ⊢; omega
  | sum h h1 h2 i1 => exact i1 (by omega) hs
  | cmp h h1 h2 h3 i1 i3 =>
    have a := i1 (by omega) hs
    have := see_lt (level_see h2 (by omega))
    have b := i3 (by omega) (by rw [adv_at]; omega)
    simp only [adv_at, adv_out, put_at, put_out] at a b ⊢; omega
  | neg h h1 i1 =>
    have := see_at h (by omega)
    have a := i1 (by omega) (by rw [adv_at]; omega)
    simp only [adv_at, adv_out, put_at, put_out] at a ⊢; omega
  | leaf h =>
    have := see_lt (l := l) (fun e => by rw [e] at h; omega)
    simp only [adv_at, adv_out, put_at, put_out]; omega
  | open_ h h1 h2 i1 =>
    have := see_at h (by omega)
    have a := i1 (by omega) (by rw [adv_at]; omega)
    have := see_at h2 (by omega)
    simp only [adv_at, adv_out] at a ⊢; omega
  | openBad h h1 h2 i1 =>
    have := see_at h (by omega)
    have a := i1 (by omega) (by rw [adv_at]; omega)
    simp only [adv_at, adv_out, fail_at, fail_out] at a ⊢; omega
  | none_ h => simp only [fail_at, fail_out]; omega
end Go.Proofs.YtemoonhnncopoaaGreatDoor.PX
end
section
set_option linter.unusedVariables false
set_option linter.unusedSimpArgs false
namespace Go.Proofs.YtemoonhnncopoaaGreatDoor
open Go.RowKit PX Go.Proofs.YtemoonhnncopoaaGreatDoorW.PrintWords
theorem takes0 {t : T} (h : takes t = 0) : (t.f0 = 1 ∨ t.f0 = 2 ∨ t.f0 = 15 ∨ t.f0 = 16) ∧ 0 ≤ t.f1 ∧ (t.f0 = 2 → t.f1 ≤ 25) := by
  unfold takes at h
  split at h
  · cases h
  · split at h
    · omega
    · split at h
      · cases h
      · split at h
        · omega
        · split at h
          · cases h
          · split at h <;> cases h
theorem takes1 {t : T} (h : takes t = 1) : t.f0 = 14 ∨ t.f0 = 19 := by
  unfold takes at h
  split at h
  · cases h
  · split at h
    · cases h
    · split at h
      · cases h
      · split at h
        · cases h
        · split at h
          · omega
          · split at h <;> cases h
theorem takes2 {t : T} (h : takes t = 2) : 3 ≤ t.f0 ∧ t.f0 ≤ 13 := by
  unfold takes at h
  split at h
  · cases h
  · split at h
    · cases h
    · split at h
      · cases h
      · split at h
        · cases h
        · split at h
          · cases h
          · split at h
            · omega
            · cases h
theorem takes_f (K : Nat) (k n c : Int) : PAll.parse_takes.f (K + 5) k n c = some (takes ⟨k, n, c⟩) := by
  simp only [PAll.parse_takes.f, PAll.parse_takes.j0, PAll.parse_takes.j1, PAll.parse_takes.j2, PAll.parse_takes.j3, takes, decide_eq_true_eq, beq_iff_eq, if_true, if_false, Bool.false_eq_true]
  by_cases h1 : c = 0
  · by_cases h2 : n < 0
    · simp [h1, h2]
    · by_cases h3 : k = 1
      · simp [h1, h2, h3]
      · by_cases h4 : k = 2
        · subst h4
          by_cases h5 : n ≤ 25
          · simp [h1, h2, h5]
          · have h6 : n ≠ 0 := by omega
            simp [h1, h2, h5, h6]
        · by_cases h6 : n = 0
          · subst h6
            by_cases a15 : k = 15
            · subst a15; simp [h1]
            by_cases a16 : k = 16
            · subst a16; simp [h1]
            by_cases a14 : k = 14
            · subst a14; simp [h1]
            by_cases a19 : k = 19
            · subst a19; simp [h1]
            by_cases a3 : 3 ≤ k
            · by_cases a13 : k ≤ 13
              · simp [h1, h3, h4, a15, a16, a14, a19, a3, a13]
              · simp [h1, h3, h4, a15, a16, a14, a19, a3, a13]
            · simp [h1, h3, h4, a15, a16, a14, a19, a3]
          · simp [h1, h2, h3, h4, h6]
  · simp [h1]
theorem level_two (k : Int) : (0 < level k) ↔ 3 ≤ k ∧ k ≤ 13 := by
  unfold level
  repeat' split
  all_goals omega
theorem mayL_ev (l : List T) (hl : l.length ≤ 100) (d : Nat) : ∀ (q : Nat) (n : Int), q ≤ l.length → l.length - q = d → 0 ≤ n → n ≤ q → Ev (fun k => PAll.parse_May.l0 k n l l.length q) (mayGo (l.drop q) n == some 1) := by
  induction d with
  | zero =>
    intro q n hq hd hn hn2
    obtain rfl : q = l.length := by omega
    refine Ev.step (fun k => rfl) ?_
    simp only [PAll.parse_May.l0]
    refine ev_neg (by omega) ?_
    rw [List.drop_of_length_le (Nat.le_refl _)]
    have e : (mayGo [] n == some 1) = (n == 1) := by simp [mayGo]
    rw [e]
    exact Ev.now _
  | succ d ih =>
    intro q n hq hd hn hn2
    have hlt : q < l.length := by omega
    refine Ev.step (fun k => rfl) ?_
    simp only [PAll.parse_May.l0]
    refine ev_pos (by omega) (ev_pos (by omega) (ev_pos (by omega) ?_))
    have hti : PAll.rd_T91 l q = l[q] := by simp [PAll.rd_T91, List.getD_eq_getElem?_getD, List.getElem?_eq_getElem hlt]
    rw [hti, List.drop_eq_getElem_cons hlt]
    simp only [mayGo]
    have ht : Ev (fun k => PAll.parse_takes.f k l[q].f0 l[q].f1 l[q].f2) (takes l[q]) := Ev.of (fun k => PAll.parse_takes.mono _ _ _ k) (takes_f 0 _ _ _)
    refine Ev.bind ht ?_
    have hc := takes_cases l[q]
    by_cases h0 : takes l[q] < 0
    · refine ev_pos h0 ?_
      rw [if_pos (.inl h0)]
      exact Ev.now _
    · refine ev_neg h0 ?_
      by_cases h1 : takes l[q] > n
      · refine ev_pos h1 ?_
        rw [if_pos (.inr h1)]
        exact Ev.now _
      · refine ev_neg h1 ?_
        have e1 : wrap64 (1 - takes l[q]) = 1 - takes l[q] := w64 (by omega) (by omega)
        rw [if_neg (by omega), e1, w64 (by omega) (by omega), w64 (by omega) (by omega)]
        have := ih (q + 1) (n + (1 - takes l[q])) (by omega) (by omega) (by omega) (by omega)
        exact this
theorem may_f (l : List T) : ∃ k, PAll.parse_May.f k l = some (may l) := by
  by_cases h : l.length ≤ 100
  · have := mayL_ev l h l.length 0 0 (by omega) (by omega) (by omega) (by omega)
    obtain ⟨k, hk⟩ := Ev.rounds this
    refine ⟨k, ?_⟩
    unfold PAll.parse_May.f
    rw [if_neg (by omega)]
    simpa [may, h] using hk
  · refine ⟨0, ?_⟩
    unfold PAll.parse_May.f
    rw [if_pos (by omega)]
    simp [may, h]
theorem may_any (A : Option Addr) (c : Nat) (l : List T) (w : World) (hC : ToksC w A l.length l) (hc : l.length ≤ c) :
    Calls Tryz.prog 108 #[.slice A l.length c] w fun e w' => e = .returned (.bool (may l)) ∧ Below w.heap.size w w' := by
  obtain ⟨k, hk⟩ := may_f l
  exact PAll.parse_May.calls k A c l _ w hC hc hk
end Go.Proofs.YtemoonhnncopoaaGreatDoor
end
section
set_option linter.unusedVariables false
set_option linter.unusedSimpArgs false
namespace Go.Proofs.YtemoonhnncopoaaGreatDoor
open Go.RowKit PX Go.Proofs.YtemoonhnncopoaaGreatDoorW.PrintWords
theorem level_f (k : Int) : PAll.spinetref03_Level.f 3 k = some (level k : Int) := by
  simp only [PAll.spinetref03_Level.f, PAll.spinetref03_Level.j0, PAll.spinetref03_Level.j1, level]
  by_cases h1 : k = 13
  · simp [h1]
  by_cases h2 : k = 12
  · simp [h2]
  by_cases h3 : 8 ≤ k
  · by_cases h4 : k ≤ 11
    · simp [h1, h2, h3, h4]
    · have n3 : k ≠ 3 := by omega
      have n4 : k ≠ 4 := by omega
      have n7 : ¬ k ≤ 7 := by omega
      simp [h1, h2, h3, h4, n3, n4, n7]
  · by_cases h5 : k = 3
    · subst h5; simp
    · by_cases h6 : k = 4
      · subst h6; simp
      · by_cases h7 : 5 ≤ k
        · have n7 : k ≤ 7 := by omega
          simp [h1, h2, h3, h5, h6, h7, n7]
        · simp [h1, h2, h3, h5, h6, h7]
theorem level_any (k : Int) (w : World) : Calls Tryz.prog 121 #[.int .i64 k] w fun e w' => e = .returned (.int .i64 (level k : Nat)) ∧ ∃ n, w' = w.drewN n :=
  (PAll.spinetref03_Level.calls 3 k _ w (level_f k)).mono fun e w' ⟨he, hd⟩ => ⟨he, by obtain ⟨n, hn⟩ := hd; exact ⟨n, hn⟩⟩
end Go.Proofs.YtemoonhnncopoaaGreatDoor
end
section
set_option linter.unusedVariables false
set_option linter.unusedSimpArgs false
namespace Go.Proofs.YtemoonhnncopoaaGreatDoor
open Go.RowKit PX Go.Proofs.YtemoonhnncopoaaGreatDoorW.PrintWords
theorem level_ev (K : Nat) (k : Int) : PAll.spinetref03_Level.f (K + 3) k = some (level k : Int) := by
  have h := level_f k
  have : ∀ n, PAll.spinetref03_Level.f (n + 3) k = some (level k : Int) := by
    intro n
    induction n with
    | zero => exact h
    | succ n ih => exact PAll.spinetref03_Level.mono k (n + 3) _ ih
  exact this K
theorem rtakes_f (K : Nat) (k n c : Int) : PAll.spinetref03_Takes.f (K + 8) k n c = some (takes ⟨k, n, c⟩) := by
  have hl := level_two k
  simp only [PAll.spinetref03_Takes.f, PAll.spinetref03_Takes.j0, PAll.spinetref03_Takes.j1, PAll.spinetref03_Takes.j2, PAll.spinetref03_Takes.j3, takes, decide_eq_true_eq, beq_iff_eq, if_true, if_false, Bool.false_eq_true, level_ev, Option.bind_some]
  by_cases h1 : c = 0
  · by_cases h2 : n < 0
    · simp [h1, h2]
    · by_cases h3 : k = 1
      · simp [h1, h2, h3]
      · by_cases h4 : k = 2
        · subst h4
          by_cases h5 : n ≤ 25
          · have h7 : n < 26 := by omega
            simp [h1, h2, h5, h7]
          · have h6 : n ≠ 0 := by omega
            have h7 : ¬ n < 26 := by omega
            simp [h1, h2, h5, h6, h7]
        · by_cases h6 : n = 0
          · subst h6
            by_cases a15 : k = 15
            · subst a15; simp [h1]
            by_cases a16 : k = 16
            · subst a16; simp [h1]
            by_cases a14 : k = 14
            · subst a14; simp [h1]
            by_cases a19 : k = 19
            · subst a19; simp [h1]
            by_cases a3 : 3 ≤ k
            · by_cases a13 : k ≤ 13
              · have hp : ¬ level k = 0 := by have := hl.2 ⟨a3, a13⟩; omega
                simp [h1, h3, h4, a15, a16, a14, a19, a3, a13, hp]
              · have hp : level k = 0 := by have : ¬ 0 < level k := fun e => a13 (hl.1 e).2; omega
                simp [h1, h3, h4, a15, a16, a14, a19, a3, a13, hp]
            · have hp : level k = 0 := by have : ¬ 0 < level k := fun e => a3 (hl.1 e).1; omega
              simp [h1, h3, h4, a15, a16, a14, a19, a3, hp]
          · simp [h1, h2, h3, h4, h6]
  · simp [h1]
theorem rmayL_ev (l : List T) (hl : l.length ≤ 1000000) (d : Nat) : ∀ (q : Nat) (n : Int), q ≤ l.length → l.length - q = d → 0 ≤ n → n ≤ q → Ev (fun k => PAll.spinetref03_May.l0 k l n q) (decide (l.length ≤ 100) && (mayGo (l.drop q) n == some 1)) := by
  induction d with
  | zero =>
    intro q n hq hd hn hn2
    obtain rfl : q = l.length := by omega
    refine Ev.step (fun k => rfl) ?_
    simp only [PAll.spinetref03_May.l0]
    refine ev_neg (by omega) ?_
    rw [List.drop_of_length_le (Nat.le_refl _)]
    by_cases h1 : n = 1
    · refine ev_pos h1 ?_
      have e : (decide (l.length ≤ 100) && (mayGo [] n == some 1)) = decide ((l.length : Int) ≤ 100) := by
        simp only [mayGo, h1]
        by_cases h : l.length ≤ 100
        · have h' : (l.length : Int) ≤ 100 := by omega
          simp [h, h']
        · have h' : ¬ (l.length : Int) ≤ 100 := by omega
          simp [h, h']
      rw [e]
      exact Ev.now _
    · refine ev_neg h1 ?_
      have e : (decide (l.length ≤ 100) && (mayGo [] n == some 1)) = false := by simp [mayGo, h1]
      rw [e]
      exact Ev.now _
  | succ d ih =>
    intro q n hq hd hn hn2
    have hlt : q < l.length := by omega
    refine Ev.step (fun k => rfl) ?_
    simp only [PAll.spinetref03_May.l0]
    refine ev_pos (by omega) (ev_pos (by omega) ?_)
    have hti : PAll.rd_T91 l q = l[q] := by simp [PAll.rd_T91, List.getD_eq_getElem?_getD, List.getElem?_eq_getElem hlt]
    rw [hti, List.drop_eq_getElem_cons hlt]
    simp only [mayGo]
    have ht : Ev (fun k => PAll.spinetref03_Takes.f k l[q].f0 l[q].f1 l[q].f2) (takes l[q]) := Ev.of (fun k => PAll.spinetref03_Takes.mono _ _ _ k) (rtakes_f 0 _ _ _)
    refine Ev.bind ht ?_
    have hc := takes_cases l[q]
    by_cases h0 : takes l[q] < 0
    · refine ev_pos h0 ?_
      rw [if_pos (.inl h0)]
      simp only [show (none == some (1 : Int)) = false from rfl, Bool.and_false]
      exact Ev.now _
    · refine ev_neg h0 ?_
      by_cases h1 : takes l[q] > n
      · refine ev_pos h1 ?_
        rw [if_pos (.inr h1)]
        simp only [show (none == some (1 : Int)) = false from rfl, Bool.and_false]
        exact Ev.now _
      · refine ev_neg h1 ?_
        have e1 : wrap64 (n - takes l[q]) = n - takes l[q] := w64 (by omega) (by omega)
        rw [if_neg (by omega), e1, w64 (by omega) (by omega), w64 (by omega) (by omega)]
        have := ih (q + 1) (n - takes l[q] + 1) (by omega) (by omega) (by omega) (by omega)
        rw [show n + (1 - takes l[q]) = n - takes l[q] + 1 by omega]
        exact this
theorem rmay_f (l : List T) (hl : l.length ≤ 1000000) : ∃ k, PAll.spinetref03_May.f k l = some (may l) := by
  have := rmayL_ev l hl l.length 0 0 (by omega) (by omega) (by omega) (by omega)
  exact Ev.rounds this
end Go.Proofs.YtemoonhnncopoaaGreatDoor
end
section
set_option linter.unusedVariables false
set_option linter.unusedSimpArgs false
namespace Go.Proofs.YtemoonhnncopoaaGreatDoor
open Go.RowKit Go.Proofs.YtemoonhnncopoaaGreatDoorW.PrintWords
theorem u64w (n : Int) : IntKind.u64.wrap n = n % 18446744073709551616 := by rw [IntKind.wrap_u64]
theorem wq (x : Nat) : wrap64 (IntKind.u64.wrap x) = wrap64 x := by
  rw [u64w]; unfold wrap64; omega
theorem wn (x : Nat) : wrap64 (IntKind.u64.wrap (-(IntKind.u64.wrap x))) = wrap64 (-x) := by
  rw [u64w, u64w]; unfold wrap64; omega
theorem tdiv_nn (a b : Int) (ha : 0 ≤ a) (hb : 0 ≤ b) : a.tdiv b = ((a.natAbs / b.natAbs : Nat) : Int) := by
  obtain ⟨n, rfl⟩ := Int.eq_ofNat_of_zero_le ha
  obtain ⟨m, rfl⟩ := Int.eq_ofNat_of_zero_le hb
  simp
theorem tdiv_pn (a b : Int) (ha : 0 ≤ a) (hb : b < 0) : a.tdiv b = -((a.natAbs / b.natAbs : Nat) : Int) := by
  have := tdiv_nn a (-b) ha (by omega)
  rw [Int.tdiv_neg] at this
  simp at this ⊢; omega
theorem tdiv_np (a b : Int) (ha : a < 0) (hb : 0 ≤ b) : a.tdiv b = -((a.natAbs / b.natAbs : Nat) : Int) := by
  have := tdiv_nn (-a) b (by omega) hb
  rw [Int.neg_tdiv] at this
  simp at this ⊢; omega
theorem tdiv_neg2 (a b : Int) (ha : a < 0) (hb : b < 0) : a.tdiv b = ((a.natAbs / b.natAbs : Nat) : Int) := by
  have := tdiv_nn (-a) (-b) (by omega) (by omega)
  rw [Int.neg_tdiv, Int.tdiv_neg] at this
  simp at this ⊢; omega
theorem w64_ex (x : Int) : ∃ k : Int, wrap64 x = x + k * 18446744073709551616 := ⟨-((x + 9223372036854775808) / 18446744073709551616), by unfold wrap64; omega⟩
theorem w64_eq (x y k : Int) (h : x = y + k * 18446744073709551616) : wrap64 x = wrap64 y := by subst h; unfold wrap64; omega
theorem w64_mul (b x : Int) : wrap64 (b * wrap64 x) = wrap64 (b * x) := by
  obtain ⟨k, h⟩ := w64_ex x; exact w64_eq _ _ (b * k) (by rw [h, Int.mul_add, Int.mul_assoc])
theorem w64_sub (a x : Int) : wrap64 (a - wrap64 x) = wrap64 (a - x) := by
  obtain ⟨k, h⟩ := w64_ex x; exact w64_eq _ _ (-k) (by rw [h]; omega)
theorem u64_ex (x : Int) : ∃ k : Int, IntKind.u64.wrap x = x + k * 18446744073709551616 := ⟨-(x / 18446744073709551616), by rw [u64w]; omega⟩
theorem tmod_bounds (a b : Int) (h1 : -9223372036854775808 ≤ a) (h2 : a ≤ 9223372036854775807) : -9223372036854775808 ≤ a.tmod b ∧ a.tmod b ≤ 9223372036854775807 := by
  by_cases ha : 0 ≤ a
  · have := Int.tmod_nonneg b ha
    have h := Int.natAbs_tmod a b
    have := Nat.mod_le a.natAbs b.natAbs
    omega
  · have h := Int.natAbs_tmod a b
    have := Nat.mod_le a.natAbs b.natAbs
    have h3 := Int.tmod_nonneg b (a := -a) (by omega)
    rw [Int.neg_tmod] at h3
    omega
theorem mod_back (a b : Int) (h1 : -9223372036854775808 ≤ a) (h2 : a ≤ 9223372036854775807) : wrap64 (a - wrap64 (b * wrap64 (a.tdiv b))) = a.tmod b := by
  rw [w64_sub, ← w64_sub, w64_mul, w64_sub, ← Int.tmod_def]
  exact IntWalk.wrap64_in _ (tmod_bounds a b h1 h2)
theorem wrap_in (x : Int) : -9223372036854775808 ≤ wrap64 x ∧ wrap64 x ≤ 9223372036854775807 := by unfold wrap64; omega
theorem radd_f (a b : Int) : PAll.spinetref01_Add.f a b = some (wrap64 (a + b)) := by
  unfold PAll.spinetref01_Add.f
  obtain ⟨k, h⟩ := u64_ex a
  obtain ⟨l, h2⟩ := u64_ex b
  obtain ⟨m, h3⟩ := u64_ex (IntKind.u64.wrap a + IntKind.u64.wrap b)
  rw [h3]
  congr 1
  exact w64_eq _ _ (k + l + m) (by rw [h, h2]; omega)
theorem rsub_f (a b : Int) : PAll.spinetref01_Sub.f a b = some (wrap64 (a - b)) := by
  unfold PAll.spinetref01_Sub.f
  obtain ⟨k, h⟩ := u64_ex a
  obtain ⟨l, h2⟩ := u64_ex b
  obtain ⟨m, h3⟩ := u64_ex (IntKind.u64.wrap a - IntKind.u64.wrap b)
  rw [h3]
  congr 1
  exact w64_eq _ _ (k - l + m) (by rw [h, h2]; omega)
theorem rmul_f (a b : Int) : PAll.spinetref01_Mul.f a b = some (wrap64 (a * b)) := by
  unfold PAll.spinetref01_Mul.f
  obtain ⟨k, h⟩ := u64_ex a
  obtain ⟨l, h2⟩ := u64_ex b
  obtain ⟨m, h3⟩ := u64_ex (IntKind.u64.wrap a * IntKind.u64.wrap b)
  rw [h3]
  congr 1
  refine w64_eq _ _ (a * l + k * b + k * 18446744073709551616 * l + m) ?_
  rw [h, h2]
  simp only [Int.add_mul, Int.mul_add, Int.mul_assoc, Int.mul_comm, Int.mul_left_comm]
  omega
theorem rsize_f (a : Int) (h1 : -9223372036854775808 ≤ a) (h2 : a ≤ 9223372036854775807) : PAll.spinetref01_size.f a = some (a.natAbs : Int) := by
  unfold PAll.spinetref01_size.f
  split
  · congr 1; simp only [u64w]; omega
  · congr 1; simp only [u64w]; omega
theorem rdiv_f (a b : Int) (h1 : -9223372036854775808 ≤ a) (h2 : a ≤ 9223372036854775807) (h3 : -9223372036854775808 ≤ b) (h4 : b ≤ 9223372036854775807) (hb : ¬ b = 0) : PAll.spinetref01_Div.f a b = some (wrap64 (a.tdiv b)) := by
  unfold PAll.spinetref01_Div.f
  rw [rsize_f a h1 h2, rsize_f b h3 h4]
  simp only [Option.bind_some]
  rw [if_neg (by omega)]
  have ec : (a.natAbs : Int).tdiv b.natAbs = ((a.natAbs / b.natAbs : Nat) : Int) := by simp
  rw [ec]
  by_cases ha : a < 0
  · have dA : decide (a < 0) = true := decide_eq_true ha
    by_cases hb' : b < 0
    · have dB : decide (b < 0) = true := decide_eq_true hb'
      rw [dA, dB, if_neg (by decide), wq, tdiv_neg2 a b ha hb']
    · have dB : decide (b < 0) = false := decide_eq_false hb'
      rw [dA, dB, if_pos (by decide), wn, tdiv_np a b ha (by omega)]
  · have dA : decide (a < 0) = false := decide_eq_false ha
    by_cases hb' : b < 0
    · have dB : decide (b < 0) = true := decide_eq_true hb'
      rw [dA, dB, if_pos (by decide), wn, tdiv_pn a b (by omega) hb']
    · have dB : decide (b < 0) = false := decide_eq_false hb'
      rw [dA, dB, if_neg (by decide), wq, tdiv_nn a b (by omega) (by omega)]
theorem rmod_f (a b : Int) (h1 : -9223372036854775808 ≤ a) (h2 : a ≤ 9223372036854775807) (h3 : -9223372036854775808 ≤ b) (h4 : b ≤ 9223372036854775807) (hb : ¬ b = 0) : PAll.spinetref01_Mod.f a b = some (a.tmod b) := by
  unfold PAll.spinetref01_Mod.f
  rw [rdiv_f a b h1 h2 h3 h4 hb]
  simp only [Option.bind_some]
  rw [rmul_f]
  simp only [Option.bind_some]
  rw [rsub_f, mod_back a b h1 h2]
  rfl
end Go.Proofs.YtemoonhnncopoaaGreatDoor
end
section
set_option linter.unusedVariables false
set_option linter.unusedSimpArgs false
namespace Go.Proofs.YtemoonhnncopoaaGreatDoor
open Go.RowKit Go.Proofs.YtemoonhnncopoaaGreatDoorW.PrintWords
open PX (T V Tr takes runs val value mayGo may tree_of takes_cases)
def truthV (b : Bool) : V := (2, if b then 1 else 0)
def wholeV (n : Int) : V := (1, n)
def lookV (typed : Bool) (vars : Int) (env : List Int) (v : Int) : Option Int :=
  if typed then if v < vars then some 0 else none else if v < env.length then some (rd env v) else none
def leafE (look : Int → Option Int) (t : T) : Except Int V :=
  if t.f0 = 1 then .ok (wholeV t.f1) else if t.f0 = 2 then (match look t.f1 with | some n => .ok (wholeV n) | none => .error 4) else .ok (truthV (t.f0 == 15))
def oneE (t : T) (a : V) : Except Int V :=
  if t.f0 = 19 ∧ a.1 = 1 then .ok (wholeV (wrap64 (-a.2))) else if t.f0 = 14 ∧ a.1 = 2 then .ok (truthV (a.2 == 0)) else .error 8
def numE (k a b : Int) : Except Int V :=
  if k = 3 then .ok (wholeV (wrap64 (a + b))) else if k = 4 then .ok (wholeV (wrap64 (a - b))) else if k = 5 then .ok (wholeV (wrap64 (a * b)))
  else if k = 6 then (if b = 0 then .error 9 else .ok (wholeV (wrap64 (a.tdiv b)))) else if k = 7 then (if b = 0 then .error 9 else .ok (wholeV (a.tmod b)))
  else if k = 8 then .ok (truthV (decide (a < b))) else if k = 9 then .ok (truthV (decide (a ≤ b))) else .error 8
def bothE (k : Int) (a b : V) : Except Int V :=
  if a.1 ≠ b.1 then .error 8 else if k = 10 then .ok (truthV (a.2 == b.2)) else if k = 11 then .ok (truthV (!(a.2 == b.2)))
  else if a.1 = 1 then numE k a.2 b.2
  else if k = 12 then .ok (truthV (decide (wrap64 (a.2 + b.2) > 1))) else if k = 13 then .ok (truthV (decide (wrap64 (a.2 + b.2) > 0))) else .error 8
def zeroE (typed : Bool) : Except Int V → Except Int V
  | .error e => if e = 9 ∧ typed = true then .ok (wholeV 0) else .error e
  | .ok v => .ok v
def twoE (typed : Bool) (t : T) (a b : V) : Except Int V := zeroE typed (bothE t.f0 a b)
abbrev runsE (look : Int → Option Int) (typed : Bool) := runs (leafE look) oneE (twoE typed)
abbrev stepE (look : Int → Option Int) (typed : Bool) := PX.step (leafE look) oneE (twoE typed)
abbrev valE (look : Int → Option Int) (typed : Bool) := val (leafE look) oneE (twoE typed)
abbrev valueE (look : Int → Option Int) (typed : Bool) := value (leafE look) oneE (twoE typed)
def VOk (v : V) : Prop := (v.1 = 1 ∨ v.1 = 2 ∧ (v.2 = 0 ∨ v.2 = 1)) ∧ -9223372036854775808 ≤ v.2 ∧ v.2 ≤ 9223372036854775807
theorem truthV_ok (b : Bool) : VOk (truthV b) := by cases b <;> simp [truthV, VOk]
theorem wholeV_ok {n : Int} (h1 : -9223372036854775808 ≤ n) (h2 : n ≤ 9223372036854775807) : VOk (wholeV n) := ⟨.inl rfl, h1, h2⟩
theorem wholeV_wrap (n : Int) : VOk (wholeV (wrap64 n)) := wholeV_ok (wrap_in n).1 (wrap_in n).2
def EOk (e : Except Int V) : Prop := match e with | .ok v => VOk v | .error c => c = 4 ∨ c = 8 ∨ c = 9
theorem numE_ok (k : Int) {a b : Int} (ha : -9223372036854775808 ≤ a ∧ a ≤ 9223372036854775807) : EOk (numE k a b) := by
  have := tmod_bounds a b ha.1 ha.2
  unfold numE
  repeat' split
  all_goals first | exact wholeV_wrap _ | exact truthV_ok _ | exact wholeV_ok this.1 this.2 | exact .inr (.inl rfl) | exact .inr (.inr rfl)
theorem oneE_ok (t : T) (a : V) : EOk (oneE t a) := by
  unfold oneE
  repeat' split
  all_goals first | exact wholeV_wrap _ | exact truthV_ok _ | exact .inr (.inl rfl) | exact .inr (.inr rfl)
theorem bothE_ok (k : Int) {a b : V} (ha : VOk a) : EOk (bothE k a b) := by
  unfold bothE
  repeat' split
  all_goals first | exact truthV_ok _ | exact numE_ok _ ha.2 | exact .inr (.inl rfl) | exact .inr (.inr rfl)
theorem twoE_ok (typed : Bool) (t : T) {a b : V} (ha : VOk a) : EOk (twoE typed t a b) := by
  have := bothE_ok t.f0 (b := b) ha
  unfold twoE
  cases h : bothE t.f0 a b with
  | ok v => rw [h] at this; exact this
  | error e =>
    rw [h] at this
    simp only [zeroE]
    split
    · exact wholeV_ok (by omega) (by omega)
    · exact this
theorem leafE_ok {look : Int → Option Int} (hl : ∀ v n, look v = some n → -9223372036854775808 ≤ n ∧ n ≤ 9223372036854775807) {t : T} (ht : -9223372036854775808 ≤ t.f1 ∧ t.f1 ≤ 9223372036854775807) : EOk (leafE look t) := by
  unfold leafE
  split
  · exact wholeV_ok ht.1 ht.2
  · split
    · split
      · rename_i n hn; exact wholeV_ok (hl _ _ hn).1 (hl _ _ hn).2
      · simp [EOk]
    · exact truthV_ok _
def encE (e : Except Int V) : Int × Int × Int := match e with | .ok v => (v.1, v.2, 0) | .error c => (0, 0, c)
theorem rtruth_f (b : Bool) : PAll.spinetref04_truth.f b = some (encE (.ok (truthV b))) := by cases b <;> rfl
theorem rwhole_f (n : Int) : PAll.spinetref04_whole.f n = some (encE (.ok (wholeV n))) := rfl
theorem two_ev (k : Int) {a b : V} (ha : VOk a) (hb : VOk b) : Ev (fun K => PAll.spinetref04_two.f K k a.1 a.2 b.1 b.2) (encE (bothE k a b)) := by
  obtain ⟨ka, na⟩ := a
  obtain ⟨kb, nb⟩ := b
  obtain ⟨ha1, ha2, ha3⟩ := ha
  obtain ⟨hb1, hb2, hb3⟩ := hb
  simp only at ha1 ha2 ha3 hb1 hb2 hb3
  refine Ev.of (fun K => PAll.spinetref04_two.mono _ _ _ _ _ K) (k := 3) ?_
  show PAll.spinetref04_two.f 3 k ka na kb nb = some (encE (bothE k (ka, na) (kb, nb)))
  simp only [PAll.spinetref04_two.f, PAll.spinetref04_two.j0, PAll.spinetref04_two.j1, bothE, numE, rtruth_f, rwhole_f, radd_f, rsub_f, rmul_f, Option.bind_some, beq_iff_eq]
  by_cases hk : ka = kb
  · subst hk
    rw [if_pos (show ka = ka from rfl), if_neg (show ¬ ka ≠ ka by simp)]
    by_cases h10 : k = 10
    · subst h10; simp
    by_cases h11 : k = 11
    · subst h11; simp
    rw [if_neg h10, if_neg h10, if_neg h11, if_neg h11]
    rcases ha1 with rfl | ⟨rfl, hx⟩
    · rw [if_neg (show ¬ (1 : Int) = 2 by omega), if_pos (show (1 : Int) = 1 from rfl)]
      by_cases h6 : k = 6
      · subst h6
        by_cases hz : nb = 0
        · subst hz; rfl
        · simp [hz, rdiv_f na nb ha2 ha3 hb2 hb3 hz, rwhole_f]
      by_cases h7 : k = 7
      · subst h7
        by_cases hz : nb = 0
        · subst hz; rfl
        · simp [hz, rmod_f na nb ha2 ha3 hb2 hb3 hz, rwhole_f]
      by_cases h3 : k = 3
      · subst h3; simp
      by_cases h4 : k = 4
      · subst h4; simp
      by_cases h5 : k = 5
      · subst h5; simp
      by_cases h8 : k = 8
      · subst h8; simp
      by_cases h9 : k = 9
      · subst h9; simp
      simp [h3, h4, h5, h6, h7, h8, h9, encE]
    · have hy : nb = 0 ∨ nb = 1 := by omega
      rw [if_pos (show (2 : Int) = 2 from rfl), if_neg (show ¬ (2 : Int) = 1 by omega)]
      by_cases h12 : k = 12
      · subst h12
        rcases hx with rfl | rfl <;> rcases hy with rfl | rfl <;> simp [wrap64, truthV, encE]
      by_cases h13 : k = 13
      · subst h13
        rcases hx with rfl | rfl <;> rcases hy with rfl | rfl <;> simp [wrap64, truthV, encE]
      simp [h12, h13, encE]
  · rw [if_neg hk, if_pos hk]; rfl
theorem lookV_ok (typed : Bool) (vars : Int) (env : List Int) (he : ∀ x ∈ env, -9223372036854775808 ≤ x ∧ x ≤ 9223372036854775807) : ∀ v n, lookV typed vars env v = some n → -9223372036854775808 ≤ n ∧ n ≤ 9223372036854775807 := by
  intro v n h
  unfold lookV at h
  split at h
  · split at h
    · simp only [Option.some.injEq] at h; omega
    · cases h
  · split at h
    · simp only [Option.some.injEq] at h
      subst h
      unfold rd
      by_cases hv : v.toNat < env.length
      · rw [List.getD_eq_getElem?_getD, List.getElem?_eq_getElem hv]; exact he _ (List.getElem_mem hv)
      · rw [List.getD_eq_getElem?_getD, List.getElem?_eq_none (by omega)]; simp
    · cases h
theorem valE_ok (look : Int → Option Int) (typed : Bool) (hl : ∀ v n, look v = some n → -9223372036854775808 ≤ n ∧ n ≤ 9223372036854775807) (x : Tr) (hx : ∀ t ∈ x.flat, -9223372036854775808 ≤ t.f1 ∧ t.f1 ≤ 9223372036854775807) : EOk (valE look typed x) := by
  induction x with
  | leaf t => exact leafE_ok hl (hx t (by simp [Tr.flat]))
  | one t a ih =>
    have h1 := ih (fun t ht => hx t (by simp [Tr.flat, ht]))
    show EOk ((valE look typed a).bind (oneE t))
    cases h : valE look typed a with
    | error e => rw [h] at h1; exact h1
    | ok v => exact oneE_ok t v
  | two t a b ia ib =>
    have h1 := ia (fun t ht => hx t (by simp [Tr.flat, ht]))
    have h2 := ib (fun t ht => hx t (by simp [Tr.flat, ht]))
    show EOk ((valE look typed a).bind fun v => (valE look typed b).bind fun u => twoE typed t v u)
    cases h : valE look typed a with
    | error e => rw [h] at h1; exact h1
    | ok v =>
      rw [h] at h1
      cases h' : valE look typed b with
      | error e => rw [h'] at h2; exact h2
      | ok u => exact twoE_ok typed t h1
theorem end_ev (p : List T) (hl : p.length ≤ 1000000) (hw : ∀ t ∈ p, -9223372036854775808 ≤ t.f1 ∧ t.f1 ≤ 9223372036854775807) (env : List Int) (hen : env.length ≤ 1000000) (he : ∀ x ∈ env, -9223372036854775808 ≤ x ∧ x ≤ 9223372036854775807) (vars : Int) (typed : Bool) (x : Tr) :
    ∀ (pre suf : List T), x.wf → p = pre ++ x.flat ++ suf →
    Ev (fun k => PAll.spinetref04_End.f k p ((pre.length + x.flat.length : Nat) - 1 : Int) env vars typed) ((encE (valE (lookV typed vars env) typed x)).1, (encE (valE (lookV typed vars env) typed x)).2.1, (encE (valE (lookV typed vars env) typed x)).2.2, (pre.length : Int)) := by
  have at_ : ∀ (pre suf : List T) (t : T), p = pre ++ [t] ++ suf → pre.length < p.length ∧ PAll.rd_T91 p pre.length = t ∧ t ∈ p := by
    intro pre suf t h
    have hlt : pre.length < p.length := by rw [h]; simp
    refine ⟨hlt, ?_, by rw [h]; simp⟩
    simp [PAll.rd_T91, List.getD_eq_getElem?_getD, h]
  induction x with
  | leaf t =>
    intro pre suf h0 hp
    obtain ⟨hk, hn0, hn2⟩ := takes0 h0
    obtain ⟨hlt, hrd, hmem⟩ := at_ pre suf t hp
    have e1 : ((pre.length + (Tr.leaf t).flat.length : Nat) : Int) - 1 = (pre.length : Int) := by simp [Tr.flat]
    rw [e1]
    refine Ev.step (fun k => rfl) ?_
    simp only [PAll.spinetref04_End.f]
    rw [hrd]
    refine ev_pos (by omega) (ev_pos (by omega) ?_)
    show Ev _ ((encE (leafE (lookV typed vars env) t)).1, (encE (leafE (lookV typed vars env) t)).2.1, (encE (leafE (lookV typed vars env) t)).2.2, (pre.length : Int))
    rcases hk with h | h | h | h
    · refine ev_pos h ?_
      rw [leafE, if_pos h]
      exact Ev.now _
    · refine ev_neg (by omega) (ev_pos h ?_)
      have hlf : leafE (lookV typed vars env) t = match lookV typed vars env t.f1 with | some n => .ok (wholeV n) | none => .error 4 := by rw [leafE, if_neg (by omega), if_pos h]
      rw [hlf]
      clear hlf
      cases typed with
      | true =>
        refine ev_pos rfl (Ev.step (fun k => rfl) ?_)
        simp only [PAll.spinetref04_End.j0]
        by_cases hv : t.f1 < vars
        · have hlk : lookV true vars env t.f1 = some 0 := by unfold lookV; rw [if_pos rfl, if_pos hv]
          rw [hlk]
          exact ev_pos (decide_eq_true hv) (Ev.now _)
        · have hlk : lookV true vars env t.f1 = none := by unfold lookV; rw [if_pos rfl, if_neg hv]
          rw [hlk]
          exact ev_neg (by simp [hv]) (ev_pos trivial (Ev.now _))
      | false =>
        refine ev_neg (by simp) (Ev.step (fun k => rfl) ?_)
        simp only [PAll.spinetref04_End.j0]
        refine ev_neg (by simp) (ev_neg (by simp) ?_)
        by_cases hv : t.f1 < env.length
        · have hlk : lookV false vars env t.f1 = some (rd env t.f1) := by unfold lookV; rw [if_neg (by simp), if_pos hv]
          rw [hlk]
          exact ev_pos hv (ev_pos hn0 (Ev.now _))
        · have hlk : lookV false vars env t.f1 = none := by unfold lookV; rw [if_neg (by simp), if_neg hv]
          rw [hlk]
          exact ev_neg hv (Ev.now _)
    · have b15 : (t.f0 == 15) = true := by rw [h]; rfl
      refine ev_neg (by omega) (ev_neg (by omega) (ev_pos h (Ev.step (fun k => rfl) ?_)))
      simp only [PAll.spinetref04_End.j1]
      refine ev_pos b15 ?_
      rw [leafE, if_neg (by omega), if_neg (by omega), rtruth_f]
      exact Ev.now _
    · have b16 : (t.f0 == 16) = true := by rw [h]; rfl
      refine ev_neg (by omega) (ev_neg (by omega) (ev_neg (by omega) (Ev.step (fun k => rfl) ?_)))
      simp only [PAll.spinetref04_End.j1]
      refine ev_pos b16 ?_
      rw [leafE, if_neg (by omega), if_neg (by omega), rtruth_f]
      exact Ev.now _
  | one t a ih =>
    intro pre suf h0 hp
    obtain ⟨h1, ha⟩ : takes t = 1 ∧ a.wf := h0
    have hk := takes1 h1
    have hp1 : p = (pre ++ a.flat) ++ [t] ++ suf := by rw [hp]; simp [Tr.flat]
    have hp2 : p = pre ++ a.flat ++ ([t] ++ suf) := by rw [hp]; simp [Tr.flat]
    obtain ⟨hlt, hrd, hmem⟩ := at_ _ suf t hp1
    have hpos := Tr.len_pos a
    have e1 : ((pre.length + (Tr.one t a).flat.length : Nat) : Int) - 1 = ((pre ++ a.flat).length : Int) := by simp [Tr.flat]; omega
    have e2 : wrap64 (((pre ++ a.flat).length : Int) - 1) = ((pre.length + a.flat.length : Nat) : Int) - 1 := by rw [w64 (by omega) (by omega)]; simp
    have hi := ih pre ([t] ++ suf) ha hp2
    rw [e1]
    refine Ev.step (fun k => rfl) ?_
    simp only [PAll.spinetref04_End.f]
    rw [hrd]
    have b16 : (t.f0 == 16) = false := beq_eq_false_iff_ne.mpr (by omega)
    refine ev_pos (by omega) (ev_pos (by omega) (ev_neg (by omega) (ev_neg (by omega) (ev_neg (by omega) (Ev.step (fun k => rfl) ?_)))))
    simp only [PAll.spinetref04_End.j1]
    refine ev_neg (by rw [b16]; simp) ?_
    have hv : valE (lookV typed vars env) typed (.one t a) = (valE (lookV typed vars env) typed a).bind (oneE t) := rfl
    rw [hv]
    have hx : ∀ t' ∈ a.flat, -9223372036854775808 ≤ t'.f1 ∧ t'.f1 ≤ 9223372036854775807 := fun t' ht' => hw t' (by rw [hp2]; simp [ht'])
    have hok := valE_ok (lookV typed vars env) typed (lookV_ok typed vars env he) a hx
    have main : ∀ b : Bool, b = true → Ev (fun k => PAll.spinetref04_End.j2 k p ((pre ++ a.flat).length : Int) env vars typed b t.f0 t.f1 t.f2)
        ((encE ((valE (lookV typed vars env) typed a).bind (oneE t))).1, (encE ((valE (lookV typed vars env) typed a).bind (oneE t))).2.1, (encE ((valE (lookV typed vars env) typed a).bind (oneE t))).2.2, (pre.length : Int)) := by
      rintro b rfl
      refine Ev.step (fun k => rfl) ?_
      simp only [PAll.spinetref04_End.j2]
      refine ev_pos trivial ?_
      rw [e2]
      refine Ev.bind hi ?_
      cases hva : valE (lookV typed vars env) typed a with
      | error c =>
        rw [hva] at hok
        refine ev_neg (by show ¬ c = 0; rcases hok with h | h | h <;> omega) (Ev.now _)
      | ok v =>
        refine ev_pos rfl ?_
        show Ev _ ((encE (oneE t v)).1, (encE (oneE t v)).2.1, (encE (oneE t v)).2.2, (pre.length : Int))
        rcases hk with h | h
        · refine ev_pos h (Ev.step (fun k => rfl) ?_)
          simp only [PAll.spinetref04_End.j3]
          by_cases hv2 : v.1 = 2
          · refine ev_pos (by show (v.1 == 2) = true; rw [hv2]; rfl) ?_
            rw [oneE, if_neg (by omega), if_pos ⟨h, hv2⟩, rtruth_f]
            exact Ev.now _
          · refine ev_neg (by show ¬ (v.1 == 2) = true; simp [hv2]) (ev_neg (by omega) (Ev.step (fun k => rfl) ?_))
            rw [oneE, if_neg (by omega), if_neg (by simp [hv2])]
            simp only [PAll.spinetref04_End.j4]
            exact ev_neg (by simp) (Ev.now _)
        · refine ev_neg (by omega) (Ev.step (fun k => rfl) ?_)
          simp only [PAll.spinetref04_End.j3]
          refine ev_neg (by simp) (ev_pos h (Ev.step (fun k => rfl) ?_))
          simp only [PAll.spinetref04_End.j4]
          by_cases hv1 : v.1 = 1
          · refine ev_pos (by show (v.1 == 1) = true; rw [hv1]; rfl) ?_
            rw [oneE, if_pos ⟨h, hv1⟩]
            refine ev_bind (rsub_f _ _) ?_
            rw [show (0 : Int) - (encE (.ok v)).2.1 = -v.2 by simp [encE]]
            exact Ev.now _
          · refine ev_neg (by show ¬ (v.1 == 1) = true; simp [hv1]) ?_
            rw [oneE, if_neg (by simp [hv1]), if_neg (by omega)]
            exact Ev.now _
    rcases hk with h | h
    · exact ev_pos h (main _ (by rw [h]; rfl))
    · exact ev_neg (by omega) (main _ (by rw [h]; rfl))
  | two t a b ia ib =>
    intro pre suf h0 hp
    obtain ⟨h2, ha, hb⟩ : takes t = 2 ∧ a.wf ∧ b.wf := h0
    obtain ⟨hk3, hk13⟩ := takes2 h2
    have hp1 : p = (pre ++ a.flat ++ b.flat) ++ [t] ++ suf := by rw [hp]; simp [Tr.flat]
    have hpb : p = (pre ++ a.flat) ++ b.flat ++ ([t] ++ suf) := by rw [hp]; simp [Tr.flat]
    have hpa : p = pre ++ a.flat ++ (b.flat ++ [t] ++ suf) := by rw [hp]; simp [Tr.flat]
    obtain ⟨hlt, hrd, hmem⟩ := at_ _ suf t hp1
    have hposa := Tr.len_pos a
    have hposb := Tr.len_pos b
    have hab : (pre ++ a.flat).length = pre.length + a.flat.length := by simp
    have habb : (pre ++ a.flat ++ b.flat).length = pre.length + a.flat.length + b.flat.length := by simp; omega
    have e1 : ((pre.length + (Tr.two t a b).flat.length : Nat) : Int) - 1 = ((pre ++ a.flat ++ b.flat).length : Int) := by simp [Tr.flat]; omega
    have e2 : wrap64 (((pre ++ a.flat ++ b.flat).length : Int) - 1) = (((pre ++ a.flat).length + b.flat.length : Nat) : Int) - 1 := by rw [w64 (by omega) (by omega)]; omega
    have e3 : wrap64 (((pre ++ a.flat).length : Int) - 1) = ((pre.length + a.flat.length : Nat) : Int) - 1 := by rw [w64 (by omega) (by omega)]; omega
    have hib := ib (pre ++ a.flat) ([t] ++ suf) hb hpb
    have hia := ia pre (b.flat ++ [t] ++ suf) ha hpa
    rw [e1]
    refine Ev.step (fun k => rfl) ?_
    simp only [PAll.spinetref04_End.f]
    rw [hrd]
    have b16 : (t.f0 == 16) = false := beq_eq_false_iff_ne.mpr (by omega)
    have b14 : (t.f0 == 14) = false := beq_eq_false_iff_ne.mpr (by omega)
    have b19 : (t.f0 == 19) = false := beq_eq_false_iff_ne.mpr (by omega)
    refine ev_pos (by omega) (ev_pos (by omega) (ev_neg (by omega) (ev_neg (by omega) (ev_neg (by omega) (Ev.step (fun k => rfl) ?_)))))
    simp only [PAll.spinetref04_End.j1]
    refine ev_neg (by rw [b16]; simp) (ev_neg (by omega) (Ev.step (fun k => rfl) ?_))
    simp only [PAll.spinetref04_End.j2]
    refine ev_neg (by rw [b19]; simp) ?_
    have hv : valE (lookV typed vars env) typed (.two t a b) = (valE (lookV typed vars env) typed a).bind fun x => (valE (lookV typed vars env) typed b).bind fun y => twoE typed t x y := rfl
    rw [hv, e2]
    refine Ev.bind hib ?_
    simp only
    rw [e3]
    refine Ev.bind hia ?_
    simp only
    have hxa : ∀ t' ∈ a.flat, -9223372036854775808 ≤ t'.f1 ∧ t'.f1 ≤ 9223372036854775807 := fun t' ht' => hw t' (by rw [hpa]; simp [ht'])
    have hxb : ∀ t' ∈ b.flat, -9223372036854775808 ≤ t'.f1 ∧ t'.f1 ≤ 9223372036854775807 := fun t' ht' => hw t' (by rw [hpb]; simp [ht'])
    have hoka := valE_ok (lookV typed vars env) typed (lookV_ok typed vars env he) a hxa
    have hokb := valE_ok (lookV typed vars env) typed (lookV_ok typed vars env he) b hxb
    cases hva : valE (lookV typed vars env) typed a with
    | error c =>
      rw [hva] at hoka
      exact ev_neg (by show ¬ c = 0; rcases hoka with h | h | h <;> omega) (Ev.now _)
    | ok v =>
      rw [hva] at hoka
      refine ev_pos rfl ?_
      cases hvb : valE (lookV typed vars env) typed b with
      | error c =>
        rw [hvb] at hokb
        exact ev_neg (by show ¬ c = 0; rcases hokb with h | h | h <;> omega) (Ev.now _)
      | ok u =>
        rw [hvb] at hokb
        refine ev_pos rfl ?_
        show Ev _ ((encE (twoE typed t v u)).1, (encE (twoE typed t v u)).2.1, (encE (twoE typed t v u)).2.2, (pre.length : Int))
        refine Ev.bind (two_ev t.f0 hoka hokb) ?_
        have hbo := bothE_ok t.f0 (b := u) hoka
        unfold twoE
        cases hbe : bothE t.f0 v u with
        | ok r => exact ev_neg (by show ¬ (0 : Int) = 9; omega) (Ev.now _)
        | error c =>
          by_cases h9 : c = 9
          · subst h9
            refine ev_pos rfl ?_
            cases typed with
            | true => exact ev_pos rfl (Ev.now _)
            | false => exact ev_neg (by simp) (Ev.now _)
          · refine ev_neg h9 ?_
            rw [zeroE, if_neg (by simp [h9])]
            exact Ev.now _
end Go.Proofs.YtemoonhnncopoaaGreatDoor
end
section
set_option linter.unusedVariables false
set_option linter.unusedSimpArgs false
namespace Go.Proofs.YtemoonhnncopoaaGreatDoor
open Go.RowKit Go.Proofs.YtemoonhnncopoaaGreatDoorW.PrintWords
open PX (T V)
theorem laid2 {w w2 : World} {x y : Value} {t : TypeId} (hb : Below (w.alloc (.cells #[x, y] t)).heap.size (w.alloc (.cells #[x, y] t)) w2) :
    w2.heap[w.heap.size]? = some (.cells #[x, y] t (0, 0)) ∧ w2.cell? ⟨w.heap.size, 0, none⟩ = some x ∧ w2.cell? ⟨w.heap.size, 1, none⟩ = some y ∧
      w2.frozen? ⟨w.heap.size, 0, none⟩ = false ∧ w2.frozen? ⟨w.heap.size, 1, none⟩ = false ∧ w.heap.size < w2.heap.size ∧ Below w.heap.size w w2 := by
  have h := (hb.block w.heap.size (by simp)).trans (blk_new _ _)
  have hz := hb.size
  simp at hz
  exact ⟨h, blk_cell h 0, blk_cell h 1, blk_free h 0, blk_free h 1, by omega, ((Below.refl _ _).alloc (Nat.le_refl _) _).trans (hb.mono (by simp))⟩
theorem below_set2 {B g : Nat} {w W : World} (h : Below B w W) (hB : B ≤ g) (a b : Value) : Below B w ((W.setCell ⟨g, 0, none⟩ a).setCell ⟨g, 1, none⟩ b) :=
  (h.setCell hB _).setCell hB _
theorem blk_set2 {w : World} {g : Nat} {x y : Value} {t : TypeId} {fr : Nat × Nat} (h : w.heap[g]? = some (.cells #[x, y] t fr)) (a b : Value) : ((w.setCell ⟨g, 0, none⟩ a).setCell ⟨g, 1, none⟩ b).heap[g]? = some (.cells #[a, b] t fr) :=
  blk_set (blk_set h 0 a) 1 b
def agV (v : V) : Value := .agg #[.int .i64 v.1, .int .i64 v.2]
def retE (e : Except Int V) : Value := match e with | .ok v => .tuple #[agV v, .nilIface] | .error c => .tuple #[agV (0, 0), .iface 93 (.int .i64 c)]
theorem whole_any (n : Int) (w : World) : Calls Tryz.prog 112 #[.int .i64 n] w fun e w' => e = .returned (agV (wholeV n)) ∧ Below w.heap.size w w' :=
  PAll.expr_whole.calls n 1 n w rfl
theorem truth_any (b : Bool) (w : World) : Calls Tryz.prog 143 #[.bool b] w fun e w' => e = .returned (agV (truthV b)) ∧ Below w.heap.size w w' :=
  (PAll.expr_truth.calls b 2 (if b then 1 else 0) w (by cases b <;> rfl))
theorem alone_f (k : Int) (a : V) : PAll.expr_alone.f 3 k a.1 a.2 = some (match oneE ⟨k, 0, 0⟩ a with | .ok v => (v.1, v.2, none) | .error c => (0, 0, some c)) := by
  simp only [PAll.expr_alone.f, PAll.expr_alone.j0, PAll.num_Neg.f, PAll.expr_whole.f, PAll.expr_truth.f, oneE, Option.bind_some, beq_iff_eq]
  by_cases h19 : k = 19
  · subst h19
    by_cases h1 : a.1 = 1
    · simp [h1, wholeV]
    · simp [h1]
  · by_cases h14 : k = 14
    · subst h14
      by_cases h2 : a.1 = 2
      · by_cases h0 : a.2 = 0
        · simp [h2, h0, truthV]
        · simp [h2, h0, truthV]
      · simp [h2]
    · simp [h19, h14]
theorem oneE_kind (t : T) (a : V) : oneE t a = oneE ⟨t.f0, 0, 0⟩ a := rfl
theorem alone_any (k : Int) (a : V) (w : World) : Calls Tryz.prog 110 #[.int .i64 k, agV a] w fun e w' => e = .returned (retE (oneE ⟨k, 0, 0⟩ a)) ∧ Below w.heap.size w w' := by
  have h := alone_f k a
  cases hx : oneE ⟨k, 0, 0⟩ a with
  | ok v => rw [hx] at h; exact PAll.expr_alone.calls 3 k a.1 a.2 _ _ _ w h
  | error c => rw [hx] at h; exact PAll.expr_alone.calls 3 k a.1 a.2 _ _ _ w h
theorem run_add (args : Array Value) (w : World) : (callFunc 166 args).run Tryz.prog w = .ok (.enter 166 args) w := by
  simp [callFunc, Tryz.func166]; rfl
theorem run_sub (args : Array Value) (w : World) : (callFunc 167 args).run Tryz.prog w = .ok (.enter 167 args) w := by
  simp [callFunc, Tryz.func167]; rfl
theorem run_mul (args : Array Value) (w : World) : (callFunc 168 args).run Tryz.prog w = .ok (.enter 168 args) w := by
  simp [callFunc, Tryz.func168]; rfl
theorem run_div (args : Array Value) (w : World) : (callFunc 169 args).run Tryz.prog w = .ok (.enter 169 args) w := by
  simp [callFunc, Tryz.func169]; rfl
theorem run_mod (args : Array Value) (w : World) : (callFunc 170 args).run Tryz.prog w = .ok (.enter 170 args) w := by
  simp [callFunc, Tryz.func170]; rfl
set_option maxHeartbeats 4000000 in
set_option maxRecDepth 100000 in
theorem plain_any (f : FuncId) (hrun : ∀ (args : Array Value) (w : World), (callFunc f args).run Tryz.prog w = .ok (.enter f args) w) (a b r : Int) (hf : ∀ w, Calls Tryz.prog f #[.int .i64 a, .int .i64 b] w fun e w' => e = .returned (.int .i64 r) ∧ Below w.heap.size w w')
    (ga gb : Nat) (w : World) (ha : w.cell? ⟨ga, 0, none⟩ = some (.int .i64 a)) (hb : w.cell? ⟨gb, 0, none⟩ = some (.int .i64 b)) :
    Calls Tryz.prog 164 #[.func (.func f) #[] #[], .pointer (some ⟨ga, 0, none⟩), .pointer (some ⟨gb, 0, none⟩)] w fun e w' => e = .returned (retE (.ok (wholeV r))) ∧ Below w.heap.size w w' := by
  have HF := Lib.hid hf
  clear hf
  have a' := (((Below.refl w.heap.size w).alloc (Nat.le_refl _) (.cells #[.int .i64 0, .int .i64 0] 35)).cell (p := ⟨ga, 0, none⟩) (World.block_lt_of_cell? w _ ha)).trans ha
  have b' := (((Below.refl w.heap.size w).alloc (Nat.le_refl _) (.cells #[.int .i64 0, .int .i64 0] 35)).cell (p := ⟨gb, 0, none⟩) (World.block_lt_of_cell? w _ hb)).trans hb
  go_enter Tryz.func164, Tryz.ntmps164
  go_wp2_with fail
  refine (HF.out _).mono ?_
  rintro e w1 ⟨rfl, hb1⟩
  go_wp2_with fail
  refine (whole_any _ _).mono ?_
  rintro e w2 ⟨rfl, hb2⟩
  obtain ⟨hk, c0, c1, f0, f1, hlt, hbw⟩ := laid2 (hb1.trans (hb2.mono hb1.size))
  have HK := Lib.hid hk
  clear hk hb1 hb2 a' b'
  simp only [agV, wholeV]
  go_wp2_with fail
  refine bodyPost_ret (results_ct rfl _ _ w.heap.size 35 #[.int .i64 _, .int .i64 _] (0, 0) _ rfl (blk_set2 HK.out _ _) Tryz.underlying35 rfl (by kernel_rfl)) rfl ?_
  exact ⟨rfl, below_set2 hbw (Nat.le_refl _) _ _⟩
def optE (r : Int) (c : Option Int) : Except Int V := match c with | none => .ok (wholeV r) | some x => .error x
def errOf (e : Option Int) : Value := match e with | none => .nilIface | some c => .iface 93 (.int .i64 c)
theorem run_plain (args : Array Value) (w : World) : (callFunc 164 args).run Tryz.prog w = .ok (.enter 164 args) w := by
  simp [callFunc, Tryz.func164]; rfl
theorem run_part (args : Array Value) (w : World) : (callFunc 165 args).run Tryz.prog w = .ok (.enter 165 args) w := by
  simp [callFunc, Tryz.func165]; rfl
set_option maxHeartbeats 4000000 in
set_option maxRecDepth 100000 in
theorem part_any (f : FuncId) (hrun : ∀ (args : Array Value) (w : World), (callFunc f args).run Tryz.prog w = .ok (.enter f args) w) (a b r : Int) (c : Option Int) (hf : ∀ w, Calls Tryz.prog f #[.int .i64 a, .int .i64 b] w fun e w' => e = .returned (.tuple #[.int .i64 r, errOf c]) ∧ Below w.heap.size w w')
    (ga gb : Nat) (w : World) (ha : w.cell? ⟨ga, 0, none⟩ = some (.int .i64 a)) (hb : w.cell? ⟨gb, 0, none⟩ = some (.int .i64 b)) :
    Calls Tryz.prog 165 #[.func (.func f) #[] #[], .pointer (some ⟨ga, 0, none⟩), .pointer (some ⟨gb, 0, none⟩)] w fun e w' => e = .returned (retE (optE r c)) ∧ Below w.heap.size w w' := by
  have HF := Lib.hid hf
  clear hf
  have a' := (((Below.refl w.heap.size w).alloc (Nat.le_refl _) (.cells #[.int .i64 0, .int .i64 0] 35)).cell (p := ⟨ga, 0, none⟩) (World.block_lt_of_cell? w _ ha)).trans ha
  have b' := (((Below.refl w.heap.size w).alloc (Nat.le_refl _) (.cells #[.int .i64 0, .int .i64 0] 35)).cell (p := ⟨gb, 0, none⟩) (World.block_lt_of_cell? w _ hb)).trans hb
  cases c with
  | none =>
    go_enter Tryz.func165, Tryz.ntmps165
    go_wp2_with fail
    refine (HF.out _).mono ?_
    rintro e w1 ⟨rfl, hb1⟩
    simp only [errOf]
    go_wp2_with fail
    refine (whole_any _ _).mono ?_
    rintro e w2 ⟨rfl, hb2⟩
    obtain ⟨hk, c0, c1, f0, f1, hlt, hbw⟩ := laid2 (hb1.trans (hb2.mono hb1.size))
    have HK := Lib.hid hk
    clear hk hb1 hb2 a' b'
    simp only [agV, wholeV]
    go_wp2_with fail
    refine bodyPost_ret (results_ct rfl _ _ w.heap.size 35 #[.int .i64 _, .int .i64 _] (0, 0) _ rfl (blk_set2 HK.out _ _) Tryz.underlying35 rfl (by kernel_rfl)) rfl ?_
    exact ⟨rfl, below_set2 hbw (Nat.le_refl _) _ _⟩
  | some x =>
    go_enter Tryz.func165, Tryz.ntmps165
    go_wp2_with fail
    refine (HF.out _).mono ?_
    rintro e w1 ⟨rfl, hb1⟩
    simp only [errOf]
    obtain ⟨hk, c0, c1, f0, f1, hlt, hbw⟩ := laid2 hb1
    have HK := Lib.hid hk
    clear hk hb1 a' b'
    go_wp2_with fail
    refine bodyPost_ret (results_ct rfl _ _ w.heap.size 35 #[.int .i64 _, .int .i64 _] (0, 0) _ rfl (blk_set2 HK.out _ _) Tryz.underlying35 rfl (by kernel_rfl)) rfl ?_
    exact ⟨rfl, below_set2 hbw (Nat.le_refl _) _ _⟩
theorem laid112 {w w2 : World} {x y : Value} {t t' : TypeId} {z : Value} {z' : Value}
    (hb : Below (((w.alloc (.cells #[x] t)).alloc (.cells #[y] t)).alloc (.cells #[z, z'] t')).heap.size (((w.alloc (.cells #[x] t)).alloc (.cells #[y] t)).alloc (.cells #[z, z'] t')) w2) :
    w2.heap[w.heap.size + 1 + 1]? = some (.cells #[z, z'] t' (0, 0)) ∧ w2.cell? ⟨w.heap.size, 0, none⟩ = some x ∧ w2.cell? ⟨w.heap.size + 1, 0, none⟩ = some y ∧ w2.cell? ⟨w.heap.size + 1 + 1, 0, none⟩ = some z ∧ w2.cell? ⟨w.heap.size + 1 + 1, 1, none⟩ = some z' ∧
      w2.frozen? ⟨w.heap.size + 1 + 1, 0, none⟩ = false ∧ w2.frozen? ⟨w.heap.size + 1 + 1, 1, none⟩ = false ∧ w.heap.size + 1 + 1 < w2.heap.size ∧ Below w.heap.size w w2 := by
  have hz := hb.size
  simp at hz
  have e1 : (w.alloc (.cells #[x] t)).heap.size = w.heap.size + 1 := by simp
  have e2 : ((w.alloc (.cells #[x] t)).alloc (.cells #[y] t)).heap.size = w.heap.size + 1 + 1 := by simp
  have h2 := (hb.block (w.heap.size + 1 + 1) (by simp)).trans (e2 ▸ blk_new ((w.alloc (.cells #[x] t)).alloc (.cells #[y] t)) (.cells #[z, z'] t'))
  have h1 := (hb.block (w.heap.size + 1) (by simp)).trans (blk_alloc _ (e1 ▸ blk_new (w.alloc (.cells #[x] t)) (.cells #[y] t)))
  have h0 := (hb.block w.heap.size (by simp; omega)).trans (blk_alloc _ (blk_alloc _ (blk_new w (.cells #[x] t))))
  exact ⟨h2, blk_cell h0 0, blk_cell h1 0, blk_cell h2 0, blk_cell h2 1, blk_free h2 0, blk_free h2 1, by omega, ((((Below.refl _ _).alloc (Nat.le_refl _) _).alloc (by simp) _).alloc (by simp; omega) _).trans (hb.mono (by simp; omega))⟩
set_option maxHeartbeats 8000000 in
set_option maxRecDepth 100000 in
theorem numbers_any (k a b : Int) (w : World) : Calls Tryz.prog 145 #[.int .i64 k, .int .i64 a, .int .i64 b] w fun e w' => e = .returned (retE (numE k a b)) ∧ Below w.heap.size w w' := by
  have hmf : ∀ (fn : Fn) (first cap : Array Value) (w : World), (Instr.makeFunc fn first cap).run Tryz.prog w = .ok (.func fn first cap) w := fun _ _ _ _ => rfl
  have r1 := run_plain
  have r2 := run_part
  obtain ⟨_, a0, b0, _, _, _, _, _, _⟩ := laid112 (Below.refl (((w.alloc (.cells #[.int .i64 a] 2)).alloc (.cells #[.int .i64 b] 2)).alloc (.cells #[.int .i64 0, .int .i64 0] 35)).heap.size (((w.alloc (.cells #[.int .i64 a] 2)).alloc (.cells #[.int .i64 b] 2)).alloc (.cells #[.int .i64 0, .int .i64 0] 35)))
  by_cases h3 : k = 3
  · subst h3
    go_enter Tryz.func145, Tryz.ntmps145
    go_wp2_with fail
    refine (plain_any 166 run_add a b (wrap64 (a + b)) (fun w => (PAll.num_Add.calls a b _ w rfl).mono fun e w' ⟨h, hd⟩ => ⟨h, hd.below⟩) _ _ _ a0 b0).mono ?_
    rintro e w1 ⟨rfl, hb1⟩
    obtain ⟨hk, c0, c1, d0, d1, f0, f1, hlt, hbw⟩ := laid112 hb1
    have HK := Lib.hid hk
    clear hk hb1 a0 b0
    simp only [retE, agV, wholeV]
    go_wp2_with fail
    refine bodyPost_ret (results_ct rfl _ _ (w.heap.size + 1 + 1) 35 #[.int .i64 _, .int .i64 _] (0, 0) _ rfl (blk_set2 HK.out _ _) Tryz.underlying35 rfl (by kernel_rfl)) rfl ?_
    exact ⟨by rw [numE, if_pos rfl]; rfl, below_set2 hbw (by omega) _ _⟩
  by_cases h4 : k = 4
  · subst h4
    go_enter Tryz.func145, Tryz.ntmps145
    go_wp2_with fail
    refine (plain_any 167 run_sub a b (wrap64 (a - b)) (fun w => (PAll.num_Sub.calls a b _ w rfl).mono fun e w' ⟨h, hd⟩ => ⟨h, hd.below⟩) _ _ _ a0 b0).mono ?_
    rintro e w1 ⟨rfl, hb1⟩
    obtain ⟨hk, c0, c1, d0, d1, f0, f1, hlt, hbw⟩ := laid112 hb1
    have HK := Lib.hid hk
    clear hk hb1 a0 b0
    simp only [retE, agV, wholeV]
    go_wp2_with fail
    refine bodyPost_ret (results_ct rfl _ _ (w.heap.size + 1 + 1) 35 #[.int .i64 _, .int .i64 _] (0, 0) _ rfl (blk_set2 HK.out _ _) Tryz.underlying35 rfl (by kernel_rfl)) rfl ?_
    exact ⟨rfl, below_set2 hbw (by omega) _ _⟩
  by_cases h5 : k = 5
  · subst h5
    go_enter Tryz.func145, Tryz.ntmps145
    go_wp2_with fail
    refine (plain_any 168 run_mul a b (wrap64 (a * b)) (fun w => (PAll.num_Mul.calls a b _ w rfl).mono fun e w' ⟨h, hd⟩ => ⟨h, hd.below⟩) _ _ _ a0 b0).mono ?_
    rintro e w1 ⟨rfl, hb1⟩
    obtain ⟨hk, c0, c1, d0, d1, f0, f1, hlt, hbw⟩ := laid112 hb1
    have HK := Lib.hid hk
    clear hk hb1 a0 b0
    simp only [retE, agV, wholeV]
    go_wp2_with fail
    refine bodyPost_ret (results_ct rfl _ _ (w.heap.size + 1 + 1) 35 #[.int .i64 _, .int .i64 _] (0, 0) _ rfl (blk_set2 HK.out _ _) Tryz.underlying35 rfl (by kernel_rfl)) rfl ?_
    exact ⟨rfl, below_set2 hbw (by omega) _ _⟩
  by_cases h6 : k = 6
  · subst h6
    by_cases hz : b = 0
    · subst hz
      go_enter Tryz.func145, Tryz.ntmps145
      go_wp2_with fail
      refine (part_any 169 run_div a 0 (0) (some 9) (fun w => (PAll.num_Div.calls a 0 0 (some 9) w rfl).mono fun e w' ⟨h, hd⟩ => ⟨h, hd.below⟩) _ _ _ a0 b0).mono ?_
      rintro e w1 ⟨rfl, hb1⟩
      obtain ⟨hk, c0, c1, d0, d1, f0, f1, hlt, hbw⟩ := laid112 hb1
      have HK := Lib.hid hk
      clear hk hb1 a0 b0
      simp only [optE, retE, agV, wholeV]
      go_wp2_with fail
      refine bodyPost_ret (results_ct rfl _ _ (w.heap.size + 1 + 1) 35 #[.int .i64 _, .int .i64 _] (0, 0) _ rfl (blk_set2 HK.out _ _) Tryz.underlying35 rfl (by kernel_rfl)) rfl ?_
      exact ⟨rfl, below_set2 hbw (by omega) _ _⟩
    · have hN : numE 6 a b = .ok (wholeV (wrap64 (a.tdiv b))) := by simp [numE, hz]
      rw [hN]
      clear hN
      go_enter Tryz.func145, Tryz.ntmps145
      go_wp2_with fail
      refine (part_any 169 run_div a b (wrap64 (a.tdiv b)) (none) (fun w => (PAll.num_Div.calls a b (wrap64 (a.tdiv b)) none w (by unfold PAll.num_Div.f; rw [if_neg hz])).mono fun e w' ⟨h, hd⟩ => ⟨h, hd.below⟩) _ _ _ a0 b0).mono ?_
      rintro e w1 ⟨rfl, hb1⟩
      obtain ⟨hk, c0, c1, d0, d1, f0, f1, hlt, hbw⟩ := laid112 hb1
      have HK := Lib.hid hk
      clear hk hb1 a0 b0
      simp only [optE, retE, agV, wholeV]
      go_wp2_with fail
      refine bodyPost_ret (results_ct rfl _ _ (w.heap.size + 1 + 1) 35 #[.int .i64 _, .int .i64 _] (0, 0) _ rfl (blk_set2 HK.out _ _) Tryz.underlying35 rfl (by kernel_rfl)) rfl ?_
      exact ⟨rfl, below_set2 hbw (by omega) _ _⟩
  by_cases h7 : k = 7
  · subst h7
    by_cases hz : b = 0
    · subst hz
      go_enter Tryz.func145, Tryz.ntmps145
      go_wp2_with fail
      refine (part_any 170 run_mod a 0 (0) (some 9) (fun w => (PAll.num_Mod.calls a 0 0 (some 9) w rfl).mono fun e w' ⟨h, hd⟩ => ⟨h, hd.below⟩) _ _ _ a0 b0).mono ?_
      rintro e w1 ⟨rfl, hb1⟩
      obtain ⟨hk, c0, c1, d0, d1, f0, f1, hlt, hbw⟩ := laid112 hb1
      have HK := Lib.hid hk
      clear hk hb1 a0 b0
      simp only [optE, retE, agV, wholeV]
      go_wp2_with fail
      refine bodyPost_ret (results_ct rfl _ _ (w.heap.size + 1 + 1) 35 #[.int .i64 _, .int .i64 _] (0, 0) _ rfl (blk_set2 HK.out _ _) Tryz.underlying35 rfl (by kernel_rfl)) rfl ?_
      exact ⟨rfl, below_set2 hbw (by omega) _ _⟩
    · have hN : numE 7 a b = .ok (wholeV (a.tmod b)) := by simp [numE, hz]
      rw [hN]
      clear hN
      go_enter Tryz.func145, Tryz.ntmps145
      go_wp2_with fail
      refine (part_any 170 run_mod a b (a.tmod b) (none) (fun w => (PAll.num_Mod.calls a b (a.tmod b) none w (by unfold PAll.num_Mod.f; rw [if_neg hz])).mono fun e w' ⟨h, hd⟩ => ⟨h, hd.below⟩) _ _ _ a0 b0).mono ?_
      rintro e w1 ⟨rfl, hb1⟩
      obtain ⟨hk, c0, c1, d0, d1, f0, f1, hlt, hbw⟩ := laid112 hb1
      have HK := Lib.hid hk
      clear hk hb1 a0 b0
      simp only [optE, retE, agV, wholeV]
      go_wp2_with fail
      refine bodyPost_ret (results_ct rfl _ _ (w.heap.size + 1 + 1) 35 #[.int .i64 _, .int .i64 _] (0, 0) _ rfl (blk_set2 HK.out _ _) Tryz.underlying35 rfl (by kernel_rfl)) rfl ?_
      exact ⟨rfl, below_set2 hbw (by omega) _ _⟩
  by_cases h8 : k = 8
  · subst h8
    have hN : numE 8 a b = .ok (truthV (decide (a < b))) := rfl
    rw [hN]
    clear hN
    go_enter Tryz.func145, Tryz.ntmps145
    go_wp2_with fail
    refine (truth_any _ _).mono ?_
    rintro e w1 ⟨rfl, hb1⟩
    obtain ⟨hk, c0, c1, d0, d1, f0, f1, hlt, hbw⟩ := laid112 hb1
    have HK := Lib.hid hk
    clear hk hb1 a0 b0
    simp only [agV]
    go_wp2_with fail
    refine bodyPost_ret (results_ct rfl _ _ (w.heap.size + 1 + 1) 35 #[.int .i64 _, .int .i64 _] (0, 0) _ rfl (blk_set2 HK.out _ _) Tryz.underlying35 rfl (by kernel_rfl)) rfl ?_
    exact ⟨rfl, below_set2 hbw (by omega) _ _⟩
  by_cases h9 : k = 9
  · subst h9
    have hN : numE 9 a b = .ok (truthV (decide (a ≤ b))) := rfl
    rw [hN]
    clear hN
    go_enter Tryz.func145, Tryz.ntmps145
    go_wp2_with fail
    refine (truth_any _ _).mono ?_
    rintro e w1 ⟨rfl, hb1⟩
    obtain ⟨hk, c0, c1, d0, d1, f0, f1, hlt, hbw⟩ := laid112 hb1
    have HK := Lib.hid hk
    clear hk hb1 a0 b0
    simp only [agV]
    go_wp2_with fail
    refine bodyPost_ret (results_ct rfl _ _ (w.heap.size + 1 + 1) 35 #[.int .i64 _, .int .i64 _] (0, 0) _ rfl (blk_set2 HK.out _ _) Tryz.underlying35 rfl (by kernel_rfl)) rfl ?_
    exact ⟨rfl, below_set2 hbw (by omega) _ _⟩
  have hN : numE k a b = .error 8 := by simp [numE, h3, h4, h5, h6, h7, h8, h9]
  rw [hN]
  have n3 : (k == 3) = false := beq_eq_false_iff_ne.mpr h3
  have n4 : (k == 4) = false := beq_eq_false_iff_ne.mpr h4
  have n5 : (k == 5) = false := beq_eq_false_iff_ne.mpr h5
  have n6 : (k == 6) = false := beq_eq_false_iff_ne.mpr h6
  have n7 : (k == 7) = false := beq_eq_false_iff_ne.mpr h7
  have n8 : (k == 8) = false := beq_eq_false_iff_ne.mpr h8
  have n9 : (k == 9) = false := beq_eq_false_iff_ne.mpr h9
  clear hN h3 h4 h5 h6 h7 h8 h9
  obtain ⟨hk, c0, c1, d0, d1, f0, f1, hlt, hbw⟩ := laid112 (Below.refl (((w.alloc (.cells #[.int .i64 a] 2)).alloc (.cells #[.int .i64 b] 2)).alloc (.cells #[.int .i64 0, .int .i64 0] 35)).heap.size (((w.alloc (.cells #[.int .i64 a] 2)).alloc (.cells #[.int .i64 b] 2)).alloc (.cells #[.int .i64 0, .int .i64 0] 35)))
  have HK := Lib.hid hk
  clear hk
  go_enter Tryz.func145, Tryz.ntmps145
  go_wp2_with fail
  refine bodyPost_ret (results_ct rfl _ _ (w.heap.size + 1 + 1) 35 #[.int .i64 _, .int .i64 _] (0, 0) _ rfl HK.out Tryz.underlying35 rfl (by kernel_rfl)) rfl ?_
  exact ⟨rfl, hbw⟩
end Go.Proofs.YtemoonhnncopoaaGreatDoor
end
section
namespace Go.Proofs.YtemoonhnncopoaaGreatDoor
open Go.RowKit
section
variable {P : Program} {ops : Array Oper} {md : Region.Mode} {C : World → Prop}
def anyHead (P : Program) (md : Region.Mode) (ops : Array Oper) (C : World → Prop) (n : Nat) (L : Array Bool → Act → Prop) : Nat → Array Bool → Act → Prop
  | 0, listed, a => L listed a
  | f + 1, listed, a => Region.ready md ops listed ≠ [] ∧ ∀ i ∈ Region.ready md ops listed, i < n ∧ qOp P ops C i (anyHead P md ops C n L f (listed.setIfInBounds i true)) a
theorem any_of_head {n g : Nat} {L : Array Bool → Act → Prop} {Q' : Exit → Act → World → Prop} (hL : ∀ listed a w, C w → L listed a → wpAny P md ops Q' g listed a w) :
    ∀ (f : Nat) (listed : Array Bool) (a : Act) (w : World), C w → anyHead P md ops C n L f listed a → wpAny P md ops Q' (f + g) listed a w
  | 0, _, _, _, hw, h => by rw [Nat.zero_add]; exact hL _ _ _ hw h
  | f + 1, _, _, _, hw, h => by
    rw [show f + 1 + g = (f + g) + 1 by omega]
    exact ⟨fun h0 => absurd h0 h.1, fun i hi => wpOp_of_qOp hw (fun a' w' hw' h' => any_of_head hL f _ a' w' hw' h') (h.2 i hi).2⟩
theorem head_first {n i : Nat} {oi : Oper} {v : Value} {L : Array Bool → Act → Prop} (hi : ops[i]? = some oi) (hsel : ∀ (j : Nat) (o : Oper) cs b, ops[j]? = some o → o.op ≠ .select cs b)
    (hs : Region.sinkB md ops n = true) (hc : Region.chainB md ops n = true) (hn : n < ops.size) (hin : i < n)
    (hdone : ∀ listed a, L listed a → ∀ j ∈ Region.ready md ops listed, n ≤ j) (f : Nat) :
    ∀ (listed : Array Bool) (a : Act), HeadInv md ops n listed →
      (∀ j oj, ops[j]? = some oj → j ≠ i → listed.getD j true = false → (∀ e ∈ oj.after, Region.binds md e = true → e.on ≠ i) → oi.apart ops oj = true) →
      i ∈ Region.ready md ops listed → YieldsIn P ops C oi v a →
      anyHead P md ops C n L f (listed.setIfInBounds i true) (a.put oi.dst v) → anyHead P md ops C n L (f + 1) listed a := by
  have low : ∀ (listed : Array Bool), HeadInv md ops n listed → i ∈ Region.ready md ops listed → ∀ j ∈ Region.ready md ops listed, j < n := by
    intro listed inv hr j hj
    have hun := (mem_ready.1 hr).1
    rcases Nat.lt_or_ge j n with h | h
    · exact h
    · exact absurd hj (tail_waits hs hc hn inv _ i rfl hin hun j h)
  have some_ : ∀ (listed : Array Bool), i ∈ Region.ready md ops listed → Region.ready md ops listed ≠ [] := fun listed hr h => by rw [h] at hr; cases hr
  induction f with
  | zero =>
    intro listed a inv _ hr hy H
    refine ⟨some_ listed hr, fun j hj => ⟨low listed inv hr j hj, ?_⟩⟩
    by_cases hji : j = i
    · rw [hji]; exact hy.qOp hi H
    · have := hdone _ _ H j (ready_mono hj hji)
      have := low listed inv hr j hj
      omega
  | succ f ih =>
    intro listed a inv hfree hr hy H
    refine ⟨some_ listed hr, fun j hj => ⟨low listed inv hr j hj, ?_⟩⟩
    by_cases hji : j = i
    · rw [hji]; exact hy.qOp hi H
    obtain ⟨hjun, oj, hoj, hall⟩ := mem_ready.1 hj
    have hun := (mem_ready.1 hr).1
    have h2 := qOp_put hoj (hfree j oj hoj hji hjun fun e he hb heq => by
      have h1 := hall e he hb
      rw [heq, getD_both hun] at h1
      cases h1) (fun cs b => hsel i oi cs b hi) (fun cs b => hsel j oj cs b hoj) hy (H.2 j (ready_mono hj hji)).2
    refine qOp_mono (fun a' h3 => ih (listed.setIfInBounds j true) a' (inv.set hj (low listed inv hr j hj)) (fun k ok hk hki hun' hno => hfree k ok hk hki ?_ hno) (ready_mono hr (Ne.symm hji)) h3.1 ?_) h2
    · by_cases hjk : j = k
      · exact hjk ▸ hjun
      · rwa [getD_set_ne true hjk] at hun'
    · rw [Array.setIfInBounds_comm _ _ hji]
      exact h3.2
theorem head_lex {n g : Nat} {Lq : Act → Prop} (hsel : Region.noSelect ops = true) (hs : Region.sinkB md ops n = true) (hc : Region.chainB md ops n = true) (hn : n < ops.size) :
    ∀ (l : List Oper) (k : Nat) (listed : Array Bool) (a : Act), (∀ j, j < l.length → l[j]? = ops[k + j]?) → k + l.length = n → HeadInv md ops n listed →
    Region.lexHead md ops g l.length k listed = true → wpQuiet P ops C Lq l a →
    anyHead P md ops C n (fun listed' a' => Region.seqB md ops g n listed' = true ∧ Lq a') l.length listed a
  | [], k, _, _, _, hk, _, hB, h => by
    obtain rfl : k = n := by simpa using hk
    exact ⟨by simpa [Region.lexHead] using hB, h⟩
  | o :: l, k, listed, a, hl, hk, inv, hB, h => by
    have h0 : ops[k]? = some o := by simpa using (hl 0 (by simp)).symm
    simp only [List.length_cons, Region.lexHead, Bool.and_eq_true] at hB hk
    have hkn : k < n := by omega
    have hr : k ∈ Region.ready md ops listed := by simpa using hB.1.1
    obtain ⟨v, hy, hK⟩ := yieldsIn_of_qOp (P := P) (C := C) (K := wpQuiet P ops C Lq l) h0 (by unfold qOp; simp only [h0]; exact h)
    refine head_first h0 (Region.noSelect_spec hsel) hs hc hn hkn (fun listed' a' hL => seqB_ready hL.1) l.length listed a inv (Region.free_spec h0 hB.1.2) hr hy ?_
    exact head_lex hsel hs hc hn l (k + 1) _ _ (fun j hj => by have := hl (j + 1) (by simp; omega); simpa [Nat.add_assoc, Nat.add_comm 1 j] using this) (by omega) (inv.set hr hkn) hB.2 hK
theorem region_quiet_tail {id : Nat} {Q : Exit → Act → World → Prop} {a : Act} {w : World} {l : List Oper} (n : Nat) (hm : P.follows .mixedOrders = true) (hB : Region.lexTailB .any l.toArray n = true)
    (h : wpQuiet P l.toArray (fun w' => ∃ n, w' = w.drewN n) (fun a' => ∀ w', (∃ n, w' = w.drewN n) → wpList P l.toArray Q (l.drop n) a' w') (l.take n) a) : (Code.region id l.toArray true).wp P Q a w := by
  simp only [Region.lexTailB, Bool.and_eq_true, decide_eq_true_eq] at hB
  obtain ⟨⟨⟨⟨hsel, hn⟩, hs⟩, hc⟩, hlex⟩ := hB
  have hn' : n < l.length := by simpa using hn
  have htl : (l.take n).length = n := by simp; omega
  have hdl : (l.drop n).length = l.toArray.size - n := by simp
  have inv0 : HeadInv .any l.toArray n (Array.replicate l.toArray.size false) :=
    ⟨by simp, fun j oj _ hl => (by rw [getD_replicate_false] at hl; cases hl), fun t _ ht => getD_in (by simpa using ht) (getD_replicate_false _ _)⟩
  have H := head_lex (P := P) (C := fun w' => ∃ n, w' = w.drewN n) (md := .any) (g := l.toArray.size - n) hsel hs hc hn (l.take n) 0 _ a (fun j hj => by
    have hj' : j < n := by rw [htl] at hj; exact hj
    simp [hj']) (by simpa using htl) inv0 (by rw [htl]; exact hlex) h
  refine wp_region_any hm ?_
  have := any_of_head (Q' := Q) (g := l.toArray.size - n) (fun listed a' w' hw' hL => by
    have := wpAny_of_seq (md := .any) (Q' := Q) (l.drop n) n listed a' w' (fun j => by simp [List.getElem?_drop]) (by rw [hdl]; exact hL.1) (hL.2 w' hw')
    rwa [hdl] at this) _ _ _ { w with drawn := w.drawn + 1 } ⟨1, rfl⟩ H
  rw [htl, show n + (l.toArray.size - n) = l.toArray.size by omega] at this
  exact this
end
end Go.Proofs.YtemoonhnncopoaaGreatDoor
end
