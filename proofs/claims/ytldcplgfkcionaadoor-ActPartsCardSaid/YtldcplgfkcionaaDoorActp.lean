/- Actions: what they do, how they lie in memory. -/
import Derived.Test.YtldcplgfkcionaaDoorExprof
set_option linter.unusedVariables false
set_option linter.unusedSimpArgs false
namespace Go.Proofs.YtldcplgfkcionaaDoor
open Go.RowKit Go.Proofs.YtldcplgfkcionaaDoorW.PrintWords
open PX (T V)
abbrev Ac := PAll.S105
abbrev Ou := PAll.S112
/-- What actions go on from: variables, what goes out, what is raised. -/
structure Ds where
  env : List Int
  out : List Ou
  inn : List Int
def Er.ok : Er → Bool
  | .none => true
  | _ => false
/-- The parse of a text. -/
noncomputable def parseT (s : ByteArray) : List T × Er := Classical.choose (parsed_ex s.data.toList)
theorem parseT_ok (s : ByteArray) : Parsed s.data.toList (parseT s) := Classical.choose_spec (parsed_ex s.data.toList)
/-- A text's number, and whether it has one. -/
noncomputable def valT (s : ByteArray) (env : List Int) : Int × Bool := ((ofR (parseT s) env).1.2, (ofR (parseT s) env).2.ok && (ofR (parseT s) env).1.1 == 1)
noncomputable def oneA (s : Ds) (a : Ac) : Ds × Bool :=
  if a.f0 = 2 then ({ s with inn := s.inn ++ [a.f1] }, true)
  else if a.f0 = 4 then ({ s with out := s.out ++ [⟨4, 0, 0, a.f1⟩] }, true)
  else if a.f0 = 1 ∨ a.f0 = 3 ∨ a.f0 = 5 then
    if (valT a.f3 s.env).2 then
      if a.f0 = 3 then ({ s with out := s.out ++ [⟨3, a.f1, a.f2, (valT a.f3 s.env).1⟩] }, true)
      else if a.f0 = 5 then ({ s with out := s.out ++ [⟨5, 0, 0, (valT a.f3 s.env).1⟩] }, true)
      else if a.f1 < 0 ∨ (s.env.length : Int) ≤ a.f1 then (s, false)
      else ({ s with env := s.env.set a.f1.toNat (valT a.f3 s.env).1 }, true)
    else (s, false)
  else (s, true)
noncomputable def doA : Ds → List Ac → Ds
  | s, [] => s
  | s, a :: l => if (oneA s a).2 then doA (oneA s a).1 l else { (oneA s a).1 with inn := (oneA s a).1.inn ++ [1001] }
/-- Rows of the call's own. -/
abbrev EnvR (w : World) (B : Nat) (v : Value) (l : List Int) : Prop := Kd.R (Kd.int .i64) 2 w B (fun _ => True) v l
abbrev OutR (w : World) (B : Nat) (v : Value) (l : List Ou) : Prop := Kd.R PAll.k112 112 w B (fun _ => True) v l
abbrev InnR (w : World) (B : Nat) (v : Value) (l : List Int) : Prop := Kd.R (Kd.int .i64) 3 w B (fun _ => True) v l
abbrev ActsC (w : World) (A : Option Addr) (n : Nat) (l : List Ac) : Prop := Kd.C PAll.k105 w A n l
/-- A doer at block g. -/
structure Doer (g B : Nat) (w : World) (s : Ds) (ve vo vi : Value) : Prop where
  blk : w.heap[g]? = some (.cells #[ve, vo, vi] 109 (0, 0))
  env : EnvR w B ve s.env
  out : OutR w B vo s.out
  inn : InnR w B vi s.inn
  lt : B ≤ g
  le : B ≤ w.heap.size
theorem Doer.below {g B : Nat} {w w' : World} {s : Ds} {ve vo vi : Value} (h : Doer g B w s ve vo vi) (hb : Below w.heap.size w w') : Doer g B w' s ve vo vi :=
  ⟨(hb.block g (lt_of_block h.blk)).trans h.blk, Kd.R_below h.env hb, Kd.R_below h.out hb, Kd.R_below h.inn hb, h.lt, Nat.le_trans h.le hb.size⟩
theorem Doer.cells {g B : Nat} {w : World} {s : Ds} {ve vo vi : Value} (h : Doer g B w s ve vo vi) : (w.cell? ⟨g, 0, none⟩ = some ve ∧ w.cell? ⟨g, 1, none⟩ = some vo ∧ w.cell? ⟨g, 2, none⟩ = some vi) ∧ w.frozen? ⟨g, 0, none⟩ = false ∧ w.frozen? ⟨g, 1, none⟩ = false ∧ w.frozen? ⟨g, 2, none⟩ = false :=
  ⟨⟨blk_cell h.blk 0, blk_cell h.blk 1, blk_cell h.blk 2⟩, blk_free h.blk 0, blk_free h.blk 1, blk_free h.blk 2⟩
theorem int_q {e q : Nat} {k : IntKind} (h : e ≠ q) : ∀ x, x ∈ e :: (Kd.int k).E → x ≠ q := by
  intro x hx
  rcases List.mem_cons.1 hx with rfl | hx
  · exact h
  · have hx' : x ∈ ([] : List Nat) := hx
    cases hx'
theorem out_q {q : Nat} (h : 112 ≠ q) : ∀ x, x ∈ 112 :: PAll.k112.E → x ≠ q := by
  intro x hx
  rcases List.mem_cons.1 hx with rfl | hx
  · exact h
  · have hx' : x ∈ ([] : List Nat) := hx
    cases hx'
/-- What an error value is. -/
theorem er_nil {B : Nat} {w : World} {v : Value} {e : Er} (h : ErV B w v e) (he : e = .none) : v = .nilIface := by subst he; exact h
theorem er_some {B : Nat} {w : World} {v : Value} {e : Er} (h : ErV B w v e) (he : e ≠ .none) : (∃ c, v = .iface 28 (.int .i64 c)) ∨ (∃ g, v = .iface 74 (.pointer (some ⟨g, 0, none⟩))) := by
  cases e with
  | none => exact absurd rfl he
  | code c => exact .inl ⟨c, h⟩
  | spot a c => obtain ⟨g, h1, _⟩ := h; exact .inr ⟨g, h1⟩
set_option maxHeartbeats 4000000 in
set_option maxRecDepth 100000 in
theorem value_any {g B : Nat} {w : World} {s : Ds} {ve vo vi : Value} (hw : Laid w) (h : Doer g B w s ve vo vi) (t : ByteArray) (ht : t.size ≤ 281474976710656) :
    Calls Tryd.prog 93 #[.pointer (some ⟨g, 0, none⟩), .string t] w fun e w' => e = .returned (.tuple #[.int .i64 (valT t s.env).1, .bool (valT t s.env).2]) ∧ Below w.heap.size w w' := by
  obtain ⟨⟨c0, _, _⟩, _⟩ := h.cells
  obtain ⟨E, cap, rfl⟩ := Kd.R_slice h.env
  obtain ⟨_, _, hE⟩ := Kd.R_reads' h.env
  have HE := Lib.hid hE
  have H := Lib.hid h
  clear h hE
  go_enter Tryd.func93, Tryd.ntmps93
  go_wp2_with fail
  refine (of_any t ht E cap s.env _ hw HE.out (parseT t) (parseT_ok t)).mono ?_
  rintro e w1 ⟨ev, rfl, hev, hb⟩
  have hval : valT t s.env = ((ofR (parseT t) s.env).1.2, (ofR (parseT t) s.env).2.ok && (ofR (parseT t) s.env).1.1 == 1) := rfl
  have HV := Lib.hid hval
  clear hval
  generalize ofR (parseT t) s.env = r at hev HV ⊢
  obtain ⟨⟨k, n⟩, er⟩ := r
  have hb' := hb.alloc hb.size (.cells #[.int .i64 k, .int .i64 n] 54)
  simp only [agV]
  by_cases he : er = .none
  · subst he
    obtain rfl : ev = .nilIface := hev
    by_cases hk : k = 1
    · subst hk
      go_wp2_with fail
      repeat (go_quiet (fail); try go_wp2)
      go_ret2
      exact ⟨by rw [HV.out]; rfl, below_drewN' hb' _⟩
    · have k1 : (k == 1) = false := by simp [hk]
      go_wp2_with fail
      repeat (go_quiet (fail); try go_wp2)
      go_ret2
      exact ⟨by rw [HV.out]; simp only [k1]; rfl, below_drewN' hb' _⟩
  · have hok : er.ok = false := by cases er <;> first | rfl | exact absurd rfl he
    rcases er_some hev he with ⟨c, rfl⟩ | ⟨c, rfl⟩
    all_goals
      go_wp2_with fail
      repeat (go_quiet (fail); try go_wp2)
      go_ret2
      exact ⟨by rw [HV.out]; simp only [hok]; rfl, below_drewN' hb' _⟩
end Go.Proofs.YtldcplgfkcionaaDoor
