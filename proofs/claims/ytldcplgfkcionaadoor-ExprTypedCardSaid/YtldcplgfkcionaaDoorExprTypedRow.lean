/- 'What has a type, with as many variables as there are, has a value of it, or is divided by 0; what has none has no value.' -/
import Derived.Test.YtldcplgfkcionaaDoorRows
import Derived.Test.YtldcplgfkcionaaDoorCards
import Derived.Test.YtldcplgfkcionaaDoorExprTypedLaw
import Derived.WalkKit
import Derived.ProofKit
import Derived.OpenShut
import Derived.ShutString
import Derived.ChangeOld
import Derived.ChangeVars
import Derived.Handed
import Derived.SizedLaws
import Derived.Below
import Derived.Test.YtldcplgfkcionaaDoorLaid5
import Derived.Test.YtldcplgfkcionaaDoorTie
import Derived.SevenTiedAt
namespace Go.Proofs.YtldcplgfkcionaaDoor.exprTyped
open Go.ChangeShapes Go.WideShapes Go.ChangeAt Go.RowKit
open Go.ChangeMaps (open_string shut_string)
set_option linter.unusedVariables false
theorem own : ownKnob Tryd.prog.godebug = none := by kernel_rfl
theorem laidOut : laidOutB Tryd.prog = true := by kernel_rfl
set_option maxRecDepth 100000 in
theorem lifted (os : Os) (started : os.Started) (H : Type) (enc : TypeId × Value → H) :
    ReturnsInHanded {} Tryd.checked os 10 .any (fun w args => (Rows.exprTypedSpec.pre enc Tryd.prog Tryd.f10 [] false w args ∧ laidMetH Tryd.prog Rows.exprTypedRow.laid w) ∧ sizedMet enc Tryd.prog Tryd.f10 (OpenSpec.ofChange Rows.exprTypedSpec) false w args)
      (Rows.exprTypedSpec.post enc Tryd.prog Tryd.f10 false true false false) := by
  refine returnsInHanded_of_change_and (C := Tryd.checked) (X := fun w _ => laidMetH Tryd.prog Rows.exprTypedRow.laid w) (fun _ _ _ hh h => h.of_heap hh) own started (by kernel_rfl) Tryd.func10
    (ChangeSpec.witness_at (enc := enc) (C := Tryd.checked) (os := os) (X := fun w _ => laidMetH Tryd.prog Rows.exprTypedRow.laid w) false (Door.laidWorld os) #[.slice none 0 0, .slice none 0 0] 8 rfl (by kernel_rfl) (by kernel_rfl) (by kernel_rfl) (by kernel_rfl) (by kernel_rfl) (Door.met5H os _)) ?_
  intro W base args ds gs before hval0 hW hcnd hsz0 hL _
  have hl := Door.laid_of5 hL
  have hval : ∀ (j : Nat) t v, Tryd.f10.params[j]? = some t → args[j]? = some v → Value.okWide Tryd.prog W .any base t v := hval0
  have hsz : (DataW.weightsEach Tryd.prog (Tryd.f10.params.toList ++ Rows.exprTypedSpec.plain.varTypes Tryd.prog) (ds ++ gs)).all (· ≤ reachBytes) = true := hsz0
  have hW' := hW
  obtain ⟨p, q, hA0, hV, rfl, hfz, hnd⟩ := hW
  have hA : DataW.TrodAll enc Tryd.prog W 0 (fun _ => true) true Tryd.f10.params.toList args.toList ds p := hA0
  rw [Tryd.params10] at hA hval hsz
  obtain ⟨v0, vs0, d0, ds0, p0, q0, hargs, rfl, rfl, h0, r0⟩ := trodAll_cons hA
  obtain ⟨v1, vs1, d1, ds1, p1, q1, rfl, rfl, rfl, h1, r1⟩ := trodAll_cons r0
  obtain ⟨rfl, rfl, rfl⟩ := trodAll_nil r1
  obtain rfl : args = #[v0, v1] := by cases args; simp_all
  obtain ⟨rfl, rfl⟩ := trodVars_none hV
  have k0 := h0
  have lt0 : ∀ x ∈ p0, x.block < W.heap.size := by obtain ⟨m, hm⟩ := k0; exact DataW.trod_lt m _ _ _ hm
  have k1 := h1
  have lt1 : ∀ x ∈ p1, x.block < W.heap.size := by obtain ⟨m, hm⟩ := k1; exact DataW.trod_lt m _ _ _ hm
  obtain ⟨A0, len0, cap0, rfl⟩ := okWide_slice Tryd.underlying23 (hval 0 23 v0 rfl rfl)
  obtain ⟨x0, hx0⟩ : ∃ x, Rep.ok _ (fun b => b < W.heap.size) W [.slice A0 len0 cap0] x := by
    obtain ⟨fuel, hf⟩ := k0
    obtain ⟨x, hx, _⟩ := (reads_slice Tryd.underlying23 (by kernel_rfl) RTok.reads (by decide)).2 enc W fuel _ _ hf
    exact ⟨x, hx⟩
  obtain ⟨A1, len1, cap1, rfl⟩ := okWide_slice Tryd.underlying52 (hval 1 52 v1 rfl rfl)
  obtain ⟨x1, hx1⟩ : ∃ x, Rep.ok _ (fun b => b < W.heap.size) W [.slice A1 len1 cap1] x := by
    obtain ⟨fuel, hf⟩ := k1
    obtain ⟨x, hx, _⟩ := (reads_slice Tryd.underlying52 (by kernel_rfl) (reads_int Tryd.underlying2 (by kernel_rfl)) (by decide)).2 enc W fuel _ _ hf
    exact ⟨x, hx⟩
  clear hA0 hval0 hsz0 hsz
  refine (ExprTyped_walk W hl _ _ _ _ hx0 hx1).mono fun e W' ⟨he, bel⟩ => ?_
  subst he
  exact ⟨_, rfl, _, _, _, [], _, [], hW', trodAll_mk1 (shut_bool Tryd.underlying4 _), (trodAll_cons_mk (Below.trod laidOut (by kernel_rfl) (of_decide_eq_true (by kernel_rfl)) k0 bel lt0) (trodAll_cons_mk (Below.trod laidOut (by kernel_rfl) (of_decide_eq_true (by kernel_rfl)) k1 bel lt1) trodAll_mk0)), rfl, bel.frame _, fun h => by cases h⟩
theorem over : Rows.exprTypedRow.holds Tryd.pinned (OpenSpec.ofChange Rows.exprTypedSpec) :=
  OpenClaim.holds_of_wide 10 Tryd.f10 rfl rfl rfl rfl rfl rfl rfl ⟨rfl, rfl, rfl, rfl, rfl⟩ rfl rfl rfl rfl rfl (by kernel_rfl) Tryd.func10 (by kernel_rfl)
    (of_decide_eq_true (by kernel_rfl)) (by unfold Func.isWrapper; first | (rw [if_pos (by decide +kernel)]; kernel_rfl) | (rw [if_neg (by decide +kernel)]; exact ⟨rfl, rfl⟩))
    (fun os started H enc _ => lifted os started H enc)
theorem tied : Rows.exprTypedRow.laidByTextAt .later Tryd.pinned [.data, .data, .data, .sentinel, .sentinel] true := exprTyped_row_tie
theorem proved : Rows.ExprTypedCardSaid :=
  Claim7.holds_tied_plain_at .later [] [.data, .data, .data, .sentinel, .sentinel] true (true, "db1b1416e8b9191c37f8c5ab0231d3edbfa3db9fbc20d541cc041a0a251e15ff") true
    over (fun _ h => by cases h) (by kernel_rfl) (fun _ h => by cases h) tied rfl ⟨rfl, rfl⟩ (by kernel_rfl) rfl
    (fun f fn hf hfn => by
      obtain rfl : f = 10 := Option.some.inj ((show Tryd.prog.funcNamed "spinet/spinetlaw04.ExprTyped" = some 10 by kernel_rfl).symm.trans hf) |>.symm
      obtain rfl : fn = Tryd.f10 := (Option.some.inj (Tryd.func10.symm.trans hfn)).symm
      exact ⟨by kernel_rfl, fun j t ht => by
        rw [Tryd.params10] at ht
        have hm := Array.mem_of_getElem? ht
        simp only [List.mem_toArray, List.mem_cons, List.not_mem_nil, or_false] at hm
        rcases hm with rfl | rfl
        · exact (show Tryd.prog.wantsStandIn 23 = false by kernel_rfl)
        · exact (show Tryd.prog.wantsStandIn 52 = false by kernel_rfl)⟩)
    (by kernel_rfl)
#print axioms proved
end Go.Proofs.YtldcplgfkcionaaDoor.exprTyped
