/- An event that no transition has changes nothing, in a session that was started, and is Going, of a chart without Guards at event 0: for every chart, every list of events and every event. -/
import Derived.Test.YtikilglbhnplaaaGreatDoorRows
import Derived.Test.YtikilglbhnplaaaGreatDoorCards
import Derived.Test.YtikilglbhnplaaaGreatDoorZMacroIdle22
import Derived.WalkKit
import Derived.ProofKit
import Derived.OpenShut
import Derived.ShutString
import Derived.ChangeOld
import Derived.ChangeVars
import Derived.Handed
import Derived.SizedLaws
import Derived.Below
import Derived.Test.YtikilglbhnplaaaGreatDoorTie
import Derived.SevenTiedAt
namespace Go.Proofs.YtikilglbhnplaaaGreatDoor.macroIdle
open Go.ChangeShapes Go.WideShapes Go.ChangeAt Go.RowKit
open Go.ChangeMaps (open_string shut_string)
set_option linter.unusedVariables false
theorem own : ownKnob Tryz.prog.godebug = none := by kernel_rfl
theorem laidOut : laidOutB Tryz.prog = true := by kernel_rfl
set_option maxRecDepth 100000 in
theorem lifted (os : Os) (started : os.Started) (H : Type) (enc : TypeId × Value → H) :
    ReturnsInHanded {} Tryz.checked os 6 .any (fun w args => (Rows.macroIdleSpec.pre enc Tryz.prog Tryz.f6 [] false w args ∧ laidMetH Tryz.prog Rows.macroIdleRow.laid w) ∧ sizedMet enc Tryz.prog Tryz.f6 (OpenSpec.ofChange Rows.macroIdleSpec) false w args)
      (Rows.macroIdleSpec.post enc Tryz.prog Tryz.f6 false true false false) := by
  refine returnsInHanded_of_change_and (C := Tryz.checked) (X := fun w _ => laidMetH Tryz.prog Rows.macroIdleRow.laid w) (fun _ _ _ hh h => h.of_heap hh) own started (by kernel_rfl) Tryz.func6
    (ChangeSpec.witness_at (enc := enc) (C := Tryz.checked) (os := os) (X := fun w _ => laidMetH Tryz.prog Rows.macroIdleRow.laid w) false (Door.laidWorld os) #[(.agg #[.int .i64 0, .slice none 0 0, .slice none 0 0]), .slice none 0 0, .int .i64 0] 8 rfl (by kernel_rfl) (by kernel_rfl) (by kernel_rfl) (by kernel_rfl) (by kernel_rfl) (Door.met5H os _)) ?_
  intro W base args ds gs before hval0 hW hcnd hsz0 hL _
  have hl := Door.laid_of5z hL
  have hval : ∀ (j : Nat) t v, Tryz.f6.params[j]? = some t → args[j]? = some v → Value.okWide Tryz.prog W .any base t v := hval0
  have hsz : (DataW.weightsEach Tryz.prog (Tryz.f6.params.toList ++ Rows.macroIdleSpec.plain.varTypes Tryz.prog) (ds ++ gs)).all (· ≤ reachBytes) = true := hsz0
  have hW' := hW
  obtain ⟨p, q, hA0, hV, rfl, hfz, hnd⟩ := hW
  have hA : DataW.TrodAll enc Tryz.prog W 0 (fun _ => true) true Tryz.f6.params.toList args.toList ds p := hA0
  rw [Tryz.params6] at hA hval hsz
  obtain ⟨v0, vs0, d0, ds0, p0, q0, hargs, rfl, rfl, h0, r0⟩ := trodAll_cons hA
  obtain ⟨v1, vs1, d1, ds1, p1, q1, rfl, rfl, rfl, h1, r1⟩ := trodAll_cons r0
  obtain ⟨v2, vs2, d2, ds2, p2, q2, rfl, rfl, rfl, h2, r2⟩ := trodAll_cons r1
  obtain ⟨rfl, rfl, rfl⟩ := trodAll_nil r2
  obtain rfl : args = #[v0, v1, v2] := by cases args; simp_all
  obtain ⟨rfl, rfl⟩ := trodVars_none hV
  have k0 := h0
  have lt0 : ∀ x ∈ p0, x.block < W.heap.size := by obtain ⟨m, hm⟩ := k0; exact DataW.trod_lt m _ _ _ hm
  have k1 := h1
  have lt1 : ∀ x ∈ p1, x.block < W.heap.size := by obtain ⟨m, hm⟩ := k1; exact DataW.trod_lt m _ _ _ hm
  have k2 := h2
  have lt2 : ∀ x ∈ p2, x.block < W.heap.size := by obtain ⟨m, hm⟩ := k2; exact DataW.trod_lt m _ _ _ hm
  obtain ⟨cs0, rfl, _, _⟩ : ∃ cs, v0 = .agg cs ∧ cs.size = Tryz.prog.cellsOf 25 ∧ Row.okWide Tryz.prog W .any base 25 cs := by
    have h := hval 0 25 v0 rfl rfl
    unfold Value.okWide at h
    rw [Tryz.underlying25] at h
    exact h
  obtain ⟨x0, hx0⟩ : ∃ x, Rep.ok _ (fun b => b < W.heap.size) W cs0.toList x := by
    obtain ⟨fuel, hf⟩ := k0
    obtain ⟨x, hx, _⟩ := (RChart.reads).2 enc W fuel _ _ hf
    exact ⟨x, hx⟩
  obtain ⟨A1, len1, cap1, rfl⟩ := okWide_slice Tryz.underlying36 (hval 1 36 v1 rfl rfl)
  obtain ⟨x1, hx1⟩ : ∃ x, Rep.ok _ (fun b => b < W.heap.size) W [.slice A1 len1 cap1] x := by
    obtain ⟨fuel, hf⟩ := k1
    obtain ⟨x, hx, _⟩ := ((reads_slice Tryz.underlying36 (by kernel_rfl) (reads_int Tryz.underlying3 (by kernel_rfl)) (by decide))).2 enc W fuel _ _ hf
    exact ⟨x, hx⟩
  obtain ⟨a2, rfl, hd2, hp2, w2⟩ := open_int Tryz.underlying3 (hval 2 3 v2 rfl rfl) h2
  clear hA0 hval0 hsz0 hsz
  refine (MacroIdle_walk W hl _ _ _ _ _ _ hx0 hx1 ⟨rfl, w2⟩).mono fun e W' ⟨he, bel⟩ => ?_
  subst he
  exact ⟨_, rfl, _, _, _, [], _, [], hW', trodAll_mk1 (shut_bool Tryz.underlying4 _), (trodAll_cons_mk (Below.trod laidOut (by kernel_rfl) (of_decide_eq_true (by kernel_rfl)) k0 bel lt0) (trodAll_cons_mk (Below.trod laidOut (by kernel_rfl) (of_decide_eq_true (by kernel_rfl)) k1 bel lt1) (trodAll_cons_mk (Below.trod laidOut (by kernel_rfl) (of_decide_eq_true (by kernel_rfl)) k2 bel lt2) trodAll_mk0))), rfl, bel.frame _, fun h => by cases h⟩
set_option maxHeartbeats 400000000 in
theorem facts : joinedFacts Tryz.prog 6 Tryz.f6 Rows.macroIdleSpec Rows.macroIdleRow = true := by
  unfold joinedFacts
  repeat' (with_reducible refine Bool.and_eq_true_iff.2 ⟨?_, ?_⟩)
  all_goals (as_aux_lemma => kernel_rfl)
theorem over : Rows.macroIdleRow.holds Tryz.pinned (OpenSpec.ofChange Rows.macroIdleSpec) :=
  OpenClaim.holds_of_wide 6 Tryz.f6 rfl rfl rfl rfl rfl rfl rfl ⟨rfl, rfl, rfl, rfl, rfl⟩ rfl rfl rfl rfl rfl (by as_aux_lemma => kernel_rfl) Tryz.func6 facts
    (of_decide_eq_true (by as_aux_lemma => kernel_rfl)) (by as_aux_lemma => unfold Func.isWrapper; first | (rw [if_pos (by decide +kernel)]; kernel_rfl) | (rw [if_neg (by decide +kernel)]; exact ⟨rfl, rfl⟩))
    (fun os started H enc _ => lifted os started H enc)
theorem tied : Rows.macroIdleRow.laidByTextAt .later Tryz.pinned [.data, .data, .data, .sentinel, .sentinel] true := macroIdle_row_tie
theorem proved : Rows.MacroIdleCardSaid :=
  Claim7.holds_tied_plain_at .later [] [.data, .data, .data, .sentinel, .sentinel] true (true, "95ee4940e5c9e43066b465cb7dd9cf9888cf6ef2f54ab9881844c1b510a19d61") true
    over (fun _ h => by cases h) (by as_aux_lemma => kernel_rfl) (fun _ h => by cases h) tied rfl ⟨rfl, rfl⟩ (by as_aux_lemma => kernel_rfl) rfl
    (fun f fn hf hfn => by
      obtain rfl : f = 6 := Option.some.inj ((show Tryz.prog.funcNamed "spinet/spinetlaw13.MacroIdle" = some 6 by kernel_rfl).symm.trans hf) |>.symm
      obtain rfl : fn = Tryz.f6 := (Option.some.inj (Tryz.func6.symm.trans hfn)).symm
      exact ⟨by kernel_rfl, fun j t ht => by
        rw [Tryz.params6] at ht
        have hm := Array.mem_of_getElem? ht
        simp only [List.mem_toArray, List.mem_cons, List.not_mem_nil, or_false] at hm
        rcases hm with rfl | rfl | rfl
        · exact (show Tryz.prog.wantsStandIn 25 = false by kernel_rfl)
        · exact (show Tryz.prog.wantsStandIn 36 = false by kernel_rfl)
        · exact (show Tryz.prog.wantsStandIn 3 = false by kernel_rfl)⟩)
    (by as_aux_lemma => kernel_rfl)
#print axioms proved
end Go.Proofs.YtikilglbhnplaaaGreatDoor.macroIdle
