/- What Of does; values compared; the head of expr's statements. -/
import Derived.Test.YtldcplgfkcionaaDoorExpre
import Derived.Test.YtldcplgfkcionaaDoorRun
set_option linter.unusedVariables false
set_option linter.unusedSimpArgs false
namespace Go.Proofs.YtldcplgfkcionaaDoor
open Go.RowKit Go.Proofs.YtldcplgfkcionaaDoorW.PrintWords
open PX (T V Tr takes may)
theorem eqVal_in (d : Nat) (w : World) (a b : V) :
    (Op.equalIn (d + 2) 54 (agV a) (agV b)).run Tryd.prog w = .ok (a.1 == b.1 && a.2 == b.2) w := by
  unfold agV
  refine eqA_of Tryd.underlying54 (by kernel_rfl) ?_
  refine eqf_cons (by rfl) (by go_simp; rfl) (by go_simp; rfl) (by go_simp) ?_
  exact eqf_last (by rfl) (by go_simp; rfl) (by go_simp; rfl) (by go_simp)
theorem eqVal (w : World) (a b : V) : (binOp .eql 54 (.agg #[.int .i64 a.1, .int .i64 a.2]) (.agg #[.int .i64 b.1, .int .i64 b.2])).run Tryd.prog w = .ok (.bool (a.1 == b.1 && a.2 == b.2)) w := by
  have := eqVal_in 9998 w a b
  unfold agV at this
  simp only [binOp]
  simp [Op.equal, Op.maxDepth, this]
/-- A text's value, or what is amiss. -/
def ofR (r : List T × Er) (env : List Int) : V × Er :=
  match r.2 with
  | .none => (match runR (lookV false 0 env) false r.1 with | .ok v => (v, .none) | .error c => ((0, 0), .code c))
  | e => ((0, 0), e)
set_option maxHeartbeats 8000000 in
set_option maxRecDepth 100000 in
theorem of_any (s : ByteArray) (hs : s.size ≤ 281474976710656) (E : Option Addr) (ecap : Nat) (env : List Int) (w : World) (hw : Laid w) (hE : NumsC w E env.length env) (r : List T × Er) (hr : Parsed s.data.toList r) :
    Calls Tryd.prog 34 #[.string s, .slice E env.length ecap] w fun e w' => ∃ ev, e = .returned (.tuple #[agV (ofR r env).1, ev]) ∧ ErV w.heap.size w' ev (ofR r env).2 ∧ Below w.heap.size w w' := by
  have HR := Lib.hid hr
  have HE := Lib.hid hE
  have hw0 : Laid (w.alloc (.cells #[.int .i64 0, .int .i64 0] 54)) := hw.below ((Below.refl _ _).alloc (Nat.le_refl _) _)
  clear hr hE
  go_enter Tryd.func34, Tryd.ntmps34
  go_wp2_with fail
  refine (parse_any s hs _ hw0 r HR.out).mono ?_
  rintro e w1 ⟨v1, ev1, rfl, h1, he1, hb1⟩
  obtain ⟨hk, c0, c1, f0, f1, hlt, hbw⟩ := laid2 hb1
  have HK := Lib.hid hk
  obtain ⟨A1, c1', rfl, hc1, hC1⟩ := Kd.R_reads h1
  have HC1 := Lib.hid hC1
  have HE1 := Lib.hid he1
  clear hk h1 hC1 hb1 he1
  cases hx : r.2 with
  | none =>
    have hev : ev1 = .nilIface := by have := HE1.out; rw [hx] at this; exact this
    subst hev
    have HX := Lib.hid hx
    clear hx HE1
    go_wp2_with fail
    refine (eval_any A1 c1' r.1 E ecap env _ hc1 HC1.out (Kd.C_below HE.out hbw)).mono ?_
    rintro e w2 ⟨rfl, hb2⟩
    have HK2 := Lib.hid ((hb2.block w.heap.size hlt).trans HK.out)
    have hbw2 := hbw.trans (hb2.mono hbw.size)
    have d0 : w2.cell? ⟨w.heap.size, 0, none⟩ = some (.int .i64 0) := blk_cell HK2.out 0
    have d1 : w2.cell? ⟨w.heap.size, 1, none⟩ = some (.int .i64 0) := blk_cell HK2.out 1
    have g0 : w2.frozen? ⟨w.heap.size, 0, none⟩ = false := blk_free HK2.out 0
    have g1 : w2.frozen? ⟨w.heap.size, 1, none⟩ = false := blk_free HK2.out 1
    clear hb2 HK c0 c1 f0 f1
    cases hv : runR (lookV false 0 env) false r.1 with
    | ok v =>
      have HO : Hid (ofR r env = (v, .none)) := Lib.hid (by unfold ofR; rw [HX.out]; simp only; rw [hv])
      clear hv
      simp only [retE, agV]
      go_wp2_with fail
      refine bodyPost_ret (results_ct rfl _ _ w.heap.size 54 #[.int .i64 _, .int .i64 _] (0, 0) _ rfl (blk_set2 HK2.out _ _) Tryd.underlying54 rfl (by kernel_rfl)) rfl ?_
      exact ⟨.nilIface, by rw [HO.out]; rfl, by rw [HO.out]; rfl, below_set2 hbw2 (Nat.le_refl _) _ _⟩
    | error c =>
      have HO : Hid (ofR r env = ((0, 0), .code c)) := Lib.hid (by unfold ofR; rw [HX.out]; simp only; rw [hv])
      clear hv
      simp only [retE, agV]
      go_wp2_with fail
      refine bodyPost_ret (results_ct rfl _ _ w.heap.size 54 #[.int .i64 _, .int .i64 _] (0, 0) _ rfl (blk_set2 HK2.out _ _) Tryd.underlying54 rfl (by kernel_rfl)) rfl ?_
      exact ⟨_, by rw [HO.out]; rfl, by rw [HO.out]; rfl, below_set2 hbw2 (Nat.le_refl _) _ _⟩
  | code c =>
    have HO : Hid (ofR r env = ((0, 0), .code c)) := Lib.hid (by unfold ofR; rw [hx])
    have hev : ev1 = .iface 28 (.int .i64 c) := by have := HE1.out; rw [hx] at this; exact this
    subst hev
    clear hx HE1
    go_wp2_with fail
    refine bodyPost_ret (results_ct rfl _ _ w.heap.size 54 #[.int .i64 _, .int .i64 _] (0, 0) _ rfl (blk_set2 HK.out _ _) Tryd.underlying54 rfl (by kernel_rfl)) rfl ?_
    exact ⟨_, by rw [HO.out]; rfl, by rw [HO.out]; rfl, below_set2 hbw (Nat.le_refl _) _ _⟩
  | spot a c =>
    have HO : Hid (ofR r env = ((0, 0), .spot a c)) := Lib.hid (by unfold ofR; rw [hx])
    obtain ⟨g1, hev, hB, hs1⟩ : ∃ g, ev1 = .iface 74 (.pointer (some ⟨g, 0, none⟩)) ∧ (w.alloc (.cells #[.int .i64 0, .int .i64 0] 54)).heap.size ≤ g ∧ w1.heap[g]? = some (.cells #[.int .i64 a, .int .i64 c] 76 (0, 0)) := by
      have := HE1.out; rw [hx] at this; exact this
    subst hev
    have HS := Lib.hid hs1
    have hne : g1 ≠ w.heap.size := by simp at hB; omega
    clear hx HE1 hs1
    go_wp2_with fail
    refine bodyPost_ret (results_ct rfl _ _ w.heap.size 54 #[.int .i64 _, .int .i64 _] (0, 0) _ rfl (blk_set2 HK.out _ _) Tryd.underlying54 rfl (by kernel_rfl)) rfl ?_
    exact ⟨_, by rw [HO.out]; rfl, by rw [HO.out]; exact ⟨g1, rfl, by simp at hB; omega, blk_far (blk_far HS.out hne _) hne _⟩, below_set2 hbw (Nat.le_refl _) _ _⟩
theorem tok_new (W : World) (k n c : Int) (N : Nat) (hN : N = W.heap.size) : ToksC (W.alloc (.cells #[.int .i64 k, .int .i64 n, .int .i64 c] 40)) (some ⟨N, 0, none⟩) ([⟨k, n, c⟩] : List T).length [⟨k, n, c⟩] := by
  subst hN
  refine ⟨rfl, by simp, fun _ => ⟨_, rfl, fun j x hj => ?_⟩⟩
  match j, hj with
  | 0, hj =>
    obtain rfl : (⟨k, n, c⟩ : T) = x := by simpa using hj
    refine ⟨[.int .i64 k, .int .i64 n, .int .i64 c], rfl, PAll.k40_mk _ _, fun i u hi => ?_⟩
    rw [add_at]
    have hb := blk_new W (.cells #[.int .i64 k, .int .i64 n, .int .i64 c] 40)
    match i, hi with
    | 0, hi => simp at hi; subst hi; exact blk_cell hb 0
    | 1, hi => simp at hi; subst hi; exact blk_cell hb 1
    | 2, hi => simp at hi; subst hi; exact blk_cell hb 2
    | n + 3, hi => simp at hi
  | n + 1, hj => simp at hj
abbrev p4 : List T := [⟨1, 7, 0⟩, ⟨1, 2, 0⟩, ⟨6, 0, 0⟩, ⟨1, 3, 0⟩, ⟨10, 0, 0⟩]
theorem parsed_p4 : Parsed [55, 47, 50, 61, 61, 51] (p4, .none) :=
  parsed_run 9 30 _ [⟨1, 7, 0⟩, ⟨6, 0, 1⟩, ⟨1, 2, 2⟩, ⟨10, 0, 3⟩, ⟨1, 3, 5⟩] ⟨5, p4, false⟩ (by decide) (by rfl) (by rfl)
theorem parsed_z : Parsed [49, 47, 48] ([⟨1, 1, 0⟩, ⟨1, 0, 0⟩, ⟨6, 0, 0⟩], .none) :=
  parsed_run 9 30 _ [⟨1, 1, 0⟩, ⟨6, 0, 1⟩, ⟨1, 0, 2⟩] ⟨3, [⟨1, 1, 0⟩, ⟨1, 0, 0⟩, ⟨6, 0, 0⟩], false⟩ (by decide) (by rfl) (by rfl)
theorem of_p4 : ofR (p4, .none) [] = ((2, 1), .none) := by kernel_rfl
theorem of_z : ofR ([⟨1, 1, 0⟩, ⟨1, 0, 0⟩, ⟨6, 0, 0⟩], .none) [] = ((0, 0), .code 9) := by rfl
theorem ty_3 : runR (lookV true 0 []) true [⟨1, 3, 0⟩] = .ok (1, 3) := by rfl
set_option maxHeartbeats 4000000 in
set_option maxRecDepth 100000 in
theorem up04 (w : World) (hw : Laid w) : Calls Tryd.prog 28 #[] w fun e w' => e = .returned (.bool true) ∧ Below w.heap.size w w' := by
  have k6 := eqErr
  have kv : ∀ w : World, (binOp .eql 54 (.agg #[.int .i64 2, .int .i64 1]) (.agg #[.int .i64 2, .int .i64 1])).run Tryd.prog w = .ok (.bool true) w := fun w => eqVal w (2, 1) (2, 1)
  have nilC : ∀ w : World, NumsC w none ([] : List Int).length [] := fun w => ⟨rfl, by simp, fun h => by simp at h⟩
  go_enter Tryd.func28, Tryd.ntmps28
  go_wp2_with fail
  refine (of_any _ (by decide) none 0 [] _ hw (nilC _) _ parsed_p4).mono ?_
  rw [of_p4]
  rintro e w1 ⟨ev1, rfl, rfl, hb1⟩
  simp only [agV]
  go_wp2_with fail
  have hb1' := hb1.alloc hb1.size (.cells #[.int .i64 2, .int .i64 1] 54)
  refine (of_any _ (by decide) none 0 [] _ (hw.below hb1') (nilC _) _ parsed_z).mono ?_
  rw [of_z]
  rintro e w2 ⟨ev2, rfl, rfl, hb2⟩
  obtain ⟨hk, c0, c1, f0, f1, hlt, hbw⟩ := laid2 hb2
  have HK := Lib.hid hk
  clear hk hb2
  simp only [agV]
  go_wp2_with fail
  refine (type_any (some ⟨w2.heap.size + 1, 0, none⟩) 1 [⟨1, 3, 0⟩] 0 _ (by simp) (tok_new (w2.alloc (.cells #[.int .i64 0, .int .i64 0] 54)) 1 3 0 _ (by simp))).mono ?_
  rw [ty_3]
  rintro e w3 ⟨rfl, hb3⟩
  have hb3' : Below w2.heap.size w2 w3 := (((Below.refl _ _).alloc (Nat.le_refl _) _).alloc (by simp) _).trans (hb3.mono (by simp; omega))
  have d0 := (hb3'.cell (p := ⟨w1.heap.size, 0, none⟩) hlt).trans c0
  have d1 := (hb3'.cell (p := ⟨w1.heap.size, 1, none⟩) hlt).trans c1
  have hbf : Below w.heap.size w w3 := (hb1.trans (hbw.mono hb1.size)).trans (hb3'.mono (Nat.le_trans hb1.size (Nat.le_of_lt hlt)))
  clear c0 c1 f0 f1 hb3 HK
  simp only [kindR, errR]
  go_wp2_with fail
  go_ret
  exact ⟨rfl, hbf⟩
end Go.Proofs.YtldcplgfkcionaaDoor
