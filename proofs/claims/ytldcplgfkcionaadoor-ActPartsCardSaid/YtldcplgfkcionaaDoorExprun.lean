/- What the machine of expr does: run. -/
import Derived.Test.YtldcplgfkcionaaDoorExprw2
import Derived.Test.YtldcplgfkcionaaDoorErr
import Derived.Test.YtldcplgfkcionaaDoorCodes
import Derived.Test.YtldcplgfkcionaaDoorPW
set_option linter.unusedVariables false
set_option linter.unusedSimpArgs false
namespace Go.Proofs.YtldcplgfkcionaaDoor
open Go.RowKit Go.Proofs.YtldcplgfkcionaaDoorW.PrintWords Go.Proofs.YtldcplgfkcionaaDoorW.PrintLast
open PX (T V Tr takes takes_cases runs val value mayGo may runs_len may_at runs_snoc runs_fail step_leaf step_one step_two one_last two_last)
/-- A stack of values of the call's own. -/
def StkV (w : World) (B : Nat) (v : Value) (xs : List V) : Prop := w.ownsRow B 54 2 v xs.length (xs.flatMap fun v => [.int .i64 v.1, .int .i64 v.2])
theorem flatV_len (xs : List V) : (xs.flatMap fun v => [(.int .i64 v.1 : Value), .int .i64 v.2]).length = xs.length * 2 := by
  induction xs with
  | nil => rfl
  | cons a l ih => simp [List.flatMap_cons, ih]; omega
theorem flatV_at (xs : List V) (i : Nat) (v : V) (h : xs[i]? = some v) : (xs.flatMap fun v => [(.int .i64 v.1 : Value), .int .i64 v.2])[i * 2]? = some (.int .i64 v.1) ∧ (xs.flatMap fun v => [(.int .i64 v.1 : Value), .int .i64 v.2])[i * 2 + 1]? = some (.int .i64 v.2) := by
  induction xs generalizing i with
  | nil => simp at h
  | cons a l ih =>
    cases i with
    | zero => simp at h; subst h; simp [List.flatMap_cons]
    | succ i =>
      have := ih i (by simpa using h)
      simp only [List.flatMap_cons, List.cons_append, List.nil_append]
      rw [show (i + 1) * 2 = i * 2 + 1 + 1 by omega]
      simpa using this
theorem StkV.below {w w' : World} {B : Nat} {v : Value} {xs : List V} (h : StkV w B v xs) (hb : Below w.heap.size w w') : StkV w' B v xs :=
  own_chg h (Chg.of_below hb : Chg (fun _ => False) w w') (fun _ _ e => e)
theorem StkV.cut {w : World} {B n c : Nat} {A : Option Addr} {xs ys : List V} (h : StkV w B (.slice A n c) (xs ++ ys)) : StkV w B (.slice A xs.length c) xs := by
  unfold StkV at h ⊢
  have hn : n = (xs ++ ys).length := by
    obtain ⟨_, ⟨hv, _⟩ | ⟨g, cap, cur, hv, _⟩⟩ := h
    · injection hv with _ h1 _; omega
    · injection hv
  subst hn
  have := own_take h (m := xs.length) (by simp)
  rw [List.flatMap_append, List.take_append_of_le_length (by rw [flatV_len]; omega), List.take_of_length_le (by rw [flatV_len]; omega)] at this
  exact this
theorem StkV.cell {w : World} {B : Nat} {v : Value} {xs : List V} (h : StkV w B v xs) (hp : 0 < xs.length) : ∃ g cap, v = .slice (some ⟨g, 0, none⟩) xs.length cap ∧ xs.length ≤ cap ∧ ∀ (i : Nat) x, xs[i]? = some x → w.cell? ⟨g, i * 2, none⟩ = some (.int .i64 x.1) ∧ w.cell? ⟨g, i * 2 + 1, none⟩ = some (.int .i64 x.2) := by
  obtain ⟨g, cap, hv, _, _, h1, _, h2, _⟩ := own_shape h hp
  exact ⟨g, cap, hv, h1, fun i x hx => ⟨h2 _ _ (flatV_at xs i x hx).1, h2 _ _ (flatV_at xs i x hx).2⟩⟩
theorem val_info : (Tryd.prog.info? 54).map (fun i => (i.zero, i.size, i.bytes)) = some (some (.agg #[.int .i64 0, .int .i64 0]), 2, 16) := by kernel_rfl
theorem run_eql_iface_nil_left {P : Program} (w : World) {ti : TypeId} {ms : Array (String × TypeId)} (tp : TypeId) (v : Value) (hi : P.underlying ti = some (.interface ms)) :
    (binOp .eql ti .nilIface (.iface tp v)).run P w = .ok (.bool false) w := by
  have h : ∀ d : Nat, (Op.equalIn (d + 1) ti .nilIface (.iface tp v)).run P w = .ok false w := fun d => by simp [Op.equalIn, run_underlying hi]
  simp only [binOp]
  simp [Op.equal, Op.maxDepth, h 9999]
theorem eqErrNil (w : World) (v : Value) : (binOp .eql 25 .nilIface (.iface 28 v)).run Tryd.prog w = .ok (.bool false) w :=
  run_eql_iface_nil_left w _ v Tryd.underlying25
/-- What run hands back. -/
def runR (look : Int → Option Int) (typed : Bool) (p : List T) : Except Int V := if may p then valueE look typed p else .error 2
theorem value_failE {look : Int → Option Int} {typed : Bool} (p : List T) (q : Nat) {t : T} {xs : List V} {e : Int} (h1 : runsE look typed (p.take (q + 1)) [] = stepE look typed t xs) (h2 : stepE look typed t xs = .error e) : valueE look typed p = .error e := by
  rw [h2] at h1
  have := runs_fail _ _ _ p (q + 1) h1
  unfold valueE value
  rw [this]
  rfl
/-- The mishap of a token, where divisions by 0 have been seen to. -/
theorem leafE_nine (look : Int → Option Int) (t : T) (typed : Bool) : zeroE typed (leafE look t) = leafE look t := by
  unfold leafE zeroE
  repeat' split
  all_goals first | rfl | simp_all
theorem oneE_nine (t : T) (a : V) (typed : Bool) : zeroE typed (oneE t a) = oneE t a := by
  unfold oneE zeroE
  repeat' split
  all_goals first | rfl | simp_all
set_option maxHeartbeats 8000000 in
set_option maxRecDepth 100000 in
theorem run_any (f : FuncId) (hrun : ∀ (args : Array Value) (w : World), (callFunc f args).run Tryd.prog w = .ok (.enter f args) w) (cp : Value) (look : Int → Option Int) (typed : Bool)
    (A : Option Addr) (cap : Nat) (p : List T) (w : World) (hc : p.length ≤ cap) (hC : ToksC w A p.length p) (hl : LookC f cp look w.heap.size w) :
    Calls Tryd.prog 56 #[.slice A p.length cap, .func (.func f) #[] #[cp], .bool typed] w fun e w' => e = .returned (retE (runR look typed p)) ∧ Below w.heap.size w w' := by
  have HC := Lib.hid hC
  have HL := Lib.hid hl
  clear hC hl
  have k6 := eqErr
  have k7 := neErrNil
  have k8 := eqErrNil
  cases hm : may p with
  | false =>
    have HX := Lib.hid (show runR look typed p = .error 2 by unfold runR; rw [if_neg (by simp [hm])])
    go_enter Tryd.func56, Tryd.ntmps56
    go_wp2_with fail
    refine (may_any A cap p _ (Kd.C_alloc HC.out _) hc).mono ?_
    rw [hm]
    rintro e w1 ⟨rfl, hb1⟩
    obtain ⟨hk, c0, c1, f0, f1, hlt, hbw⟩ := laid2 hb1
    have HK := Lib.hid hk
    clear hk hb1
    go_wp2_with fail
    refine bodyPost_ret (results_ct rfl _ _ w.heap.size 54 #[.int .i64 _, .int .i64 _] (0, 0) _ rfl (blk_set2 HK.out _ _) Tryd.underlying54 rfl (by kernel_rfl)) rfl ?_
    exact ⟨by rw [HX.out]; rfl, below_set2 hbw (Nat.le_refl _) _ _⟩
  | true =>
    have hmg : mayGo p 0 = some 1 := by unfold may at hm; simp at hm; exact hm.2
    have hl : p.length ≤ 100 := by unfold may at hm; simp at hm; exact hm.1
    have HX : Hid (runR look typed p = valueE look typed p) := Lib.hid (by unfold runR; rw [if_pos hm])
    have HM := Lib.hid hmg
    clear hmg
    go_enter Tryd.func56, Tryd.ntmps56
    go_wp2_with fail
    refine (may_any A cap p _ (Kd.C_alloc HC.out _) hc).mono ?_
    rw [hm]
    rintro e w1 ⟨rfl, hb1⟩
    obtain ⟨hk1, _, _, _, _, hlt1, hbw1⟩ := laid2 hb1
    have HK1 := Lib.hid hk1
    clear hm hb1 hk1
    go_wp2_with fail
    go_loopw [8, 22] (fun v i wr => ∃ (q : Nat) (xs : List V), i = .int .i64 q ∧ q ≤ p.length ∧ xs.length ≤ q ∧ (∃ A1 c1, v = .slice A1 xs.length c1) ∧ Hid (runsE look typed (p.take q) [] = .ok xs ∧ StkV wr w1.heap.size v xs ∧ Below w1.heap.size w1 wr))
      (fun _ i _ => p.length - (intOf i).toNat)
    case atStart => exact ⟨0, [], rfl, by omega, by simp, ⟨_, _, rfl⟩, Lib.hid ⟨rfl, ⟨by simp, .inl ⟨rfl, rfl⟩⟩, Below.refl _ _⟩⟩
    case round =>
      obtain ⟨q, xs, rfl, hq, hxq, ⟨A1, c1, rfl⟩, HI⟩ := hrel
      obtain ⟨hrun', hst, hbr⟩ := HI.out
      clear HI
      have hzr : w.heap.size < wr.heap.size := Nat.lt_of_lt_of_le hlt1 hbr.size
      have HKr := Lib.hid ((hbr.block w.heap.size (by omega)).trans HK1.out)
      have hbwr : Below w.heap.size w wr := hbw1.trans (hbr.mono hbw1.size)
      by_cases hlt : q < p.length
      · have hmay := may_at _ _ _ HM.out q hlt hrun'
        have hnext : runsE look typed (p.take (q + 1)) [] = stepE look typed p[q] xs := runs_snoc _ _ _ p q hlt hrun'
        obtain ⟨ad, hA, x0, x1, x2⟩ := PAll.at_T40 (Kd.C_below HC.out hbwr) q (by omega) (by omega)
        subst hA
        have hti : PAll.rd_T40 p q = p[q] := by simp [PAll.rd_T40, List.getD_eq_getElem?_getD, List.getElem?_eq_getElem hlt]
        rw [hti] at x0 x1 x2
        simp only [Int.toNat_natCast] at x0 x1 x2
        generalize htk : p[q] = t at *
        have HN := Lib.hid hnext
        have HR := Lib.hid hrun'
        have HS := Lib.hid hst
        have HBR := Lib.hid hbr
        have HLr := Lib.hid ((HL.out.below hbwr).below (((Below.refl _ _).alloc (by omega) (.cells #[.int .i64 t.f0, .int .i64 t.f1, .int .i64 t.f2] 40)).mono (Nat.le_of_lt hzr)))
        clear hnext hrun' hst hbr hti hbwr
        have p1 : (0 ≤ (q : Int)) = True := eq_true (by omega)
        have p2 : ((q : Int) < (p.length : Int)) = True := eq_true (by omega)
        go_wp2_with fail
        refine (leaf_any f hrun cp look t hmay.1 w.heap.size _ (by simp; omega) HLr.out).mono ?_
        rintro e w2 ⟨rfl, hb2⟩
        obtain ⟨k0, k1, k2, f0, f1, f2, hz2, hbw2⟩ := laid3 hb2
        have HS2 := Lib.hid (HS.out.below hbw2)
        have HB2 := Lib.hid (HBR.out.trans (hbw2.mono HBR.out.size))
        have HK2 := Lib.hid ((hbw2.block w.heap.size hzr).trans HKr.out)
        have hlw : w1.heap.size ≤ w2.heap.size := HB2.out.size
        have hcap : xs.length ≤ c1 := by
          by_cases h0 : 0 < xs.length
          · obtain ⟨g, cap, hv, h1, _⟩ := HS.out.cell h0
            injection hv with _ _ h2
            omega
          · omega
        clear HS HBR hbw2 htk x0 x1 x2 hb2 HLr
        obtain ⟨k, n, c⟩ := t
        simp only at k0 k1 k2
        rcases takes_cases ⟨k, n, c⟩ with e | e | e | e
        · omega
        · obtain ⟨r, hr0⟩ : ∃ r, r = xs := ⟨xs, rfl⟩
          have hlr : xs.length = r.length := by rw [hr0]
          rw [← hr0] at HS2
          rw [hlr]
          cases hv : leafE look ⟨k, n, c⟩ with
          | ok v =>
            have HE : Hid (stepE look typed ⟨k, n, c⟩ xs = .ok (r ++ [v])) := Lib.hid (by rw [stepE, step_leaf _ _ _ e, hv, hr0]; rfl)
            have hlf : leafR look ⟨k, n, c⟩ = .tuple #[.agg #[.int .i64 v.1, .int .i64 v.2], .bool true, .nilIface] := by rw [leafR, if_pos e, hv]; rfl
            rw [hlf]
            clear hlf hv hr0
            have HSt : Hid (StkV (w2.alloc (.cells #[.int .i64 v.1, .int .i64 v.2] 54)) w1.heap.size (.slice A1 r.length c1) r) := Lib.hid (HS2.out.below ((Below.refl _ _).alloc (Nat.le_refl _) _))
            have HBt : Hid (Below w1.heap.size w1 (w2.alloc (.cells #[.int .i64 v.1, .int .i64 v.2] 54))) := Lib.hid (HB2.out.alloc (by omega) _)
            have HKt := Lib.hid (blk_alloc (.cells #[.int .i64 v.1, .int .i64 v.2] 54) HK2.out)
            clear HS2 HB2 HK2
            have HS4 := HSt
            have HB4 := HBt
            have HK4 := HKt
            have hlw4 := HB4.out.size
            clear HSt HBt HKt
            go_wp2_with (at_builtin; refine app_one rfl (.tmp 90) (.tmp 92) 146 54 (.agg #[.int .i64 0, .int .i64 0]) 2 16 rfl Tryd.underlying146 val_info rfl (by decide) (by decide) w1.heap.size (.slice A1 r.length c1) r.length (r.flatMap fun v => [.int .i64 v.1, .int .i64 v.2]) #[.int .i64 v.1, .int .i64 v.2] _ rfl rfl ?aN1 rfl ?aC1 ?aO1 ?aB1 ?aL1 ?_)
            try (case aN1 => first | rfl | simp)
            case aC1 => first | rfl | (intro u hu; simp at hu; rcases hu with rfl | rfl <;> rfl) | (exact ⟨rfl, rfl⟩) | simp
            case aO1 => exact HS4.out
            case aB1 => first | exact HB4.out.size | (have := HB4.out.size; simpa using this)
            case aL1 => omega
            intro v4 w4 hown hchg hat
            have HB5 : Hid (Below w1.heap.size w1 w4) := Lib.hid (HB4.out.trans (hchg.below HB4.out.size (fun k hk e => by have := own_lt HS4.out k e; omega)))
            have hS4 : StkV w4 w1.heap.size v4 (r ++ [v]) := by unfold StkV; simpa using hown
            obtain ⟨A4, c4, rfl⟩ := own_slice hown
            have HS5 := Lib.hid hS4
            clear hown hchg hat hS4 HS4 HK4
            go_wp2_with fail
            go_roundw
            case rel => exact ⟨q + 1, r ++ [v], by go_num, by omega, by simp; omega, ⟨A4, c4, by simp⟩, Lib.hid ⟨by rw [HN.out, HE.out], HS5.out, HB5.out⟩⟩
            case measure => simp [intOf]; omega
          | error x =>
            have HE : Hid (stepE look typed ⟨k, n, c⟩ xs = .error x) := Lib.hid (by rw [stepE, step_leaf _ _ _ e, hv]; rfl)
            have hx9 : (x == 9) = false := by
              have h9 := leafE_nine look ⟨k, n, c⟩ true
              rw [hv] at h9
              refine beq_eq_false_iff_ne.mpr (fun e9 => ?_)
              subst e9
              exact absurd h9 (by simp [zeroE])
            have hlf : leafR look ⟨k, n, c⟩ = .tuple #[.agg #[.int .i64 0, .int .i64 0], .bool true, .iface 28 (.int .i64 x)] := by rw [leafR, if_pos e, hv]; rfl
            rw [hlf]
            clear hlf hv hr0
            have HSt := HS2
            have HBt : Hid (Below w1.heap.size w1 (w2.alloc (.cells #[.int .i64 0, .int .i64 0] 54))) := Lib.hid (HB2.out.alloc (by omega) _)
            have HKt := Lib.hid (blk_alloc (.cells #[.int .i64 0, .int .i64 0] 54) HK2.out)
            clear HS2 HB2 HK2
            obtain ⟨c0, c1', f0', f1'⟩ : _ ∧ _ ∧ _ ∧ _ := ⟨blk_cell HKt.out 0, blk_cell HKt.out 1, blk_free HKt.out 0, blk_free HKt.out 1⟩
            have HB4 := HBt
            have HK4 := HKt
            have hlw4 := HB4.out.size
            clear HSt HBt HKt
            go_wp2_with fail
            refine bodyPost_ret (results_ct rfl _ _ w.heap.size 54 #[.int .i64 _, .int .i64 _] (0, 0) _ rfl (blk_set2 HK4.out _ _) Tryd.underlying54 rfl (by kernel_rfl)) rfl ?_
            exact ⟨by rw [HX.out, value_failE p q HN.out HE.out]; rfl, below_set2 (hbw1.trans (HB4.out.mono hbw1.size)) (Nat.le_refl _) _ _⟩
        · have hk1 := takes1 e
          simp only at hk1
          rw [e] at hmay
          have hlf : leafR look ⟨k, n, c⟩ = .tuple #[.agg #[.int .i64 0, .int .i64 0], .bool false, .nilIface] := by rw [leafR, if_neg (by omega)]; rfl
          rw [hlf]
          clear hlf
          obtain ⟨r, a, hxa⟩ := one_last xs (by omega)
          obtain ⟨g1, cp1, hv1, _, hcell⟩ := HS2.out.cell (by omega)
          injection hv1 with hv1 _ hv2
          subst hv1 hv2
          have hlr : xs.length = r.length + 1 := by rw [hxa]; simp
          obtain ⟨ca0, ca1⟩ := hcell r.length a (by rw [hxa]; simp)
          have HXA := Lib.hid hxa
          have HR2 : Hid (StkV w2 w1.heap.size (.slice (some ⟨g1, 0, none⟩) r.length c1) r) := Lib.hid (by have h := HS2.out; rw [hxa] at h; exact h.cut)
          clear hxa hcell HS2
          have hal : Below w2.heap.size w2 (w2.alloc (.cells #[.int .i64 0, .int .i64 0] 54)) := (Below.refl _ _).alloc (Nat.le_refl _) _
          have k0' := (hal.cell (p := ⟨wr.heap.size, 0, none⟩) hz2).trans k0
          have ca0' := (hal.cell (p := ⟨g1, r.length * 2, none⟩) (World.block_lt_of_cell? _ _ ca0)).trans ca0
          have ca1' := (hal.cell (p := ⟨g1, r.length * 2 + 1, none⟩) (World.block_lt_of_cell? _ _ ca1)).trans ca1
          have HV : Hid ((w2.alloc (.cells #[.int .i64 0, .int .i64 0] 54)).heap[w2.heap.size]? = some (.cells #[.int .i64 0, .int .i64 0] 54 (0, 0))) := Lib.hid (blk_new _ _)
          have e8 : (xs.length : Int) - 1 = (r.length : Int) := by omega
          have q1 : (0 ≤ (r.length : Int)) = True := eq_true (by omega)
          have q2 : ((r.length : Int) < (xs.length : Int)) = True := eq_true (by omega)
          have q3 : ((r.length : Int) < (r.length : Int) + 1) = True := eq_true (by omega)
          rcases hk1 with rfl | rfl
          · go_wp2_with fail
            refine start_ (n := 12) (S := fun w' => w'.cell? ⟨wr.heap.size, 0, none⟩ = some (.int .i64 14) ∧ w'.cell? ⟨g1, r.length * 2, none⟩ = some (.int .i64 a.1) ∧ w'.cell? ⟨g1, r.length * 2 + 1, none⟩ = some (.int .i64 a.2)) (ds := [6, 10]) #[false, false, false, false, false, false, false, false, false, false, false, false] (by kernel_rfl) rfl rfl ⟨k0', ca0', ca1'⟩ (fun hHeld => ?_)
            refine pure_ (i := 0) (N := some 67) (v := ?_) (a' := ?_) #[true, false, false, false, false, false, false, false, false, false, false, false] rfl rfl (by kernel_rfl) (fun _ _ _ h => h) (Or.inl ⟨by rfl, ?_⟩) ?_ ?_
            rotate_left
            · intro w'
              go_simp
              with_reducible rfl
            rotate_left
            · simp only [Act.put, List.setIfInBounds_toArray, List.set_cons_zero, List.set_cons_succ, i64_w, i32_w]
              rfl
            refine take_ (i := 1) (N := some 68) (v := ?_) (a' := ?_) #[true, true, false, false, false, false, false, false, false, false, false, false] rfl rfl (by kernel_rfl) (fun _ _ _ h => h) (Or.inl ⟨by rfl, ?_⟩) hHeld ?_ ?_
            rotate_left
            · rintro w' ⟨s0, s1, s2⟩
              go_simp
              with_reducible rfl
            rotate_left
            · simp only [Act.put, List.setIfInBounds_toArray, List.set_cons_zero, List.set_cons_succ, i64_w, i32_w]
              rfl
            refine pure_ (i := 2) (N := some 69) (v := ?_) (a' := ?_) #[true, true, true, false, false, false, false, false, false, false, false, false] rfl rfl (by kernel_rfl) (fun _ _ _ h => h) (Or.inl ⟨by rfl, ?_⟩) ?_ ?_
            rotate_left
            · intro w'
              go_simp
              with_reducible rfl
            rotate_left
            · simp only [Act.put, List.setIfInBounds_toArray, List.set_cons_zero, List.set_cons_succ, i64_w, i32_w]
              rfl
            refine pure_ (i := 3) (N := some 70) (v := ?_) (a' := ?_) #[true, true, true, true, false, false, false, false, false, false, false, false] rfl rfl (by kernel_rfl) (fun _ _ _ h => h) (Or.inl ⟨by rfl, ?_⟩) ?_ ?_
            rotate_left
            · intro w'
              go_simp
              with_reducible rfl
            rotate_left
            · simp only [Act.put, List.setIfInBounds_toArray, List.set_cons_zero, List.set_cons_succ, i64_w, i32_w]
              rfl
            refine pure_ (i := 4) (N := some 71) (v := ?_) (a' := ?_) #[true, true, true, true, true, false, false, false, false, false, false, false] rfl rfl (by kernel_rfl) (fun _ _ _ h => h) (Or.inl ⟨by rfl, ?_⟩) ?_ ?_
            rotate_left
            · intro w'
              go_simp
              with_reducible rfl
            rotate_left
            · simp only [Act.put, List.setIfInBounds_toArray, List.set_cons_zero, List.set_cons_succ, i64_w, i32_w]
              rfl
            refine take_ (i := 5) (N := some 72) (v := ?_) (a' := ?_) #[true, true, true, true, true, true, false, false, false, false, false, false] rfl rfl (by kernel_rfl) (fun _ _ _ h => h) (Or.inl ⟨by rfl, ?_⟩) hHeld ?_ ?_
            rotate_left
            · rintro w' ⟨s0, s1, s2⟩
              go_simp
              with_reducible rfl
            rotate_left
            · simp only [Act.put, List.setIfInBounds_toArray, List.set_cons_zero, List.set_cons_succ, i64_w, i32_w]
              rfl
            refine last_ (i := 6) (N := some 73) #[true, true, true, true, true, true, true, false, false, false, false, false] rfl rfl (by kernel_rfl) (by decide) (fun K hK => ?_)
            refine goes_ Tryd.func86 (by kernel_rfl) rfl #[.int .i64 14, agV a] (by rfl) rfl rfl (by first | rfl | (go_simp; exact ⟨rfl, rfl⟩) | (go_simp; rfl)) ?_
            refine (alone_any 14 a _).mono ?_
            rintro e3 w3 ⟨rfl, hb3⟩
            refine ⟨_, rfl, hK.out _ _ ?_⟩
            clear hK K
            have hb3' : Below w2.heap.size w2 w3 := ((below_drewN' hal 1).trans (hb3.mono (by simp)))
            have HV3 := Lib.hid ((hb3.block w2.heap.size (by simp)).trans HV.out)
            have v0 : w3.cell? ⟨w2.heap.size, 0, none⟩ = some (.int .i64 0) := blk_cell HV3.out 0
            have v1 : w3.cell? ⟨w2.heap.size, 1, none⟩ = some (.int .i64 0) := blk_cell HV3.out 1
            have vf0 : w3.frozen? ⟨w2.heap.size, 0, none⟩ = false := blk_free HV3.out 0
            have vf1 : w3.frozen? ⟨w2.heap.size, 1, none⟩ = false := blk_free HV3.out 1
            clear ca0' ca1' k0' hal hHeld HV hb3
            cases hv : oneE ⟨14, 0, 0⟩ a with
            | ok v =>
              simp only [retE, agV]
              refine pure_ (i := 7) (N := some 66) (v := ?_) (a' := ?_) #[true, true, true, true, true, true, true, true, false, false, false, false] rfl rfl (by kernel_rfl) (fun _ _ _ h => h) (Or.inl ⟨by rfl, ?_⟩) ?_ ?_
              rotate_left
              · intro w'
                go_simp
                with_reducible rfl
              rotate_left
              · simp only [Act.put, List.setIfInBounds_toArray, List.set_cons_zero, List.set_cons_succ, i64_w, i32_w]
                rfl
              refine pure_ (i := 8) (N := some 74) (v := ?_) (a' := ?_) #[true, true, true, true, true, true, true, true, true, false, false, false] rfl rfl (by kernel_rfl) (fun _ _ _ h => h) (Or.inl ⟨by rfl, ?_⟩) ?_ ?_
              rotate_left
              · intro w'
                go_simp
                with_reducible rfl
              rotate_left
              · simp only [Act.put, List.setIfInBounds_toArray, List.set_cons_zero, List.set_cons_succ, i64_w, i32_w]
                rfl
              refine pure_ (i := 9) (N := some 75) (v := ?_) (a' := ?_) #[true, true, true, true, true, true, true, true, true, true, false, false] rfl rfl (by kernel_rfl) (fun _ _ _ h => h) (Or.inl ⟨by rfl, ?_⟩) ?_ ?_
              rotate_left
              · intro w'
                go_simp
                with_reducible rfl
              rotate_left
              · simp only [Act.put, List.setIfInBounds_toArray, List.set_cons_zero, List.set_cons_succ, i64_w, i32_w]
                rfl
              refine last_ (i := 10) (N := none) #[true, true, true, true, true, true, true, true, true, true, true, false] rfl rfl (by kernel_rfl) (by decide) (fun K hK => ?_)
              refine skip_ (w1 := ?_) (by rfl) rfl ?_ ?_
              rotate_left
              · go_simp
                rfl
              refine hK.out _ _ ?_
              clear hK K
              refine pure_ (i := 11) (N := some 13) (v := ?_) (a' := ?_) #[true, true, true, true, true, true, true, true, true, true, true, true] rfl rfl (by kernel_rfl) (fun _ _ _ h => h) (Or.inl ⟨by rfl, ?_⟩) ?_ ?_
              rotate_left
              · intro w'
                go_simp
                with_reducible rfl
              rotate_left
              · simp only [Act.put, List.setIfInBounds_toArray, List.set_cons_zero, List.set_cons_succ, i64_w, i32_w]
                rfl
              refine done_ (by kernel_rfl) ?_
              have HE : Hid (stepE look typed ⟨14, n, c⟩ xs = .ok (r ++ [v])) := Lib.hid (by rw [HXA.out, stepE, step_one _ _ _ e, oneE_kind, hv]; rfl)
              clear hv
              have HSt : Hid (StkV ((w3.setCell ⟨w2.heap.size, 0, none⟩ (.int .i64 v.1)).setCell ⟨w2.heap.size, 1, none⟩ (.int .i64 v.2)) w1.heap.size (.slice (some ⟨g1, 0, none⟩) r.length c1) r) := Lib.hid (own_far (own_far (HR2.out.below hb3') (fun e => absurd (own_lt HR2.out _ e).2 (Nat.lt_irrefl _)) _) (fun e => absurd (own_lt HR2.out _ e).2 (Nat.lt_irrefl _)) _)
              have HBt : Hid (Below w1.heap.size w1 ((w3.setCell ⟨w2.heap.size, 0, none⟩ (.int .i64 v.1)).setCell ⟨w2.heap.size, 1, none⟩ (.int .i64 v.2))) := Lib.hid (below_set2 (HB2.out.trans (hb3'.mono HB2.out.size)) HB2.out.size _ _)
              have HKt : Hid (((w3.setCell ⟨w2.heap.size, 0, none⟩ (.int .i64 v.1)).setCell ⟨w2.heap.size, 1, none⟩ (.int .i64 v.2)).heap[w.heap.size]? = some (.cells #[.int .i64 0, .int .i64 0] 54 (0, 0))) := Lib.hid (blk_far (blk_far ((hb3'.block _ (by omega)).trans HK2.out) (by show w.heap.size ≠ w2.heap.size; omega) _) (by show w.heap.size ≠ w2.heap.size; omega) _)
              have vc0 : ((w3.setCell ⟨w2.heap.size, 0, none⟩ (.int .i64 v.1)).setCell ⟨w2.heap.size, 1, none⟩ (.int .i64 v.2)).cell? ⟨w2.heap.size, 0, none⟩ = some (.int .i64 v.1) := blk_cell (blk_set2 HV3.out _ _) 0
              have vc1 : ((w3.setCell ⟨w2.heap.size, 0, none⟩ (.int .i64 v.1)).setCell ⟨w2.heap.size, 1, none⟩ (.int .i64 v.2)).cell? ⟨w2.heap.size, 1, none⟩ = some (.int .i64 v.2) := blk_cell (blk_set2 HV3.out _ _) 1
              clear HR2 HB2 HK2 HV3 v0 v1 vf0 vf1 hb3'
              have HS4 := HSt
              have HB4 := HBt
              have HK4 := HKt
              have hlw4 := HB4.out.size
              clear HSt HBt HKt
              go_wp2_with (at_builtin; refine app_one rfl (.tmp 90) (.tmp 92) 146 54 (.agg #[.int .i64 0, .int .i64 0]) 2 16 rfl Tryd.underlying146 val_info rfl (by decide) (by decide) w1.heap.size (.slice (some ⟨g1, 0, none⟩) r.length c1) r.length (r.flatMap fun v => [.int .i64 v.1, .int .i64 v.2]) #[.int .i64 v.1, .int .i64 v.2] _ rfl rfl ?aN2 rfl ?aC2 ?aO2 ?aB2 ?aL2 ?_)
              try (case aN2 => first | rfl | simp)
              case aC2 => first | rfl | (intro u hu; simp at hu; rcases hu with rfl | rfl <;> rfl) | (exact ⟨rfl, rfl⟩) | simp
              case aO2 => exact HS4.out
              case aB2 => first | exact HB4.out.size | (have := HB4.out.size; simpa using this)
              case aL2 => omega
              intro v4 w4 hown hchg hat
              have HB5 : Hid (Below w1.heap.size w1 w4) := Lib.hid (HB4.out.trans (hchg.below HB4.out.size (fun k hk e => by have := own_lt HS4.out k e; omega)))
              have hS4 : StkV w4 w1.heap.size v4 (r ++ [v]) := by unfold StkV; simpa using hown
              obtain ⟨A4, c4, rfl⟩ := own_slice hown
              have HS5 := Lib.hid hS4
              clear hown hchg hat hS4 HS4 HK4
              go_wp2_with fail
              go_roundw
              case rel => exact ⟨q + 1, r ++ [v], by go_num, by omega, by simp; omega, ⟨A4, c4, by simp⟩, Lib.hid ⟨by rw [HN.out, HE.out], HS5.out, HB5.out⟩⟩
              case measure => simp [intOf]; omega
            | error x =>
              simp only [retE, agV]
              refine pure_ (i := 7) (N := some 66) (v := ?_) (a' := ?_) #[true, true, true, true, true, true, true, true, false, false, false, false] rfl rfl (by kernel_rfl) (fun _ _ _ h => h) (Or.inl ⟨by rfl, ?_⟩) ?_ ?_
              rotate_left
              · intro w'
                go_simp
                with_reducible rfl
              rotate_left
              · simp only [Act.put, List.setIfInBounds_toArray, List.set_cons_zero, List.set_cons_succ, i64_w, i32_w]
                rfl
              refine pure_ (i := 8) (N := some 74) (v := ?_) (a' := ?_) #[true, true, true, true, true, true, true, true, true, false, false, false] rfl rfl (by kernel_rfl) (fun _ _ _ h => h) (Or.inl ⟨by rfl, ?_⟩) ?_ ?_
              rotate_left
              · intro w'
                go_simp
                with_reducible rfl
              rotate_left
              · simp only [Act.put, List.setIfInBounds_toArray, List.set_cons_zero, List.set_cons_succ, i64_w, i32_w]
                rfl
              refine pure_ (i := 9) (N := some 75) (v := ?_) (a' := ?_) #[true, true, true, true, true, true, true, true, true, true, false, false] rfl rfl (by kernel_rfl) (fun _ _ _ h => h) (Or.inl ⟨by rfl, ?_⟩) ?_ ?_
              rotate_left
              · intro w'
                go_simp
                with_reducible rfl
              rotate_left
              · simp only [Act.put, List.setIfInBounds_toArray, List.set_cons_zero, List.set_cons_succ, i64_w, i32_w]
                rfl
              refine last_ (i := 10) (N := none) #[true, true, true, true, true, true, true, true, true, true, true, false] rfl rfl (by kernel_rfl) (by decide) (fun K hK => ?_)
              refine skip_ (w1 := ?_) (by rfl) rfl ?_ ?_
              rotate_left
              · go_simp
                rfl
              refine hK.out _ _ ?_
              clear hK K
              refine pure_ (i := 11) (N := some 13) (v := ?_) (a' := ?_) #[true, true, true, true, true, true, true, true, true, true, true, true] rfl rfl (by kernel_rfl) (fun _ _ _ h => h) (Or.inl ⟨by rfl, ?_⟩) ?_ ?_
              rotate_left
              · intro w'
                go_simp
                with_reducible rfl
              rotate_left
              · simp only [Act.put, List.setIfInBounds_toArray, List.set_cons_zero, List.set_cons_succ, i64_w, i32_w]
                rfl
              refine done_ (by kernel_rfl) ?_
              have hx9 : (x == 9) = false := by
                have h9 := oneE_nine ⟨14, 0, 0⟩ a true
                rw [hv] at h9
                refine beq_eq_false_iff_ne.mpr (fun e9 => ?_)
                subst e9
                exact absurd h9 (by simp [zeroE])
              have HE : Hid (stepE look typed ⟨14, n, c⟩ xs = .error x) := Lib.hid (by rw [HXA.out, stepE, step_one _ _ _ e, oneE_kind, hv]; rfl)
              clear hv
              have HSt : Hid (StkV ((w3.setCell ⟨w2.heap.size, 0, none⟩ (.int .i64 0)).setCell ⟨w2.heap.size, 1, none⟩ (.int .i64 0)) w1.heap.size (.slice (some ⟨g1, 0, none⟩) r.length c1) r) := Lib.hid (own_far (own_far (HR2.out.below hb3') (fun e => absurd (own_lt HR2.out _ e).2 (Nat.lt_irrefl _)) _) (fun e => absurd (own_lt HR2.out _ e).2 (Nat.lt_irrefl _)) _)
              have HBt : Hid (Below w1.heap.size w1 ((w3.setCell ⟨w2.heap.size, 0, none⟩ (.int .i64 0)).setCell ⟨w2.heap.size, 1, none⟩ (.int .i64 0))) := Lib.hid (below_set2 (HB2.out.trans (hb3'.mono HB2.out.size)) HB2.out.size _ _)
              have HKt : Hid (((w3.setCell ⟨w2.heap.size, 0, none⟩ (.int .i64 0)).setCell ⟨w2.heap.size, 1, none⟩ (.int .i64 0)).heap[w.heap.size]? = some (.cells #[.int .i64 0, .int .i64 0] 54 (0, 0))) := Lib.hid (blk_far (blk_far ((hb3'.block _ (by omega)).trans HK2.out) (by show w.heap.size ≠ w2.heap.size; omega) _) (by show w.heap.size ≠ w2.heap.size; omega) _)
              have HSx := HSt
              have vc0 : ((w3.setCell ⟨w2.heap.size, 0, none⟩ (.int .i64 0)).setCell ⟨w2.heap.size, 1, none⟩ (.int .i64 0)).cell? ⟨w2.heap.size, 0, none⟩ = some (.int .i64 0) := blk_cell (blk_set2 HV3.out _ _) 0
              have vc1 : ((w3.setCell ⟨w2.heap.size, 0, none⟩ (.int .i64 0)).setCell ⟨w2.heap.size, 1, none⟩ (.int .i64 0)).cell? ⟨w2.heap.size, 1, none⟩ = some (.int .i64 0) := blk_cell (blk_set2 HV3.out _ _) 1
              clear HR2 HB2 HK2 HV3 v0 v1 vf0 vf1 hb3'
              obtain ⟨c0, c1', f0', f1'⟩ : _ ∧ _ ∧ _ ∧ _ := ⟨blk_cell HKt.out 0, blk_cell HKt.out 1, blk_free HKt.out 0, blk_free HKt.out 1⟩
              have HB4 := HBt
              have HK4 := HKt
              have hlw4 := HB4.out.size
              clear HSt HBt HKt
              go_wp2_with fail
              refine bodyPost_ret (results_ct rfl _ _ w.heap.size 54 #[.int .i64 _, .int .i64 _] (0, 0) _ rfl (blk_set2 HK4.out _ _) Tryd.underlying54 rfl (by kernel_rfl)) rfl ?_
              exact ⟨by rw [HX.out, value_failE p q HN.out HE.out]; rfl, below_set2 (hbw1.trans (HB4.out.mono hbw1.size)) (Nat.le_refl _) _ _⟩
          · go_wp2_with fail
            refine start_ (n := 12) (S := fun w' => w'.cell? ⟨wr.heap.size, 0, none⟩ = some (.int .i64 19) ∧ w'.cell? ⟨g1, r.length * 2, none⟩ = some (.int .i64 a.1) ∧ w'.cell? ⟨g1, r.length * 2 + 1, none⟩ = some (.int .i64 a.2)) (ds := [6, 10]) #[false, false, false, false, false, false, false, false, false, false, false, false] (by kernel_rfl) rfl rfl ⟨k0', ca0', ca1'⟩ (fun hHeld => ?_)
            refine pure_ (i := 0) (N := some 67) (v := ?_) (a' := ?_) #[true, false, false, false, false, false, false, false, false, false, false, false] rfl rfl (by kernel_rfl) (fun _ _ _ h => h) (Or.inl ⟨by rfl, ?_⟩) ?_ ?_
            rotate_left
            · intro w'
              go_simp
              with_reducible rfl
            rotate_left
            · simp only [Act.put, List.setIfInBounds_toArray, List.set_cons_zero, List.set_cons_succ, i64_w, i32_w]
              rfl
            refine take_ (i := 1) (N := some 68) (v := ?_) (a' := ?_) #[true, true, false, false, false, false, false, false, false, false, false, false] rfl rfl (by kernel_rfl) (fun _ _ _ h => h) (Or.inl ⟨by rfl, ?_⟩) hHeld ?_ ?_
            rotate_left
            · rintro w' ⟨s0, s1, s2⟩
              go_simp
              with_reducible rfl
            rotate_left
            · simp only [Act.put, List.setIfInBounds_toArray, List.set_cons_zero, List.set_cons_succ, i64_w, i32_w]
              rfl
            refine pure_ (i := 2) (N := some 69) (v := ?_) (a' := ?_) #[true, true, true, false, false, false, false, false, false, false, false, false] rfl rfl (by kernel_rfl) (fun _ _ _ h => h) (Or.inl ⟨by rfl, ?_⟩) ?_ ?_
            rotate_left
            · intro w'
              go_simp
              with_reducible rfl
            rotate_left
            · simp only [Act.put, List.setIfInBounds_toArray, List.set_cons_zero, List.set_cons_succ, i64_w, i32_w]
              rfl
            refine pure_ (i := 3) (N := some 70) (v := ?_) (a' := ?_) #[true, true, true, true, false, false, false, false, false, false, false, false] rfl rfl (by kernel_rfl) (fun _ _ _ h => h) (Or.inl ⟨by rfl, ?_⟩) ?_ ?_
            rotate_left
            · intro w'
              go_simp
              with_reducible rfl
            rotate_left
            · simp only [Act.put, List.setIfInBounds_toArray, List.set_cons_zero, List.set_cons_succ, i64_w, i32_w]
              rfl
            refine pure_ (i := 4) (N := some 71) (v := ?_) (a' := ?_) #[true, true, true, true, true, false, false, false, false, false, false, false] rfl rfl (by kernel_rfl) (fun _ _ _ h => h) (Or.inl ⟨by rfl, ?_⟩) ?_ ?_
            rotate_left
            · intro w'
              go_simp
              with_reducible rfl
            rotate_left
            · simp only [Act.put, List.setIfInBounds_toArray, List.set_cons_zero, List.set_cons_succ, i64_w, i32_w]
              rfl
            refine take_ (i := 5) (N := some 72) (v := ?_) (a' := ?_) #[true, true, true, true, true, true, false, false, false, false, false, false] rfl rfl (by kernel_rfl) (fun _ _ _ h => h) (Or.inl ⟨by rfl, ?_⟩) hHeld ?_ ?_
            rotate_left
            · rintro w' ⟨s0, s1, s2⟩
              go_simp
              with_reducible rfl
            rotate_left
            · simp only [Act.put, List.setIfInBounds_toArray, List.set_cons_zero, List.set_cons_succ, i64_w, i32_w]
              rfl
            refine last_ (i := 6) (N := some 73) #[true, true, true, true, true, true, true, false, false, false, false, false] rfl rfl (by kernel_rfl) (by decide) (fun K hK => ?_)
            refine goes_ Tryd.func86 (by kernel_rfl) rfl #[.int .i64 19, agV a] (by rfl) rfl rfl (by first | rfl | (go_simp; exact ⟨rfl, rfl⟩) | (go_simp; rfl)) ?_
            refine (alone_any 19 a _).mono ?_
            rintro e3 w3 ⟨rfl, hb3⟩
            refine ⟨_, rfl, hK.out _ _ ?_⟩
            clear hK K
            have hb3' : Below w2.heap.size w2 w3 := ((below_drewN' hal 1).trans (hb3.mono (by simp)))
            have HV3 := Lib.hid ((hb3.block w2.heap.size (by simp)).trans HV.out)
            have v0 : w3.cell? ⟨w2.heap.size, 0, none⟩ = some (.int .i64 0) := blk_cell HV3.out 0
            have v1 : w3.cell? ⟨w2.heap.size, 1, none⟩ = some (.int .i64 0) := blk_cell HV3.out 1
            have vf0 : w3.frozen? ⟨w2.heap.size, 0, none⟩ = false := blk_free HV3.out 0
            have vf1 : w3.frozen? ⟨w2.heap.size, 1, none⟩ = false := blk_free HV3.out 1
            clear ca0' ca1' k0' hal hHeld HV hb3
            cases hv : oneE ⟨19, 0, 0⟩ a with
            | ok v =>
              simp only [retE, agV]
              refine pure_ (i := 7) (N := some 66) (v := ?_) (a' := ?_) #[true, true, true, true, true, true, true, true, false, false, false, false] rfl rfl (by kernel_rfl) (fun _ _ _ h => h) (Or.inl ⟨by rfl, ?_⟩) ?_ ?_
              rotate_left
              · intro w'
                go_simp
                with_reducible rfl
              rotate_left
              · simp only [Act.put, List.setIfInBounds_toArray, List.set_cons_zero, List.set_cons_succ, i64_w, i32_w]
                rfl
              refine pure_ (i := 8) (N := some 74) (v := ?_) (a' := ?_) #[true, true, true, true, true, true, true, true, true, false, false, false] rfl rfl (by kernel_rfl) (fun _ _ _ h => h) (Or.inl ⟨by rfl, ?_⟩) ?_ ?_
              rotate_left
              · intro w'
                go_simp
                with_reducible rfl
              rotate_left
              · simp only [Act.put, List.setIfInBounds_toArray, List.set_cons_zero, List.set_cons_succ, i64_w, i32_w]
                rfl
              refine pure_ (i := 9) (N := some 75) (v := ?_) (a' := ?_) #[true, true, true, true, true, true, true, true, true, true, false, false] rfl rfl (by kernel_rfl) (fun _ _ _ h => h) (Or.inl ⟨by rfl, ?_⟩) ?_ ?_
              rotate_left
              · intro w'
                go_simp
                with_reducible rfl
              rotate_left
              · simp only [Act.put, List.setIfInBounds_toArray, List.set_cons_zero, List.set_cons_succ, i64_w, i32_w]
                rfl
              refine last_ (i := 10) (N := none) #[true, true, true, true, true, true, true, true, true, true, true, false] rfl rfl (by kernel_rfl) (by decide) (fun K hK => ?_)
              refine skip_ (w1 := ?_) (by rfl) rfl ?_ ?_
              rotate_left
              · go_simp
                rfl
              refine hK.out _ _ ?_
              clear hK K
              refine pure_ (i := 11) (N := some 13) (v := ?_) (a' := ?_) #[true, true, true, true, true, true, true, true, true, true, true, true] rfl rfl (by kernel_rfl) (fun _ _ _ h => h) (Or.inl ⟨by rfl, ?_⟩) ?_ ?_
              rotate_left
              · intro w'
                go_simp
                with_reducible rfl
              rotate_left
              · simp only [Act.put, List.setIfInBounds_toArray, List.set_cons_zero, List.set_cons_succ, i64_w, i32_w]
                rfl
              refine done_ (by kernel_rfl) ?_
              have HE : Hid (stepE look typed ⟨19, n, c⟩ xs = .ok (r ++ [v])) := Lib.hid (by rw [HXA.out, stepE, step_one _ _ _ e, oneE_kind, hv]; rfl)
              clear hv
              have HSt : Hid (StkV ((w3.setCell ⟨w2.heap.size, 0, none⟩ (.int .i64 v.1)).setCell ⟨w2.heap.size, 1, none⟩ (.int .i64 v.2)) w1.heap.size (.slice (some ⟨g1, 0, none⟩) r.length c1) r) := Lib.hid (own_far (own_far (HR2.out.below hb3') (fun e => absurd (own_lt HR2.out _ e).2 (Nat.lt_irrefl _)) _) (fun e => absurd (own_lt HR2.out _ e).2 (Nat.lt_irrefl _)) _)
              have HBt : Hid (Below w1.heap.size w1 ((w3.setCell ⟨w2.heap.size, 0, none⟩ (.int .i64 v.1)).setCell ⟨w2.heap.size, 1, none⟩ (.int .i64 v.2))) := Lib.hid (below_set2 (HB2.out.trans (hb3'.mono HB2.out.size)) HB2.out.size _ _)
              have HKt : Hid (((w3.setCell ⟨w2.heap.size, 0, none⟩ (.int .i64 v.1)).setCell ⟨w2.heap.size, 1, none⟩ (.int .i64 v.2)).heap[w.heap.size]? = some (.cells #[.int .i64 0, .int .i64 0] 54 (0, 0))) := Lib.hid (blk_far (blk_far ((hb3'.block _ (by omega)).trans HK2.out) (by show w.heap.size ≠ w2.heap.size; omega) _) (by show w.heap.size ≠ w2.heap.size; omega) _)
              have vc0 : ((w3.setCell ⟨w2.heap.size, 0, none⟩ (.int .i64 v.1)).setCell ⟨w2.heap.size, 1, none⟩ (.int .i64 v.2)).cell? ⟨w2.heap.size, 0, none⟩ = some (.int .i64 v.1) := blk_cell (blk_set2 HV3.out _ _) 0
              have vc1 : ((w3.setCell ⟨w2.heap.size, 0, none⟩ (.int .i64 v.1)).setCell ⟨w2.heap.size, 1, none⟩ (.int .i64 v.2)).cell? ⟨w2.heap.size, 1, none⟩ = some (.int .i64 v.2) := blk_cell (blk_set2 HV3.out _ _) 1
              clear HR2 HB2 HK2 HV3 v0 v1 vf0 vf1 hb3'
              have HS4 := HSt
              have HB4 := HBt
              have HK4 := HKt
              have hlw4 := HB4.out.size
              clear HSt HBt HKt
              go_wp2_with (at_builtin; refine app_one rfl (.tmp 90) (.tmp 92) 146 54 (.agg #[.int .i64 0, .int .i64 0]) 2 16 rfl Tryd.underlying146 val_info rfl (by decide) (by decide) w1.heap.size (.slice (some ⟨g1, 0, none⟩) r.length c1) r.length (r.flatMap fun v => [.int .i64 v.1, .int .i64 v.2]) #[.int .i64 v.1, .int .i64 v.2] _ rfl rfl ?aN3 rfl ?aC3 ?aO3 ?aB3 ?aL3 ?_)
              try (case aN3 => first | rfl | simp)
              case aC3 => first | rfl | (intro u hu; simp at hu; rcases hu with rfl | rfl <;> rfl) | (exact ⟨rfl, rfl⟩) | simp
              case aO3 => exact HS4.out
              case aB3 => first | exact HB4.out.size | (have := HB4.out.size; simpa using this)
              case aL3 => omega
              intro v4 w4 hown hchg hat
              have HB5 : Hid (Below w1.heap.size w1 w4) := Lib.hid (HB4.out.trans (hchg.below HB4.out.size (fun k hk e => by have := own_lt HS4.out k e; omega)))
              have hS4 : StkV w4 w1.heap.size v4 (r ++ [v]) := by unfold StkV; simpa using hown
              obtain ⟨A4, c4, rfl⟩ := own_slice hown
              have HS5 := Lib.hid hS4
              clear hown hchg hat hS4 HS4 HK4
              go_wp2_with fail
              go_roundw
              case rel => exact ⟨q + 1, r ++ [v], by go_num, by omega, by simp; omega, ⟨A4, c4, by simp⟩, Lib.hid ⟨by rw [HN.out, HE.out], HS5.out, HB5.out⟩⟩
              case measure => simp [intOf]; omega
            | error x =>
              simp only [retE, agV]
              refine pure_ (i := 7) (N := some 66) (v := ?_) (a' := ?_) #[true, true, true, true, true, true, true, true, false, false, false, false] rfl rfl (by kernel_rfl) (fun _ _ _ h => h) (Or.inl ⟨by rfl, ?_⟩) ?_ ?_
              rotate_left
              · intro w'
                go_simp
                with_reducible rfl
              rotate_left
              · simp only [Act.put, List.setIfInBounds_toArray, List.set_cons_zero, List.set_cons_succ, i64_w, i32_w]
                rfl
              refine pure_ (i := 8) (N := some 74) (v := ?_) (a' := ?_) #[true, true, true, true, true, true, true, true, true, false, false, false] rfl rfl (by kernel_rfl) (fun _ _ _ h => h) (Or.inl ⟨by rfl, ?_⟩) ?_ ?_
              rotate_left
              · intro w'
                go_simp
                with_reducible rfl
              rotate_left
              · simp only [Act.put, List.setIfInBounds_toArray, List.set_cons_zero, List.set_cons_succ, i64_w, i32_w]
                rfl
              refine pure_ (i := 9) (N := some 75) (v := ?_) (a' := ?_) #[true, true, true, true, true, true, true, true, true, true, false, false] rfl rfl (by kernel_rfl) (fun _ _ _ h => h) (Or.inl ⟨by rfl, ?_⟩) ?_ ?_
              rotate_left
              · intro w'
                go_simp
                with_reducible rfl
              rotate_left
              · simp only [Act.put, List.setIfInBounds_toArray, List.set_cons_zero, List.set_cons_succ, i64_w, i32_w]
                rfl
              refine last_ (i := 10) (N := none) #[true, true, true, true, true, true, true, true, true, true, true, false] rfl rfl (by kernel_rfl) (by decide) (fun K hK => ?_)
              refine skip_ (w1 := ?_) (by rfl) rfl ?_ ?_
              rotate_left
              · go_simp
                rfl
              refine hK.out _ _ ?_
              clear hK K
              refine pure_ (i := 11) (N := some 13) (v := ?_) (a' := ?_) #[true, true, true, true, true, true, true, true, true, true, true, true] rfl rfl (by kernel_rfl) (fun _ _ _ h => h) (Or.inl ⟨by rfl, ?_⟩) ?_ ?_
              rotate_left
              · intro w'
                go_simp
                with_reducible rfl
              rotate_left
              · simp only [Act.put, List.setIfInBounds_toArray, List.set_cons_zero, List.set_cons_succ, i64_w, i32_w]
                rfl
              refine done_ (by kernel_rfl) ?_
              have hx9 : (x == 9) = false := by
                have h9 := oneE_nine ⟨19, 0, 0⟩ a true
                rw [hv] at h9
                refine beq_eq_false_iff_ne.mpr (fun e9 => ?_)
                subst e9
                exact absurd h9 (by simp [zeroE])
              have HE : Hid (stepE look typed ⟨19, n, c⟩ xs = .error x) := Lib.hid (by rw [HXA.out, stepE, step_one _ _ _ e, oneE_kind, hv]; rfl)
              clear hv
              have HSt : Hid (StkV ((w3.setCell ⟨w2.heap.size, 0, none⟩ (.int .i64 0)).setCell ⟨w2.heap.size, 1, none⟩ (.int .i64 0)) w1.heap.size (.slice (some ⟨g1, 0, none⟩) r.length c1) r) := Lib.hid (own_far (own_far (HR2.out.below hb3') (fun e => absurd (own_lt HR2.out _ e).2 (Nat.lt_irrefl _)) _) (fun e => absurd (own_lt HR2.out _ e).2 (Nat.lt_irrefl _)) _)
              have HBt : Hid (Below w1.heap.size w1 ((w3.setCell ⟨w2.heap.size, 0, none⟩ (.int .i64 0)).setCell ⟨w2.heap.size, 1, none⟩ (.int .i64 0))) := Lib.hid (below_set2 (HB2.out.trans (hb3'.mono HB2.out.size)) HB2.out.size _ _)
              have HKt : Hid (((w3.setCell ⟨w2.heap.size, 0, none⟩ (.int .i64 0)).setCell ⟨w2.heap.size, 1, none⟩ (.int .i64 0)).heap[w.heap.size]? = some (.cells #[.int .i64 0, .int .i64 0] 54 (0, 0))) := Lib.hid (blk_far (blk_far ((hb3'.block _ (by omega)).trans HK2.out) (by show w.heap.size ≠ w2.heap.size; omega) _) (by show w.heap.size ≠ w2.heap.size; omega) _)
              have HSx := HSt
              have vc0 : ((w3.setCell ⟨w2.heap.size, 0, none⟩ (.int .i64 0)).setCell ⟨w2.heap.size, 1, none⟩ (.int .i64 0)).cell? ⟨w2.heap.size, 0, none⟩ = some (.int .i64 0) := blk_cell (blk_set2 HV3.out _ _) 0
              have vc1 : ((w3.setCell ⟨w2.heap.size, 0, none⟩ (.int .i64 0)).setCell ⟨w2.heap.size, 1, none⟩ (.int .i64 0)).cell? ⟨w2.heap.size, 1, none⟩ = some (.int .i64 0) := blk_cell (blk_set2 HV3.out _ _) 1
              clear HR2 HB2 HK2 HV3 v0 v1 vf0 vf1 hb3'
              obtain ⟨c0, c1', f0', f1'⟩ : _ ∧ _ ∧ _ ∧ _ := ⟨blk_cell HKt.out 0, blk_cell HKt.out 1, blk_free HKt.out 0, blk_free HKt.out 1⟩
              have HB4 := HBt
              have HK4 := HKt
              have hlw4 := HB4.out.size
              clear HSt HBt HKt
              go_wp2_with fail
              refine bodyPost_ret (results_ct rfl _ _ w.heap.size 54 #[.int .i64 _, .int .i64 _] (0, 0) _ rfl (blk_set2 HK4.out _ _) Tryd.underlying54 rfl (by kernel_rfl)) rfl ?_
              exact ⟨by rw [HX.out, value_failE p q HN.out HE.out]; rfl, below_set2 (hbw1.trans (HB4.out.mono hbw1.size)) (Nat.le_refl _) _ _⟩
        · obtain ⟨hk3, hk13⟩ := takes2 e
          simp only at hk3 hk13
          rw [e] at hmay
          have hlf : leafR look ⟨k, n, c⟩ = .tuple #[.agg #[.int .i64 0, .int .i64 0], .bool false, .nilIface] := by rw [leafR, if_neg (by omega)]; rfl
          rw [hlf]
          clear hlf
          obtain ⟨r, a, b, hxa⟩ := two_last xs (by omega)
          obtain ⟨g1, cp1, hv1, _, hcell⟩ := HS2.out.cell (by omega)
          injection hv1 with hv1 _ hv2
          subst hv1 hv2
          have hlr : xs.length = r.length + 2 := by rw [hxa]; simp
          obtain ⟨ca0, ca1⟩ := hcell r.length a (by rw [hxa]; simp)
          obtain ⟨cb0, cb1⟩ := hcell (r.length + 1) b (by rw [hxa, List.getElem?_append_right (by omega)]; simp)
          have HXA := Lib.hid hxa
          have HR2 : Hid (StkV w2 w1.heap.size (.slice (some ⟨g1, 0, none⟩) r.length c1) r) := Lib.hid (by have h := HS2.out; rw [hxa] at h; exact h.cut)
          clear hxa hcell HS2
          have hal : Below w2.heap.size w2 (w2.alloc (.cells #[.int .i64 0, .int .i64 0] 54)) := (Below.refl _ _).alloc (Nat.le_refl _) _
          have k0' := (hal.cell (p := ⟨wr.heap.size, 0, none⟩) hz2).trans k0
          have ca0' := (hal.cell (p := ⟨g1, r.length * 2, none⟩) (World.block_lt_of_cell? _ _ ca0)).trans ca0
          have ca1' := (hal.cell (p := ⟨g1, r.length * 2 + 1, none⟩) (World.block_lt_of_cell? _ _ ca1)).trans ca1
          have cb0' := (hal.cell (p := ⟨g1, (r.length + 1) * 2, none⟩) (World.block_lt_of_cell? _ _ cb0)).trans cb0
          have cb1' := (hal.cell (p := ⟨g1, (r.length + 1) * 2 + 1, none⟩) (World.block_lt_of_cell? _ _ cb1)).trans cb1
          have HV : Hid ((w2.alloc (.cells #[.int .i64 0, .int .i64 0] 54)).heap[w2.heap.size]? = some (.cells #[.int .i64 0, .int .i64 0] 54 (0, 0))) := Lib.hid (blk_new _ _)
          have n19 : (k == 19) = false := beq_eq_false_iff_ne.mpr (by omega)
          have n14 : (k == 14) = false := beq_eq_false_iff_ne.mpr (by omega)
          have e8 : (xs.length : Int) - 1 = (r.length : Int) + 1 := by omega
          have e9 : (r.length : Int) + 2 - 1 = (r.length : Int) + 1 := by omega
          have e10 : (r.length : Int) + 1 - 1 = (r.length : Int) := by omega
          have q1 : (0 ≤ (r.length : Int)) = True := eq_true (by omega)
          have q2 : ((r.length : Int) < (r.length : Int) + 2) = True := eq_true (by omega)
          have q3 : (0 ≤ (r.length : Int) + 1) = True := eq_true (by omega)
          have q4 : ((r.length : Int) + 1 < (r.length : Int) + 2) = True := eq_true (by omega)
          have hrl : r.length ≤ 100 := by omega
          have hg1 : g1 < w2.heap.size := World.block_lt_of_cell? _ _ ca0
          have hng : g1 ≠ w2.heap.size := by omega
          have hnw : wr.heap.size ≠ w2.heap.size := by omega
          have e12 : wrap64 (r.length : Int) = (r.length : Int) := w64 (by omega) (by omega)
          have E12 := Lib.hid e12
          clear e12
          go_wp2_with fail
          refine start_ (n := 17) (S := fun w' => w'.cell? ⟨wr.heap.size, 0, none⟩ = some (.int .i64 k) ∧ w'.cell? ⟨g1, r.length * 2, none⟩ = some (.int .i64 a.1) ∧ w'.cell? ⟨g1, r.length * 2 + 1, none⟩ = some (.int .i64 a.2) ∧ w'.cell? ⟨g1, (r.length + 1) * 2, none⟩ = some (.int .i64 b.1) ∧ w'.cell? ⟨g1, (r.length + 1) * 2 + 1, none⟩ = some (.int .i64 b.2)) (ds := []) #[false, false, false, false, false, false, false, false, false, false, false, false, false, false, false, false, false] (by kernel_rfl) rfl rfl ⟨k0', ca0', ca1', cb0', cb1'⟩ (fun hHeld => ?_)
          refine pure_ (i := 0) (N := some 37) (v := ?_) (a' := ?_) #[true, false, false, false, false, false, false, false, false, false, false, false, false, false, false, false, false] rfl rfl (by kernel_rfl) (fun _ _ _ h => h) (Or.inl ⟨by rfl, ?_⟩) ?_ ?_
          rotate_left
          · intro w'
            go_simp
            with_reducible rfl
          rotate_left
          · simp only [Act.put, List.setIfInBounds_toArray, List.set_cons_zero, List.set_cons_succ, i64_w, i32_w]
            rfl
          refine take_ (i := 1) (N := some 38) (v := ?_) (a' := ?_) #[true, true, false, false, false, false, false, false, false, false, false, false, false, false, false, false, false] rfl rfl (by kernel_rfl) (fun _ _ _ h => h) (Or.inl ⟨by rfl, ?_⟩) hHeld ?_ ?_
          rotate_left
          · rintro w' ⟨s0, s1, s2, s3, s4⟩
            go_simp
            with_reducible rfl
          rotate_left
          · simp only [Act.put, List.setIfInBounds_toArray, List.set_cons_zero, List.set_cons_succ, i64_w, i32_w]
            rfl
          refine pure_ (i := 2) (N := some 39) (v := ?_) (a' := ?_) #[true, true, true, false, false, false, false, false, false, false, false, false, false, false, false, false, false] rfl rfl (by kernel_rfl) (fun _ _ _ h => h) (Or.inl ⟨by rfl, ?_⟩) ?_ ?_
          rotate_left
          · intro w'
            go_simp
            with_reducible rfl
          rotate_left
          · simp only [Act.put, List.setIfInBounds_toArray, List.set_cons_zero, List.set_cons_succ, i64_w, i32_w]
            rfl
          refine pure_ (i := 3) (N := some 40) (v := ?_) (a' := ?_) #[true, true, true, true, false, false, false, false, false, false, false, false, false, false, false, false, false] rfl rfl (by kernel_rfl) (fun _ _ _ h => h) (Or.inl ⟨by rfl, ?_⟩) ?_ ?_
          rotate_left
          · intro w'
            go_simp
            with_reducible rfl
          rotate_left
          · simp only [Act.put, List.setIfInBounds_toArray, List.set_cons_zero, List.set_cons_succ, i64_w, i32_w]
            rfl
          refine pure_ (i := 4) (N := some 41) (v := ?_) (a' := ?_) #[true, true, true, true, true, false, false, false, false, false, false, false, false, false, false, false, false] rfl rfl (by kernel_rfl) (fun _ _ _ h => h) (Or.inl ⟨by rfl, ?_⟩) ?_ ?_
          rotate_left
          · intro w'
            go_simp
            rw [i64_w, E12.out]
          rotate_left
          · simp only [Act.put, List.setIfInBounds_toArray, List.set_cons_zero, List.set_cons_succ, i64_w, i32_w]
            rfl
          refine pure_ (i := 5) (N := some 42) (v := ?_) (a' := ?_) #[true, true, true, true, true, true, false, false, false, false, false, false, false, false, false, false, false] rfl rfl (by kernel_rfl) (fun _ _ _ h => h) (Or.inl ⟨by rfl, ?_⟩) ?_ ?_
          rotate_left
          · intro w'
            go_simp
            with_reducible rfl
          rotate_left
          · simp only [Act.put, List.setIfInBounds_toArray, List.set_cons_zero, List.set_cons_succ, i64_w, i32_w]
            rfl
          refine take_ (i := 6) (N := some 43) (v := ?_) (a' := ?_) #[true, true, true, true, true, true, true, false, false, false, false, false, false, false, false, false, false] rfl rfl (by kernel_rfl) (fun _ _ _ h => h) (Or.inl ⟨by rfl, ?_⟩) hHeld ?_ ?_
          rotate_left
          · rintro w' ⟨s0, s1, s2, s3, s4⟩
            go_simp
            with_reducible rfl
          rotate_left
          · simp only [Act.put, List.setIfInBounds_toArray, List.set_cons_zero, List.set_cons_succ, i64_w, i32_w]
            rfl
          refine pure_ (i := 7) (N := some 44) (v := ?_) (a' := ?_) #[true, true, true, true, true, true, true, true, false, false, false, false, false, false, false, false, false] rfl rfl (by kernel_rfl) (fun _ _ _ h => h) (Or.inl ⟨by rfl, ?_⟩) ?_ ?_
          rotate_left
          · intro w'
            go_simp
            with_reducible rfl
          rotate_left
          · simp only [Act.put, List.setIfInBounds_toArray, List.set_cons_zero, List.set_cons_succ, i64_w, i32_w]
            rfl
          refine pure_ (i := 8) (N := some 45) (v := ?_) (a' := ?_) #[true, true, true, true, true, true, true, true, true, false, false, false, false, false, false, false, false] rfl rfl (by kernel_rfl) (fun _ _ _ h => h) (Or.inl ⟨by rfl, ?_⟩) ?_ ?_
          rotate_left
          · intro w'
            go_simp
            with_reducible rfl
          rotate_left
          · simp only [Act.put, List.setIfInBounds_toArray, List.set_cons_zero, List.set_cons_succ, i64_w, i32_w]
            rfl
          refine pure_ (i := 9) (N := some 46) (v := ?_) (a' := ?_) #[true, true, true, true, true, true, true, true, true, true, false, false, false, false, false, false, false] rfl rfl (by kernel_rfl) (fun _ _ _ h => h) (Or.inl ⟨by rfl, ?_⟩) ?_ ?_
          rotate_left
          · intro w'
            go_simp
            with_reducible rfl
          rotate_left
          · simp only [Act.put, List.setIfInBounds_toArray, List.set_cons_zero, List.set_cons_succ, i64_w, i32_w]
            rfl
          refine take_ (i := 10) (N := some 47) (v := ?_) (a' := ?_) #[true, true, true, true, true, true, true, true, true, true, true, false, false, false, false, false, false] rfl rfl (by kernel_rfl) (fun _ _ _ h => h) (Or.inl ⟨by rfl, ?_⟩) hHeld ?_ ?_
          rotate_left
          · rintro w' ⟨s0, s1, s2, s3, s4⟩
            go_simp
            with_reducible rfl
          rotate_left
          · simp only [Act.put, List.setIfInBounds_toArray, List.set_cons_zero, List.set_cons_succ, i64_w, i32_w]
            rfl
          refine one_ (i := 11) (N := some 48) #[true, true, true, true, true, true, true, true, true, true, true, true, false, false, false, false, false] rfl rfl (by kernel_rfl) (by decide) (fun K hK => ?_)
          refine goes_ Tryd.func87 (by kernel_rfl) rfl #[.int .i64 k, agV a, agV b] (by rfl) rfl rfl (by first | rfl | (go_simp; exact ⟨rfl, rfl⟩) | (go_simp; rfl)) ?_
          refine (both_any k a b _).mono ?_
          rintro e3 w3 ⟨rfl, hb3⟩
          have hS3 : (fun w' : World => w'.cell? ⟨wr.heap.size, 0, none⟩ = some (.int .i64 k) ∧ w'.cell? ⟨g1, r.length * 2, none⟩ = some (.int .i64 a.1) ∧ w'.cell? ⟨g1, r.length * 2 + 1, none⟩ = some (.int .i64 a.2) ∧ w'.cell? ⟨g1, (r.length + 1) * 2, none⟩ = some (.int .i64 b.1) ∧ w'.cell? ⟨g1, (r.length + 1) * 2 + 1, none⟩ = some (.int .i64 b.2)) w3 := ⟨(hb3.cell (p := ⟨wr.heap.size, 0, none⟩) (by simp; omega)).trans k0', (hb3.cell (p := ⟨g1, r.length * 2, none⟩) (by simp; omega)).trans ca0', (hb3.cell (p := ⟨g1, r.length * 2 + 1, none⟩) (by simp; omega)).trans ca1', (hb3.cell (p := ⟨g1, (r.length + 1) * 2, none⟩) (by simp; omega)).trans cb0', (hb3.cell (p := ⟨g1, (r.length + 1) * 2 + 1, none⟩) (by simp; omega)).trans cb1'⟩
          have HS3 := Lib.hid hS3
          refine ⟨_, rfl, hK.out _ _ hS3 (fun _ => ?_)⟩
          clear hK K hS3
          have hb3' : Below w2.heap.size w2 w3 := ((below_drewN' hal 1).trans (hb3.mono (by simp)))
          have HV3 := Lib.hid ((hb3.block w2.heap.size (by simp)).trans HV.out)
          have v0 : w3.cell? ⟨w2.heap.size, 0, none⟩ = some (.int .i64 0) := blk_cell HV3.out 0
          have v1 : w3.cell? ⟨w2.heap.size, 1, none⟩ = some (.int .i64 0) := blk_cell HV3.out 1
          have vf0 : w3.frozen? ⟨w2.heap.size, 0, none⟩ = false := blk_free HV3.out 0
          have vf1 : w3.frozen? ⟨w2.heap.size, 1, none⟩ = false := blk_free HV3.out 1
          clear ca0' ca1' cb0' cb1' k0' hal hHeld HV hb3
          cases hv : bothE k a b with
          | ok v =>
            simp only [retE, agV]
            refine pure_ (i := 12) (N := some 36) (v := ?_) (a' := ?_) #[true, true, true, true, true, true, true, true, true, true, true, true, true, false, false, false, false] rfl rfl (by kernel_rfl) (fun _ _ _ h => h) (Or.inl ⟨by rfl, ?_⟩) ?_ ?_
            rotate_left
            · intro w'
              go_simp
              with_reducible rfl
            rotate_left
            · simp only [Act.put, List.setIfInBounds_toArray, List.set_cons_zero, List.set_cons_succ, i64_w, i32_w]
              rfl
            refine pure_ (i := 13) (N := some 49) (v := ?_) (a' := ?_) #[true, true, true, true, true, true, true, true, true, true, true, true, true, true, false, false, false] rfl rfl (by kernel_rfl) (fun _ _ _ h => h) (Or.inl ⟨by rfl, ?_⟩) ?_ ?_
            rotate_left
            · intro w'
              go_simp
              with_reducible rfl
            rotate_left
            · simp only [Act.put, List.setIfInBounds_toArray, List.set_cons_zero, List.set_cons_succ, i64_w, i32_w]
              rfl
            refine pure_ (i := 14) (N := some 50) (v := ?_) (a' := ?_) #[true, true, true, true, true, true, true, true, true, true, true, true, true, true, true, false, false] rfl rfl (by kernel_rfl) (fun _ _ _ h => h) (Or.inl ⟨by rfl, ?_⟩) ?_ ?_
            rotate_left
            · intro w'
              go_simp
              with_reducible rfl
            rotate_left
            · simp only [Act.put, List.setIfInBounds_toArray, List.set_cons_zero, List.set_cons_succ, i64_w, i32_w]
              rfl
            refine one_ (i := 15) (N := none) #[true, true, true, true, true, true, true, true, true, true, true, true, true, true, true, true, false] rfl rfl (by kernel_rfl) (by decide) (fun K hK => ?_)
            refine skip_ (w1 := ?_) (by rfl) rfl ?_ ?_
            rotate_left
            · go_simp
              rfl
            refine hK.out _ _ ⟨(cell_far (p := ⟨w2.heap.size, _, none⟩) hnw _).trans ((cell_far (p := ⟨w2.heap.size, _, none⟩) hnw _).trans HS3.out.1), (cell_far (p := ⟨w2.heap.size, _, none⟩) hng _).trans ((cell_far (p := ⟨w2.heap.size, _, none⟩) hng _).trans HS3.out.2.1), (cell_far (p := ⟨w2.heap.size, _, none⟩) hng _).trans ((cell_far (p := ⟨w2.heap.size, _, none⟩) hng _).trans HS3.out.2.2.1), (cell_far (p := ⟨w2.heap.size, _, none⟩) hng _).trans ((cell_far (p := ⟨w2.heap.size, _, none⟩) hng _).trans HS3.out.2.2.2.1), (cell_far (p := ⟨w2.heap.size, _, none⟩) hng _).trans ((cell_far (p := ⟨w2.heap.size, _, none⟩) hng _).trans HS3.out.2.2.2.2)⟩ (fun _ => ?_)
            clear hK K
            refine pure_ (i := 16) (N := some 13) (v := ?_) (a' := ?_) #[true, true, true, true, true, true, true, true, true, true, true, true, true, true, true, true, true] rfl rfl (by kernel_rfl) (fun _ _ _ h => h) (Or.inl ⟨by rfl, ?_⟩) ?_ ?_
            rotate_left
            · intro w'
              go_simp
              with_reducible rfl
            rotate_left
            · simp only [Act.put, List.setIfInBounds_toArray, List.set_cons_zero, List.set_cons_succ, i64_w, i32_w]
              rfl
            refine done_ (by kernel_rfl) ?_
            have HE : Hid (stepE look typed ⟨k, n, c⟩ xs = .ok (r ++ [v])) := Lib.hid (by rw [HXA.out, stepE, step_two _ _ _ e, twoE]; simp only; rw [hv]; rfl)
            clear hv
            have HSt : Hid (StkV ((w3.setCell ⟨w2.heap.size, 0, none⟩ (.int .i64 v.1)).setCell ⟨w2.heap.size, 1, none⟩ (.int .i64 v.2)) w1.heap.size (.slice (some ⟨g1, 0, none⟩) r.length c1) r) := Lib.hid (own_far (own_far (HR2.out.below hb3') (fun e => absurd (own_lt HR2.out _ e).2 (Nat.lt_irrefl _)) _) (fun e => absurd (own_lt HR2.out _ e).2 (Nat.lt_irrefl _)) _)
            have HBt : Hid (Below w1.heap.size w1 ((w3.setCell ⟨w2.heap.size, 0, none⟩ (.int .i64 v.1)).setCell ⟨w2.heap.size, 1, none⟩ (.int .i64 v.2))) := Lib.hid (below_set2 (HB2.out.trans (hb3'.mono HB2.out.size)) HB2.out.size _ _)
            have HKt : Hid (((w3.setCell ⟨w2.heap.size, 0, none⟩ (.int .i64 v.1)).setCell ⟨w2.heap.size, 1, none⟩ (.int .i64 v.2)).heap[w.heap.size]? = some (.cells #[.int .i64 0, .int .i64 0] 54 (0, 0))) := Lib.hid (blk_far (blk_far ((hb3'.block _ (by omega)).trans HK2.out) (by show w.heap.size ≠ w2.heap.size; omega) _) (by show w.heap.size ≠ w2.heap.size; omega) _)
            have HVt : Hid (((w3.setCell ⟨w2.heap.size, 0, none⟩ (.int .i64 v.1)).setCell ⟨w2.heap.size, 1, none⟩ (.int .i64 v.2)).heap[w2.heap.size]? = some (.cells #[.int .i64 v.1, .int .i64 v.2] 54 (0, 0))) := Lib.hid (blk_set2 HV3.out _ _)
            have vc0 : ((w3.setCell ⟨w2.heap.size, 0, none⟩ (.int .i64 v.1)).setCell ⟨w2.heap.size, 1, none⟩ (.int .i64 v.2)).cell? ⟨w2.heap.size, 0, none⟩ = some (.int .i64 v.1) := blk_cell HVt.out 0
            have vc1 : ((w3.setCell ⟨w2.heap.size, 0, none⟩ (.int .i64 v.1)).setCell ⟨w2.heap.size, 1, none⟩ (.int .i64 v.2)).cell? ⟨w2.heap.size, 1, none⟩ = some (.int .i64 v.2) := blk_cell HVt.out 1
            clear HR2 HB2 HK2 HV3 v0 v1 vf0 vf1 hb3'
            have HS4 := HSt
            have HB4 := HBt
            have HK4 := HKt
            have hlw4 := HB4.out.size
            clear HSt HBt HKt
            go_wp2_with (at_builtin; refine app_one rfl (.tmp 90) (.tmp 92) 146 54 (.agg #[.int .i64 0, .int .i64 0]) 2 16 rfl Tryd.underlying146 val_info rfl (by decide) (by decide) w1.heap.size (.slice (some ⟨g1, 0, none⟩) r.length c1) r.length (r.flatMap fun v => [.int .i64 v.1, .int .i64 v.2]) #[.int .i64 v.1, .int .i64 v.2] _ rfl rfl ?aN4 rfl ?aC4 ?aO4 ?aB4 ?aL4 ?_)
            try (case aN4 => first | rfl | simp)
            case aC4 => first | rfl | (intro u hu; simp at hu; rcases hu with rfl | rfl <;> rfl) | (exact ⟨rfl, rfl⟩) | simp
            case aO4 => exact HS4.out
            case aB4 => first | exact HB4.out.size | (have := HB4.out.size; simpa using this)
            case aL4 => omega
            intro v4 w4 hown hchg hat
            have HB5 : Hid (Below w1.heap.size w1 w4) := Lib.hid (HB4.out.trans (hchg.below HB4.out.size (fun k hk e => by have := own_lt HS4.out k e; omega)))
            have hS4 : StkV w4 w1.heap.size v4 (r ++ [v]) := by unfold StkV; simpa using hown
            obtain ⟨A4, c4, rfl⟩ := own_slice hown
            have HS5 := Lib.hid hS4
            clear hown hchg hat hS4 HS4 HK4
            go_wp2_with fail
            go_roundw
            case rel => exact ⟨q + 1, r ++ [v], by go_num, by omega, by simp; omega, ⟨A4, c4, by simp⟩, Lib.hid ⟨by rw [HN.out, HE.out], HS5.out, HB5.out⟩⟩
            case measure => simp [intOf]; omega
          | error x =>
            simp only [retE, agV]
            refine pure_ (i := 12) (N := some 36) (v := ?_) (a' := ?_) #[true, true, true, true, true, true, true, true, true, true, true, true, true, false, false, false, false] rfl rfl (by kernel_rfl) (fun _ _ _ h => h) (Or.inl ⟨by rfl, ?_⟩) ?_ ?_
            rotate_left
            · intro w'
              go_simp
              with_reducible rfl
            rotate_left
            · simp only [Act.put, List.setIfInBounds_toArray, List.set_cons_zero, List.set_cons_succ, i64_w, i32_w]
              rfl
            refine pure_ (i := 13) (N := some 49) (v := ?_) (a' := ?_) #[true, true, true, true, true, true, true, true, true, true, true, true, true, true, false, false, false] rfl rfl (by kernel_rfl) (fun _ _ _ h => h) (Or.inl ⟨by rfl, ?_⟩) ?_ ?_
            rotate_left
            · intro w'
              go_simp
              with_reducible rfl
            rotate_left
            · simp only [Act.put, List.setIfInBounds_toArray, List.set_cons_zero, List.set_cons_succ, i64_w, i32_w]
              rfl
            refine pure_ (i := 14) (N := some 50) (v := ?_) (a' := ?_) #[true, true, true, true, true, true, true, true, true, true, true, true, true, true, true, false, false] rfl rfl (by kernel_rfl) (fun _ _ _ h => h) (Or.inl ⟨by rfl, ?_⟩) ?_ ?_
            rotate_left
            · intro w'
              go_simp
              with_reducible rfl
            rotate_left
            · simp only [Act.put, List.setIfInBounds_toArray, List.set_cons_zero, List.set_cons_succ, i64_w, i32_w]
              rfl
            refine one_ (i := 15) (N := none) #[true, true, true, true, true, true, true, true, true, true, true, true, true, true, true, true, false] rfl rfl (by kernel_rfl) (by decide) (fun K hK => ?_)
            refine skip_ (w1 := ?_) (by rfl) rfl ?_ ?_
            rotate_left
            · go_simp
              rfl
            refine hK.out _ _ ⟨(cell_far (p := ⟨w2.heap.size, _, none⟩) hnw _).trans ((cell_far (p := ⟨w2.heap.size, _, none⟩) hnw _).trans HS3.out.1), (cell_far (p := ⟨w2.heap.size, _, none⟩) hng _).trans ((cell_far (p := ⟨w2.heap.size, _, none⟩) hng _).trans HS3.out.2.1), (cell_far (p := ⟨w2.heap.size, _, none⟩) hng _).trans ((cell_far (p := ⟨w2.heap.size, _, none⟩) hng _).trans HS3.out.2.2.1), (cell_far (p := ⟨w2.heap.size, _, none⟩) hng _).trans ((cell_far (p := ⟨w2.heap.size, _, none⟩) hng _).trans HS3.out.2.2.2.1), (cell_far (p := ⟨w2.heap.size, _, none⟩) hng _).trans ((cell_far (p := ⟨w2.heap.size, _, none⟩) hng _).trans HS3.out.2.2.2.2)⟩ (fun _ => ?_)
            clear hK K
            refine pure_ (i := 16) (N := some 13) (v := ?_) (a' := ?_) #[true, true, true, true, true, true, true, true, true, true, true, true, true, true, true, true, true] rfl rfl (by kernel_rfl) (fun _ _ _ h => h) (Or.inl ⟨by rfl, ?_⟩) ?_ ?_
            rotate_left
            · intro w'
              go_simp
              with_reducible rfl
            rotate_left
            · simp only [Act.put, List.setIfInBounds_toArray, List.set_cons_zero, List.set_cons_succ, i64_w, i32_w]
              rfl
            refine done_ (by kernel_rfl) ?_
            by_cases h9 : x = 9
            · subst h9
              cases typed with
              | false =>
                have HE : Hid (stepE look false ⟨k, n, c⟩ xs = .error 9) := Lib.hid (by rw [HXA.out, stepE, step_two _ _ _ e, twoE]; simp only; rw [hv]; rfl)
                clear hv
                have HSt : Hid (StkV ((w3.setCell ⟨w2.heap.size, 0, none⟩ (.int .i64 0)).setCell ⟨w2.heap.size, 1, none⟩ (.int .i64 0)) w1.heap.size (.slice (some ⟨g1, 0, none⟩) r.length c1) r) := Lib.hid (own_far (own_far (HR2.out.below hb3') (fun e => absurd (own_lt HR2.out _ e).2 (Nat.lt_irrefl _)) _) (fun e => absurd (own_lt HR2.out _ e).2 (Nat.lt_irrefl _)) _)
                have HBt : Hid (Below w1.heap.size w1 ((w3.setCell ⟨w2.heap.size, 0, none⟩ (.int .i64 0)).setCell ⟨w2.heap.size, 1, none⟩ (.int .i64 0))) := Lib.hid (below_set2 (HB2.out.trans (hb3'.mono HB2.out.size)) HB2.out.size _ _)
                have HKt : Hid (((w3.setCell ⟨w2.heap.size, 0, none⟩ (.int .i64 0)).setCell ⟨w2.heap.size, 1, none⟩ (.int .i64 0)).heap[w.heap.size]? = some (.cells #[.int .i64 0, .int .i64 0] 54 (0, 0))) := Lib.hid (blk_far (blk_far ((hb3'.block _ (by omega)).trans HK2.out) (by show w.heap.size ≠ w2.heap.size; omega) _) (by show w.heap.size ≠ w2.heap.size; omega) _)
                have HVt : Hid (((w3.setCell ⟨w2.heap.size, 0, none⟩ (.int .i64 0)).setCell ⟨w2.heap.size, 1, none⟩ (.int .i64 0)).heap[w2.heap.size]? = some (.cells #[.int .i64 0, .int .i64 0] 54 (0, 0))) := Lib.hid (blk_set2 HV3.out _ _)
                have vc0 : ((w3.setCell ⟨w2.heap.size, 0, none⟩ (.int .i64 0)).setCell ⟨w2.heap.size, 1, none⟩ (.int .i64 0)).cell? ⟨w2.heap.size, 0, none⟩ = some (.int .i64 0) := blk_cell HVt.out 0
                have vc1 : ((w3.setCell ⟨w2.heap.size, 0, none⟩ (.int .i64 0)).setCell ⟨w2.heap.size, 1, none⟩ (.int .i64 0)).cell? ⟨w2.heap.size, 1, none⟩ = some (.int .i64 0) := blk_cell HVt.out 1
                clear HR2 HB2 HK2 HV3 v0 v1 vf0 vf1 hb3'
                obtain ⟨c0, c1', f0', f1'⟩ : _ ∧ _ ∧ _ ∧ _ := ⟨blk_cell HKt.out 0, blk_cell HKt.out 1, blk_free HKt.out 0, blk_free HKt.out 1⟩
                have HB4 := HBt
                have HK4 := HKt
                have hlw4 := HB4.out.size
                clear HSt HBt HKt
                go_wp2_with fail
                refine bodyPost_ret (results_ct rfl _ _ w.heap.size 54 #[.int .i64 _, .int .i64 _] (0, 0) _ rfl (blk_set2 HK4.out _ _) Tryd.underlying54 rfl (by kernel_rfl)) rfl ?_
                exact ⟨by rw [HX.out, value_failE p q HN.out HE.out]; rfl, below_set2 (hbw1.trans (HB4.out.mono hbw1.size)) (Nat.le_refl _) _ _⟩
              | true =>
                have HE : Hid (stepE look true ⟨k, n, c⟩ xs = .ok (r ++ [((1, 0) : V)])) := Lib.hid (by rw [HXA.out, stepE, step_two _ _ _ e, twoE]; simp only; rw [hv]; rfl)
                clear hv
                have hown2 := fun k hk => (own_lt HR2.out k hk).2
                have HSt : Hid (StkV ((w3.setCell ⟨w2.heap.size, 0, none⟩ (.int .i64 0)).setCell ⟨w2.heap.size, 1, none⟩ (.int .i64 0)) w1.heap.size (.slice (some ⟨g1, 0, none⟩) r.length c1) r) := Lib.hid (own_far (own_far (HR2.out.below hb3') (fun e => absurd (own_lt HR2.out _ e).2 (Nat.lt_irrefl _)) _) (fun e => absurd (own_lt HR2.out _ e).2 (Nat.lt_irrefl _)) _)
                have HBt : Hid (Below w1.heap.size w1 ((w3.setCell ⟨w2.heap.size, 0, none⟩ (.int .i64 0)).setCell ⟨w2.heap.size, 1, none⟩ (.int .i64 0))) := Lib.hid (below_set2 (HB2.out.trans (hb3'.mono HB2.out.size)) HB2.out.size _ _)
                have HKt : Hid (((w3.setCell ⟨w2.heap.size, 0, none⟩ (.int .i64 0)).setCell ⟨w2.heap.size, 1, none⟩ (.int .i64 0)).heap[w.heap.size]? = some (.cells #[.int .i64 0, .int .i64 0] 54 (0, 0))) := Lib.hid (blk_far (blk_far ((hb3'.block _ (by omega)).trans HK2.out) (by show w.heap.size ≠ w2.heap.size; omega) _) (by show w.heap.size ≠ w2.heap.size; omega) _)
                have HVt : Hid (((w3.setCell ⟨w2.heap.size, 0, none⟩ (.int .i64 0)).setCell ⟨w2.heap.size, 1, none⟩ (.int .i64 0)).heap[w2.heap.size]? = some (.cells #[.int .i64 0, .int .i64 0] 54 (0, 0))) := Lib.hid (blk_set2 HV3.out _ _)
                have vc0 : ((w3.setCell ⟨w2.heap.size, 0, none⟩ (.int .i64 0)).setCell ⟨w2.heap.size, 1, none⟩ (.int .i64 0)).cell? ⟨w2.heap.size, 0, none⟩ = some (.int .i64 0) := blk_cell HVt.out 0
                have vc1 : ((w3.setCell ⟨w2.heap.size, 0, none⟩ (.int .i64 0)).setCell ⟨w2.heap.size, 1, none⟩ (.int .i64 0)).cell? ⟨w2.heap.size, 1, none⟩ = some (.int .i64 0) := blk_cell HVt.out 1
                clear HR2 HB2 HK2 HV3 v0 v1 vf0 vf1 hb3'
                go_wp2_with fail
                refine (whole_any 0 _).mono ?_
                rintro e5 w5 ⟨rfl, hb5⟩
                have HV5 := Lib.hid ((hb5.block w2.heap.size (lt_of_block HVt.out)).trans HVt.out)
                have z0 : w5.cell? ⟨w2.heap.size, 0, none⟩ = some (.int .i64 0) := blk_cell HV5.out 0
                have z1 : w5.cell? ⟨w2.heap.size, 1, none⟩ = some (.int .i64 0) := blk_cell HV5.out 1
                have zf0 : w5.frozen? ⟨w2.heap.size, 0, none⟩ = false := blk_free HV5.out 0
                have zf1 : w5.frozen? ⟨w2.heap.size, 1, none⟩ = false := blk_free HV5.out 1
                have HSt5 := Lib.hid (HSt.out.below hb5)
                have HBt5 := Lib.hid (HBt.out.trans (hb5.mono HBt.out.size))
                have HKt5 := Lib.hid ((hb5.block _ (lt_of_block HKt.out)).trans HKt.out)
                have hnb : ∀ k, (Value.slice (some ⟨g1, 0, none⟩) r.length c1).ownBlock = some k → k < w2.heap.size := hown2
                have HNB := Lib.hid hnb
                clear HSt HBt HKt HVt vc0 vc1 hb5 hown2 hnb
                have HSt : Hid (StkV ((w5.setCell ⟨w2.heap.size, 0, none⟩ (.int .i64 1)).setCell ⟨w2.heap.size, 1, none⟩ (.int .i64 0)) w1.heap.size (.slice (some ⟨g1, 0, none⟩) r.length c1) r) := Lib.hid (own_far (own_far HSt5.out (fun e => absurd (HNB.out _ e) (Nat.lt_irrefl _)) _) (fun e => absurd (HNB.out _ e) (Nat.lt_irrefl _)) _)
                have HBt : Hid (Below w1.heap.size w1 ((w5.setCell ⟨w2.heap.size, 0, none⟩ (.int .i64 1)).setCell ⟨w2.heap.size, 1, none⟩ (.int .i64 0))) := Lib.hid (below_set2 HBt5.out hlw _ _)
                have HKt : Hid (((w5.setCell ⟨w2.heap.size, 0, none⟩ (.int .i64 1)).setCell ⟨w2.heap.size, 1, none⟩ (.int .i64 0)).heap[w.heap.size]? = some (.cells #[.int .i64 0, .int .i64 0] 54 (0, 0))) := Lib.hid (blk_far (blk_far HKt5.out (by show w.heap.size ≠ w2.heap.size; omega) _) (by show w.heap.size ≠ w2.heap.size; omega) _)
                have vc0 : ((w5.setCell ⟨w2.heap.size, 0, none⟩ (.int .i64 1)).setCell ⟨w2.heap.size, 1, none⟩ (.int .i64 0)).cell? ⟨w2.heap.size, 0, none⟩ = some (.int .i64 1) := blk_cell (blk_set2 HV5.out _ _) 0
                have vc1 : ((w5.setCell ⟨w2.heap.size, 0, none⟩ (.int .i64 1)).setCell ⟨w2.heap.size, 1, none⟩ (.int .i64 0)).cell? ⟨w2.heap.size, 1, none⟩ = some (.int .i64 0) := blk_cell (blk_set2 HV5.out _ _) 1
                clear HSt5 HBt5 HKt5 HV5 HNB
                simp only [agV, wholeV]
                have HS4 := HSt
                have HB4 := HBt
                have HK4 := HKt
                have hlw4 := HB4.out.size
                clear HSt HBt HKt
                go_wp2_with (at_builtin; refine app_one rfl (.tmp 90) (.tmp 92) 146 54 (.agg #[.int .i64 0, .int .i64 0]) 2 16 rfl Tryd.underlying146 val_info rfl (by decide) (by decide) w1.heap.size (.slice (some ⟨g1, 0, none⟩) r.length c1) r.length (r.flatMap fun v => [.int .i64 v.1, .int .i64 v.2]) #[.int .i64 1, .int .i64 0] _ rfl rfl ?aN5 rfl ?aC5 ?aO5 ?aB5 ?aL5 ?_)
                try (case aN5 => first | rfl | simp)
                case aC5 => first | rfl | (intro u hu; simp at hu; rcases hu with rfl | rfl <;> rfl) | (exact ⟨rfl, rfl⟩) | simp
                case aO5 => exact HS4.out
                case aB5 => first | exact HB4.out.size | (have := HB4.out.size; simpa using this)
                case aL5 => omega
                intro v4 w4 hown hchg hat
                have HB5 : Hid (Below w1.heap.size w1 w4) := Lib.hid (HB4.out.trans (hchg.below HB4.out.size (fun k hk e => by have := own_lt HS4.out k e; omega)))
                have hS4 : StkV w4 w1.heap.size v4 (r ++ [((1, 0) : V)]) := by unfold StkV; simpa using hown
                obtain ⟨A4, c4, rfl⟩ := own_slice hown
                have HS5 := Lib.hid hS4
                clear hown hchg hat hS4 HS4 HK4
                go_wp2_with fail
                go_roundw
                case rel => exact ⟨q + 1, r ++ [((1, 0) : V)], by go_num, by omega, by simp; omega, ⟨A4, c4, by simp⟩, Lib.hid ⟨by rw [HN.out, HE.out], HS5.out, HB5.out⟩⟩
                case measure => simp [intOf]; omega
            · have hx9 : (x == 9) = false := beq_eq_false_iff_ne.mpr h9
              have HE : Hid (stepE look typed ⟨k, n, c⟩ xs = .error x) := Lib.hid (by rw [HXA.out, stepE, step_two _ _ _ e, twoE]; simp only; rw [hv]; simp only [zeroE]; rw [if_neg (by simp [h9])]; rfl)
              clear hv
              have HSt : Hid (StkV ((w3.setCell ⟨w2.heap.size, 0, none⟩ (.int .i64 0)).setCell ⟨w2.heap.size, 1, none⟩ (.int .i64 0)) w1.heap.size (.slice (some ⟨g1, 0, none⟩) r.length c1) r) := Lib.hid (own_far (own_far (HR2.out.below hb3') (fun e => absurd (own_lt HR2.out _ e).2 (Nat.lt_irrefl _)) _) (fun e => absurd (own_lt HR2.out _ e).2 (Nat.lt_irrefl _)) _)
              have HBt : Hid (Below w1.heap.size w1 ((w3.setCell ⟨w2.heap.size, 0, none⟩ (.int .i64 0)).setCell ⟨w2.heap.size, 1, none⟩ (.int .i64 0))) := Lib.hid (below_set2 (HB2.out.trans (hb3'.mono HB2.out.size)) HB2.out.size _ _)
              have HKt : Hid (((w3.setCell ⟨w2.heap.size, 0, none⟩ (.int .i64 0)).setCell ⟨w2.heap.size, 1, none⟩ (.int .i64 0)).heap[w.heap.size]? = some (.cells #[.int .i64 0, .int .i64 0] 54 (0, 0))) := Lib.hid (blk_far (blk_far ((hb3'.block _ (by omega)).trans HK2.out) (by show w.heap.size ≠ w2.heap.size; omega) _) (by show w.heap.size ≠ w2.heap.size; omega) _)
              have HVt : Hid (((w3.setCell ⟨w2.heap.size, 0, none⟩ (.int .i64 0)).setCell ⟨w2.heap.size, 1, none⟩ (.int .i64 0)).heap[w2.heap.size]? = some (.cells #[.int .i64 0, .int .i64 0] 54 (0, 0))) := Lib.hid (blk_set2 HV3.out _ _)
              have vc0 : ((w3.setCell ⟨w2.heap.size, 0, none⟩ (.int .i64 0)).setCell ⟨w2.heap.size, 1, none⟩ (.int .i64 0)).cell? ⟨w2.heap.size, 0, none⟩ = some (.int .i64 0) := blk_cell HVt.out 0
              have vc1 : ((w3.setCell ⟨w2.heap.size, 0, none⟩ (.int .i64 0)).setCell ⟨w2.heap.size, 1, none⟩ (.int .i64 0)).cell? ⟨w2.heap.size, 1, none⟩ = some (.int .i64 0) := blk_cell HVt.out 1
              clear HR2 HB2 HK2 HV3 v0 v1 vf0 vf1 hb3'
              obtain ⟨c0, c1', f0', f1'⟩ : _ ∧ _ ∧ _ ∧ _ := ⟨blk_cell HKt.out 0, blk_cell HKt.out 1, blk_free HKt.out 0, blk_free HKt.out 1⟩
              have HB4 := HBt
              have HK4 := HKt
              have hlw4 := HB4.out.size
              clear HSt HBt HKt
              go_wp2_with fail
              refine bodyPost_ret (results_ct rfl _ _ w.heap.size 54 #[.int .i64 _, .int .i64 _] (0, 0) _ rfl (blk_set2 HK4.out _ _) Tryd.underlying54 rfl (by kernel_rfl)) rfl ?_
              exact ⟨by rw [HX.out, value_failE p q HN.out HE.out]; rfl, below_set2 (hbw1.trans (HB4.out.mono hbw1.size)) (Nat.le_refl _) _ _⟩
      · obtain rfl : q = p.length := by omega
        rw [List.take_length] at hrun'
        have h1 := runs_len _ _ _ p [] xs 1 hrun' (by simpa using HM.out)
        obtain ⟨v, rfl⟩ : ∃ v, xs = [v] := by
          match xs, h1 with
          | [v], _ => exact ⟨v, rfl⟩
          | [], h => simp at h
          | _ :: _ :: _, h => simp at h; omega
        obtain ⟨g1, cp1, hv1, _, hcell⟩ := hst.cell (by simp)
        injection hv1 with hv1 _ hv2
        subst hv1 hv2
        obtain ⟨d0, d1⟩ := hcell 0 v rfl
        simp only [Nat.zero_mul, Nat.zero_add] at d0 d1
        have hv : runR look typed p = .ok v := by
          rw [HX.out]
          unfold valueE value
          rw [show runs (leafE look) oneE (twoE typed) p [] = .ok [v] from hrun']
          rfl
        have HV := Lib.hid hv
        have HBR := Lib.hid hbwr
        obtain ⟨c0, c1', f0', f1'⟩ : _ ∧ _ ∧ _ ∧ _ := ⟨blk_cell HKr.out 0, blk_cell HKr.out 1, blk_free HKr.out 0, blk_free HKr.out 1⟩
        clear hrun' hst hcell hv HX hbr hbwr
        have p1 : ((p.length : Int) < (p.length : Int)) = False := eq_false (by omega)
        go_wp2_with fail
        refine bodyPost_ret (results_ct rfl _ _ w.heap.size 54 #[.int .i64 _, .int .i64 _] (0, 0) _ rfl (blk_set2 HKr.out _ _) Tryd.underlying54 rfl (by kernel_rfl)) rfl ?_
        exact ⟨by rw [HV.out]; rfl, below_set2 HBR.out (Nat.le_refl _) _ _⟩
end Go.Proofs.YtldcplgfkcionaaDoor
