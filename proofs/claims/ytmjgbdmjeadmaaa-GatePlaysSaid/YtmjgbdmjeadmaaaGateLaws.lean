/- The walks of the two laws on gates: each returns true, whatever the deeds. -/
import Derived.Test.YtmjgbdmjeadmaaaGate
namespace Go.Proofs.Ytmjgbdmjeadmaaa
open Go.RowKit
theorem gate_up (w : World) : Calls Try.prog 27 #[] w fun e w' => e = .returned (.bool true) ∧ Below w.heap.size w w' := by
  have he := eqErr
  have hu24 := Try.underlying24
  go_enter Try.func27, Try.ntmps27
  go_wp2
  go_ret
  exact ⟨rfl, by repeat (first | exact Below.refl _ _ | (refine Below.alloc ?_ (Nat.le_refl _) _) | (refine Below.setCell ?_ (Nat.le_refl _) _))⟩
theorem gate_pick (c : Int) (w : World) (h1 : -9223372036854775808 ≤ c) (h2 : c ≤ 9223372036854775807) : Calls Try.prog 28 #[.int .i64 c, .int .i64 3] w fun e w' => ∃ r : Int, e = .returned (.int .i64 r) ∧ (r = 0 ∨ r = 1 ∨ r = 2) ∧ w = w' := by
  by_cases h : c < 0
  all_goals
    go_enter Try.func28, Try.ntmps28
    go_wp2
    go_ret
    first
    | exact ⟨_, rfl, by omega, rfl⟩
    | (have k := tmod_neg (c + 1) 3 (by omega)
       exact ⟨_, rfl, by omega, rfl⟩)
def RDeed20 : Rep (Int × Bool × Unit) := (Rep.int .i64).pair (Rep.bool.pair Rep.unit)
theorem RDeed20.open {F : Nat → Prop} {w : World} {c : List Value} {x : Int × Bool × Unit} (h : RDeed20.ok F w c x) : c = [.int .i64 x.1, .bool x.2.1] ∧ (Lit.int .i64 x.1).wf = true := by
  obtain ⟨c1, d1, rfl, _, ⟨rfl, hw⟩, c2, d2, rfl, _, rfl, rfl⟩ := h
  exact ⟨rfl, hw⟩
theorem RDeed20.reads : Reads Try.prog 39 RDeed20 :=
  reads_struct Try.underlying39 (fields_cons rfl (reads_int Try.underlying3 (by kernel_rfl)) (fields_cons rfl (reads_bool Try.underlying4 (by kernel_rfl)) (fields_nil _ _))) (by kernel_rfl)
theorem deed20_at {w : World} {v : Value} {xs : List (Int × Bool × Unit)} (h : RDeed20.slice.ok (fun b => b < w.heap.size) w [v] xs) :
    ∃ A cap, v = .slice A xs.length cap ∧ (0 < xs.length → ∃ b off, A = some ⟨b, off, none⟩ ∧ b < w.heap.size ∧
      ∀ i (hi : i < xs.length), w.cell? ⟨b, off + i * 2, none⟩ = some (.int .i64 xs[i].1) ∧ w.cell? ⟨b, off + i * 2 + 1, none⟩ = some (.bool xs[i].2.1) ∧ (Lit.int .i64 xs[i].1).wf = true) := by
  obtain ⟨A, cap, hv, hA⟩ := Rep.slice_open h
  refine ⟨A, cap, hv, fun h0 => ?_⟩
  obtain ⟨b, off, hA1, hb, hlt, _, _, hel⟩ := hA h0
  refine ⟨b, off, hA1, hlt, fun i hi => ?_⟩
  obtain ⟨c, hc, hcell, hok⟩ := hel i hi
  obtain ⟨rfl, hw⟩ := RDeed20.open hok
  exact ⟨hcell 0 (by simp), hcell 1 (by simp), hw⟩
set_option maxHeartbeats 4000000 in
set_option maxRecDepth 100000 in
theorem GatePlays_walk (w : World) (v : Value) (xs : List (Int × Bool × Unit)) (h : RDeed20.slice.ok (fun b => b < w.heap.size) w [v] xs) :
    Calls Try.prog 7 #[v] w fun e w' => e = .returned (.bool true) ∧ Below w.heap.size w w' := by
  have he := neErr
  have he2 := neErrNil
  have hu24 := Try.underlying24
  obtain ⟨A, cap, rfl, hA0⟩ := deed20_at h
  have HA := Lib.hid hA0
  clear h hA0
  by_cases hlen : 500 < xs.length
  · go_enter Try.func7, Try.ntmps7
    go_wp2_with (go_at_call 27; refine (gate_up _).mono ?_; rintro e w1 ⟨rfl, hb1⟩)
    go_ret
    exact ⟨rfl, hb1⟩
  · go_enter Try.func7, Try.ntmps7
    go_wp2_with (go_at_call 27; refine (gate_up _).mono ?_; rintro e w1 ⟨rfl, hb1⟩)
    have hle := hb1.size
    go_loopw [5, 6] (fun s i wr => ∃ (k : Nat) (z : Int), k ≤ xs.length ∧ i = .int .i64 k ∧ 0 ≤ z ∧ z ≤ 3 ∧ s = .int .i64 z ∧ IsGate wr w1.heap.size z ∧ Below w.heap.size w wr) (fun _ i _ => xs.length - (intOf i).toNat)
    case atStart => exact ⟨0, 0, Nat.zero_le _, rfl, by omega, by omega, rfl, blk_new _ _, hb1.alloc hle _⟩
    case round =>
      obtain ⟨k, z, hk, rfl, hz0, hz3, rfl, hg, hb⟩ := hrel
      by_cases hlt : k < xs.length
      · obtain ⟨b, off, rfl, hbl, hel⟩ := HA.out (by omega)
        obtain ⟨c0, c1, hw⟩ := hel k hlt
        obtain ⟨q1, q2⟩ := bounds_i64 hw
        have c0' := (hb.cell (p := ⟨b, off + k * 2, none⟩) hbl).trans c0
        have c1' := (hb.cell (p := ⟨b, off + k * 2 + 1, none⟩) hbl).trans c1
        clear c0 c1 hel hw
        generalize xs[k].1 = q at *
        generalize xs[k].2.1 = m at *
        have hbs := hb.size
        go_wp2_with fail
        refine (gate_pick _ _ q1 q2).mono ?_
        rintro e w2 ⟨r, rfl, hr, rfl⟩
        rcases hr with rfl | rfl | rfl
        · rcases four hz0 hz3 with rfl | rfl | rfl | rfl
          all_goals
            go_wp2_with fail
            refine (gate_wake _ _ _ (by omega) (by omega) hg).mono ?_
            rintro e w3 ⟨rfl, hg3, hc3⟩
            simp [gWake] at hg3
            go_wp2_with fail
            refine (gate_state _ _ _ hg3).mono ?_
            rintro e w4 ⟨rfl, rfl⟩
            go_wp2
            go_roundw
            case rel => exact ⟨k + 1, _, by omega, by go_num, by omega, by omega, rfl, hg3, hb.trans (hc3.below hbs (fun j hj e => by omega))⟩
            case measure => simp [intOf]; omega
        · rcases four hz0 hz3 with rfl | rfl | rfl | rfl
          all_goals
            go_wp2_with fail
            refine (gate_begin _ _ _ (by omega) (by omega) hg).mono ?_
            rintro e w3 ⟨rfl, hg3, hc3⟩
            simp at hg3
            go_wp2_with fail
            refine (gate_state _ _ _ hg3).mono ?_
            rintro e w4 ⟨rfl, rfl⟩
            go_wp2
            go_roundw
            case rel => exact ⟨k + 1, _, by omega, by go_num, by omega, by omega, rfl, hg3, hb.trans (hc3.below hbs (fun j hj e => by omega))⟩
            case measure => simp [intOf]; omega
        · rcases four hz0 hz3 with rfl | rfl | rfl | rfl <;> cases m
          all_goals
            go_wp2_with fail
            refine (gate_end _ _ _ _ (by omega) (by omega) hg).mono ?_
            rintro e w3 ⟨rfl, hg3, hc3⟩
            simp [gEnd] at hg3
            have c1'' := (hc3.cell (p := ⟨b, off + k * 2 + 1, none⟩) (Nat.lt_of_lt_of_le hbl hbs) (by simp; omega)).trans c1'
            go_wp2_with fail
            first
            | ((with_reducible refine (gate_state _ _ _ hg3).mono ?_)
               rintro e w4 ⟨rfl, rfl⟩
               go_wp2
               go_roundw
               case rel => exact ⟨k + 1, _, by omega, by go_num, by omega, by omega, rfl, hg3, hb.trans (hc3.below hbs (fun j hj e => by omega))⟩
               case measure => simp [intOf]; omega)
            | (go_roundw
               case rel => exact ⟨k + 1, _, by omega, by go_num, by omega, by omega, rfl, hg3, hb.trans (hc3.below hbs (fun j hj e => by omega))⟩
               case measure => simp [intOf]; omega)
      · go_wp2
        go_ret
        exact ⟨rfl, hb⟩
/-- How often it was to be queued, was begun, and was ended, in state z. -/
def gOk (z Q B E : Int) : Prop := (z = 0 ∧ Q = E ∧ B = E) ∨ (z = 1 ∧ Q = E + 1 ∧ B = E) ∨ (z = 2 ∧ Q = E + 1 ∧ B = E + 1) ∨ (z = 3 ∧ Q = E + 1 ∧ B = E + 1)
set_option maxHeartbeats 4000000 in
set_option maxRecDepth 100000 in
theorem GateOnce_walk (w : World) (v : Value) (xs : List (Int × Bool × Unit)) (h : RDeed20.slice.ok (fun b => b < w.heap.size) w [v] xs) :
    Calls Try.prog 8 #[v] w fun e w' => e = .returned (.bool true) ∧ Below w.heap.size w w' := by
  have hen : ∀ (w : World) (v : Value), (binOp .eql 24 (.iface 27 v) .nilIface).run Try.prog w = .ok (.bool false) w := fun w v => run_eql_held_nil w _ _ _ Try.underlying24
  have hu24 := Try.underlying24
  obtain ⟨A, cap, rfl, hA0⟩ := deed20_at h
  have HA := Lib.hid hA0
  clear h hA0
  by_cases hlen : 500 < xs.length
  · go_enter Try.func8, Try.ntmps8
    go_wp2_with (go_at_call 27; refine (gate_up _).mono ?_; rintro e w1 ⟨rfl, hb1⟩)
    go_ret
    exact ⟨rfl, hb1⟩
  · go_enter Try.func8, Try.ntmps8
    go_wp2_with (go_at_call 27; refine (gate_up _).mono ?_; rintro e w1 ⟨rfl, hb1⟩)
    have hle := hb1.size
    go_loopw [5, 6, 7, 8] (fun s1 s2 s3 i wr => ∃ (k : Nat) (z Q B E : Int), k ≤ xs.length ∧ i = .int .i64 k ∧ s1 = .int .i64 Q ∧ s2 = .int .i64 B ∧ s3 = .int .i64 E ∧ gOk z Q B E ∧ 0 ≤ E ∧ E ≤ k ∧ IsGate wr w1.heap.size z ∧ Below w.heap.size w wr) (fun _ _ _ i _ => xs.length - (intOf i).toNat)
    case atStart => exact ⟨0, 0, 0, 0, 0, Nat.zero_le _, rfl, rfl, rfl, rfl, by unfold gOk; omega, by omega, by omega, blk_new _ _, hb1.alloc hle _⟩
    case round =>
      obtain ⟨k, z, Q, B, E, hk, rfl, rfl, rfl, rfl, hq, hE0, hE1, hg, hb⟩ := hrel
      by_cases hlt : k < xs.length
      · obtain ⟨b, off, rfl, hbl, hel⟩ := HA.out (by omega)
        obtain ⟨c0, c1, hw⟩ := hel k hlt
        obtain ⟨q1, q2⟩ := bounds_i64 hw
        have c0' := (hb.cell (p := ⟨b, off + k * 2, none⟩) hbl).trans c0
        have c1' := (hb.cell (p := ⟨b, off + k * 2 + 1, none⟩) hbl).trans c1
        clear c0 c1 hel hw
        generalize xs[k].1 = q at *
        generalize xs[k].2.1 = m at *
        have hbs := hb.size
        go_wp2_with fail
        refine (gate_pick _ _ q1 q2).mono ?_
        rintro e w2 ⟨r, rfl, hr, rfl⟩
        rcases hr with rfl | rfl | rfl
        · rcases hq with ⟨rfl, rfl, rfl⟩ | ⟨rfl, rfl, rfl⟩ | ⟨rfl, rfl, rfl⟩ | ⟨rfl, rfl, rfl⟩
          all_goals
            go_wp2_with fail
            refine (gate_wake _ _ _ (by omega) (by omega) hg).mono ?_
            rintro e w3 ⟨rfl, hg3, hc3⟩
            simp [gWake] at hg3
            go_wp2
            go_roundw
            case rel => exact ⟨k + 1, _, _, _, _, by omega, by go_num, rfl, rfl, rfl, by unfold gOk; omega, by omega, by omega, hg3, hb.trans (hc3.below hbs (fun j hj e => by omega))⟩
            case measure => simp [intOf]; omega
        · rcases hq with ⟨rfl, rfl, rfl⟩ | ⟨rfl, rfl, rfl⟩ | ⟨rfl, rfl, rfl⟩ | ⟨rfl, rfl, rfl⟩
          all_goals
            go_wp2_with fail
            refine (gate_begin _ _ _ (by omega) (by omega) hg).mono ?_
            rintro e w3 ⟨rfl, hg3, hc3⟩
            simp at hg3
            go_wp2
            go_roundw
            case rel => exact ⟨k + 1, _, _, _, _, by omega, by go_num, rfl, rfl, rfl, by unfold gOk; omega, by omega, by omega, hg3, hb.trans (hc3.below hbs (fun j hj e => by omega))⟩
            case measure => simp [intOf]; omega
        · rcases hq with ⟨rfl, rfl, rfl⟩ | ⟨rfl, rfl, rfl⟩ | ⟨rfl, rfl, rfl⟩ | ⟨rfl, rfl, rfl⟩ <;> cases m
          all_goals
            go_wp2_with fail
            refine (gate_end _ _ _ _ (by omega) (by omega) hg).mono ?_
            rintro e w3 ⟨rfl, hg3, hc3⟩
            simp [gEnd] at hg3
            go_wp2
            go_roundw
            case rel => exact ⟨k + 1, _, _, _, _, by omega, by go_num, rfl, rfl, rfl, by unfold gOk; omega, by omega, by omega, hg3, hb.trans (hc3.below hbs (fun j hj e => by omega))⟩
            case measure => simp [intOf]; omega
      · go_wp2
        go_ret
        exact ⟨rfl, hb⟩
end Go.Proofs.Ytmjgbdmjeadmaaa
