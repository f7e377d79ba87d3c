/- The walk of the law 'MailboxTakes'. -/
import Derived.Test.YtacjfoghjbhmkaaBoxState
namespace Go.Proofs.Ytacjfoghjbhmkaa
open Go.RowKit
set_option maxHeartbeats 4000000 in
theorem mailbox_up (w : World) : Calls Try.prog 9 #[] w fun e w' => e = .returned (.bool true) ∧ Below w.heap.size w w' := by
  go_enter Try.func9, Try.ntmps9
  go_wp2_with fail
  refine (mb_new w.heap.size w 1 (by decide) (by decide) (Nat.le_refl _)).mono ?_
  rintro e w1 ⟨rfl, h1, hc1⟩
  have hb1 := (Below.refl w.heap.size w).trans (hc1.below (Nat.le_refl _) (fun k hk h => by omega))
  have hz1 := hb1.size
  go_wp2_with fail
  refine (mb_new_no w1 0 (by decide)).mono ?_
  rintro e w2 ⟨rfl, rfl⟩
  go_wp2_with fail
  refine (mb_Put_ok _ _ _ _ _ _ _ 5 h1 (by decide) (by simp) hz1).mono ?_
  rintro e w3 ⟨rfl, h3, hc3⟩
  have hb3 := hb1.trans (hc3.below hz1 (fun k hk h => by omega))
  have hz3 := hb3.size
  go_wp2_with fail
  refine (mb_Put_no _ _ _ _ _ _ _ _ 6 h3 (by decide)).mono ?_
  rintro e w4 ⟨rfl, h4, hc4⟩
  have hb4 := hb3.trans (hc4.below hz3 (fun k hk h => by omega))
  have hz4 := hb4.size
  have hpe : putErr 1 false ([] ++ [5]) = .iface 32 (.int .i64 6) := rfl
  rw [hpe]
  go_wp2_with fail
  refine (mb_Take_some _ _ _ _ _ _ 5 [] _ h4 (by simp) hz4).mono ?_
  rintro e w5 ⟨rfl, h5, hc5⟩
  have hb5 := hb4.trans (hc5.below hz4 (fun k hk h => by omega))
  have hz5 := hb5.size
  have heq := eqErr
  go_wp2_with fail
  refine (mb_len _ _ _ _ _ _ _ _ h5).mono ?_
  rintro e w6 ⟨rfl, h6, hc6⟩
  have hb6 := hb5.trans (hc6.below hz5 (fun k hk h => by omega))
  go_wp2
  go_ret
  exact ⟨rfl, hb6⟩
theorem ints_at {w : World} {v : Value} {xs : List Int} {F : Nat → Prop} (h : (Rep.int .i64).slice.ok F w [v] xs) :
    ∃ A cap, v = .slice A xs.length cap ∧ (0 < xs.length → ∃ b off, A = some ⟨b, off, none⟩ ∧ F b ∧ b < w.heap.size ∧ ∀ i (hi : i < xs.length), w.cell? ⟨b, off + i, none⟩ = some (.int .i64 xs[i]) ∧ (Lit.int .i64 xs[i]).wf = true) := by
  obtain ⟨A, cap, hv, hA⟩ := Rep.slice_open h
  refine ⟨A, cap, hv, fun h0 => ?_⟩
  obtain ⟨b, off, hA1, hb, hlt, _, _, hel⟩ := hA h0
  refine ⟨b, off, hA1, hb, hlt, fun i hi => ?_⟩
  obtain ⟨c, hc, hcell, rfl, hw⟩ := hel i hi
  exact ⟨by simpa [Rep.int] using hcell 0 (by simp), hw⟩
set_option maxHeartbeats 8000000 in
theorem MailboxTakes_walk (w : World) (v0 : Value) (l : List Int) (h0 : (Rep.int .i64).slice.ok (fun b => b < w.heap.size) w [v0] l) :
    Calls Try.prog 3 #[v0] w fun e w' => e = .returned (.bool true) ∧ Below w.heap.size w w' := by
  obtain ⟨A1, c1, rfl, hA1⟩ := ints_at h0
  have HA1 := Lib.hid hA1
  clear h0 hA1
  by_cases hl : 200 < l.length ∨ l.length = 0
  · have d1 : (decide ((200 : Int) < (l.length : Int)) || ((l.length : Int) == 0)) = true := by
      rcases hl with h | h
      · simp; omega
      · simp [h]
    rcases hl with hl | hl
    · have d2 : decide ((200 : Int) < (l.length : Int)) = true := decide_eq_true (by omega)
      clear d1 hl
      go_enter Try.func3, Try.ntmps3
      go_wp2_with fail
      refine (mailbox_up _).mono ?_
      rintro e w1 ⟨rfl, hb1⟩
      go_wp2_with fail
      go_ret
      exact ⟨rfl, hb1⟩
    · have d2 : decide ((200 : Int) < (l.length : Int)) = false := decide_eq_false (by omega)
      have d3 : (((l.length : Nat) : Int) == 0) = true := by simp [hl]
      clear d1
      have HL := Lib.hid hl
      clear hl
      go_enter Try.func3, Try.ntmps3
      go_wp2_with fail
      refine (mailbox_up _).mono ?_
      rintro e w1 ⟨rfl, hb1⟩
      go_wp2_with fail
      go_ret
      exact ⟨rfl, hb1⟩
  · have d2 : decide ((200 : Int) < (l.length : Int)) = false := decide_eq_false (by omega)
    have d3 : (((l.length : Nat) : Int) == 0) = false := beq_eq_false_iff_ne.mpr (by omega)
    have hl1 : 1 ≤ l.length := by omega
    have hl2 : l.length ≤ 200 := by omega
    clear hl
    go_enter Try.func3, Try.ntmps3
    go_wp2_with fail
    refine (mailbox_up _).mono ?_
    rintro e w1 ⟨rfl, hb1⟩
    have hz1 := hb1.size
    go_wp2_with fail
    refine (mb_new w.heap.size w1 l.length (by omega) (by omega) hz1).mono ?_
    rintro e w2 ⟨rfl, h2, hc2⟩
    have hb2 := hb1.trans (hc2.below hz1 (fun k hk h => by omega))
    have hz2 := hb2.size
    clear hc2
    go_wp2_with fail
    go_loopw [6] (fun i wr => ∃ (k : Nat), k ≤ l.length ∧ i = .int .i64 k ∧ MB w.heap.size wr w1.heap.size (.slice none 0 0) l.length false (l.take k) [] ∧ Below w.heap.size w wr) (fun i _ => l.length - (intOf i).toNat)
    case atStart => exact ⟨0, Nat.zero_le _, rfl, by simpa using h2, hb2⟩
    case round =>
      obtain ⟨k, hk, rfl, hD, hb⟩ := hrel
      by_cases hlt : k < l.length
      · obtain ⟨b1, o1, rfl, _, hl1', hel1⟩ := HA1.out (by omega)
        obtain ⟨x0, _⟩ := hel1 k hlt
        have y0 := (hb.cell (p := ⟨b1, o1 + k, none⟩) hl1').trans x0
        have hT := Lib.hid (List.take_succ_eq_append_getElem hlt)
        have hsz := hb.size
        clear x0 hel1
        generalize l[k] = x at *
        go_wp2_with fail
        refine (mb_Push_ok _ _ _ _ _ _ _ x hD (by simp; omega) (by simp; omega) hsz).mono ?_
        rintro e w4 ⟨rfl, hD4, hc4⟩
        rw [← hT.out] at hD4
        have hb4 := hb.trans (hc4.below hsz (fun k hk h => by omega))
        go_wp2_with fail
        go_roundw
        case rel => exact ⟨k + 1, by omega, by go_num, hD4, hb4⟩
        case measure => simp [intOf]; omega
      · have hkl : k = l.length := by omega
        subst hkl
        rw [List.take_length] at hD
        have hsz := hb.size
        go_wp2_with fail
        refine (mb_close _ _ _ _ _ _ _ _ hD).mono ?_
        rintro e w4 ⟨rfl, hD4, hc4⟩
        have hb4 := hb.trans (hc4.below hsz (fun k hk h => by omega))
        have hz4 := hb4.size
        clear hD hc4 hb hsz
        go_wp2_with fail
        go_loopw [8] (fun i wr => ∃ (k : Nat), k ≤ l.length ∧ i = .int .i64 k ∧ MB w.heap.size wr w1.heap.size (.slice none 0 0) l.length true (l.drop k) [] ∧ Below w.heap.size w wr) (fun i _ => l.length - (intOf i).toNat)
        case atStart => exact ⟨0, Nat.zero_le _, rfl, by simpa using hD4, hb4⟩
        case round =>
          obtain ⟨k, hk, rfl, hD, hb⟩ := hrel
          by_cases hlt : k < l.length
          · obtain ⟨b1, o1, rfl, _, hl1', hel1⟩ := HA1.out (by omega)
            obtain ⟨x0, _⟩ := hel1 k hlt
            have hT := List.drop_eq_getElem_cons hlt
            have hsz := hb.size
            rw [hT] at hD
            clear hel1 hT
            generalize l[k] = x at *
            go_wp2_with fail
            refine (mb_Take_some _ _ _ _ _ _ x (l.drop (k + 1)) _ hD (by simp; omega) hsz).mono ?_
            rintro e w5 ⟨rfl, hD5, hc5⟩
            have hb5 := hb.trans (hc5.below hsz (fun k hk h => by omega))
            have y0 := (hb5.cell (p := ⟨b1, o1 + k, none⟩) hl1').trans x0
            go_wp2_with fail
            go_roundw
            case rel => exact ⟨k + 1, by omega, by go_num, hD5, hb5⟩
            case measure => simp [intOf]; omega
          · have hkl : k = l.length := by omega
            subst hkl
            rw [List.drop_length] at hD
            have hsz := hb.size
            have heq := eqErr
            go_wp2_with fail
            refine (mb_Take_none _ _ _ _ _ _ hD).mono ?_
            rintro e w5 ⟨rfl, hD5, hc5⟩
            have hb5 := hb.trans (hc5.below hsz (fun k hk h => by omega))
            have hz5 := hb5.size
            go_wp2_with fail
            refine (mb_Push_no _ _ _ _ _ _ _ 1 hD5).mono ?_
            rintro e w6 ⟨rfl, hD6, hc6⟩
            have hb6 := hb5.trans (hc6.below hz5 (fun k hk h => by omega))
            rw [show putErr l.length true [] = .iface 32 (.int .i64 12) from rfl]
            go_wp2
            go_ret
            exact ⟨rfl, hb6⟩
end Go.Proofs.Ytacjfoghjbhmkaa
