/- The walk of the law 'FeedPlays'. -/
import Derived.Test.YtmjgbdmjeadmaaaFeedState
namespace Go.Proofs.Ytmjgbdmjeadmaaa
open Go.RowKit
set_option maxHeartbeats 8000000 in
set_option maxRecDepth 100000 in
theorem FeedPlays_walk (w : World) (v0 v1 : Value) (room : Int) (d : List (Int × Int × Int × Unit)) (h0 : (Rep.int .i64).ok (fun b => b < w.heap.size) w [v0] room) (h1 : RDeed18.slice.ok (fun b => b < w.heap.size) w [v1] d) :
    Calls Try.prog 9 #[v0, v1] w fun e w' => e = .returned (.bool true) ∧ Below w.heap.size w w' := by
  have hu24 := Try.underlying24
  have he := eqErr
  have hne := neErr
  obtain ⟨h0, hwr⟩ := h0
  obtain rfl : v0 = .int .i64 room := by simpa using h0
  obtain ⟨A1, c1, rfl, hA1⟩ := deed18_at h1
  have HA1 := Lib.hid hA1
  clear h0 h1 hA1
  by_cases hroom : room < 1 ∨ 100 < room
  · have HR := Lib.hid hroom
    rcases hroom with hroom | hroom
    · go_enter Try.func9, Try.ntmps9
      go_wp2_with fail
      refine (feed_up _).mono ?_
      rintro e w1 ⟨rfl, hb1⟩
      go_wp2_with fail
      refine (feed_new_bad _ _ HR.out).mono ?_
      rintro e w2 ⟨rfl, rfl⟩
      go_wp2_with fail
      go_ret
      exact ⟨rfl, hb1⟩
    · go_enter Try.func9, Try.ntmps9
      go_wp2_with fail
      refine (feed_up _).mono ?_
      rintro e w1 ⟨rfl, hb1⟩
      go_wp2_with fail
      refine (feed_new_bad _ _ HR.out).mono ?_
      rintro e w2 ⟨rfl, rfl⟩
      go_wp2_with fail
      go_ret
      exact ⟨rfl, hb1⟩
  · have hr1 : 1 ≤ room := by omega
    have hr2 : room ≤ 100 := by omega
    clear hroom hwr
    obtain ⟨R, rfl⟩ := Int.eq_ofNat_of_zero_le (show 0 ≤ room by omega)
    go_enter Try.func9, Try.ntmps9
    go_wp2_with fail
    refine (feed_up _).mono ?_
    rintro e w1 ⟨rfl, hb1⟩
    go_wp2_with fail
    refine (feed_new _ _ hr1 hr2 w.heap.size hb1.size).mono ?_
    rintro e w2 ⟨f, rfl, hf2, hb2⟩
    have hb := hb1.trans (hb2.mono hb1.size)
    by_cases hl : 200 < d.length
    · go_wp2_with fail
      go_ret
      exact ⟨rfl, hb⟩
    have hF0 : FP w.heap.size w2 f R (.slice none 0 0) (.slice none 0 0) [] [] [] [] :=
      ⟨_, hf2.bound.congr (fun i hi => by simp [view]), fun k hk => ⟨Nat.le_trans hb1.size hk.1, hk.2⟩, World.ownsRow_nil _ _ _ _, fun k hk => by simp [Value.ownBlock] at hk, World.ownsRow_nil _ _ _ _, fun k hk => by simp [Value.ownBlock] at hk, by simp, hb.size⟩
    clear hf2
    go_wp2_with fail
    go_loopw [8, 9, 10] (fun s8 s9 i wr => ∃ (k : Nat) (a : List Int) (fr : List Nat) (A : Option Addr) (c : Nat) (A' : Option Addr) (c' : Nat), k ≤ d.length ∧ i = .int .i64 k ∧ s8 = .slice A a.length c ∧ s9 = .slice A' fr.length c' ∧ FP w.heap.size wr f R (.slice A a.length c) (.slice A' fr.length c') a a fr fr ∧ a.length ≤ k ∧ fr.length ≤ 8 ∧ Below w.heap.size w wr) (fun _ _ i _ => d.length - (intOf i).toNat)
    case atStart => exact ⟨0, [], [], none, 0, none, 0, Nat.zero_le _, rfl, rfl, rfl, hF0, by simp, by simp, hb⟩
    case round =>
      obtain ⟨k, a, fr, A, c, A', c', hk, rfl, rfl, rfl, hF, hak, hfr, hb⟩ := hrel
      by_cases hlt : k < d.length
      · obtain ⟨b1, o1, rfl, hl1, hel1⟩ := HA1.out (by omega)
        obtain ⟨x0, x1, x2, hw1, hw3⟩ := hel1 k hlt
        obtain ⟨q1, q2⟩ := bounds_i64 hw1
        obtain ⟨q3, q4⟩ := bounds_i64 hw3
        have y0 := (hb.cell (p := ⟨b1, o1 + k * 3, none⟩) hl1).trans x0
        have y1 := (hb.cell (p := ⟨b1, o1 + k * 3 + 1, none⟩) hl1).trans x1
        have y2 := (hb.cell (p := ⟨b1, o1 + k * 3 + 2, none⟩) hl1).trans x2
        clear x0 hw1 hw3 hel1
        generalize d[k].1 = n0 at *
        generalize d[k].2.1 = n1 at *
        generalize d[k].2.2.1 = n2 at *
        have hsz := hb.size
        go_wp2_with fail
        refine (feed_pick _ _ q1 q2).mono ?_
        rintro e w3 ⟨r, rfl, hr, rfl⟩
        rcases hr with rfl | rfl | rfl | rfl
        · go_wp2_with fail
          refine (fp_add _ _ _ _ _ _ _ _ n1 hF (by omega) (by omega) (by omega) (by omega)).mono ?_
          rintro e w4 ⟨rfl, hF4, hc4⟩
          have hb4 := hb.trans (hc4.below hsz (fun k hk h => by omega))
          have y1' := (hb4.cell (p := ⟨b1, o1 + k * 3 + 1, none⟩) hl1).trans x1
          have hs4 := hb4.size
          go_wp2_with (at_builtin; refine app_one rfl _ _ 49 2 (.int .i64 0) 1 8 rfl Try.underlying49 i64_info rfl (by decide) (by decide) w.heap.size (.slice A a.length c) a.length _ _ _ rfl rfl (by simp) rfl (by simp [Value.oneCell']) hF4.rowA' hs4 (by omega) ?_; intro v1 w5 hown hchg hat; obtain ⟨g, cap, rfl, _⟩ := own_shape hown (by omega); obtain ⟨hF5, hc5⟩ := fp_app hF4 hown hchg hat; clear hown hat)
          go_roundw
          case rel => exact ⟨k + 1, a ++ [n1], fr, some ⟨g, 0, none⟩, cap, A', c', by omega, by go_num, by simp, rfl, by simpa using hF5, by simp; omega, hfr, hb4.trans (hc5.below hs4 (fun k hk h => by omega))⟩
          case measure => simp [intOf]; omega
        · go_wp2_with fail
          refine (fp_add _ _ _ _ _ _ _ _ n1 hF (by omega) (by omega) (by omega) (by omega)).mono ?_
          rintro e w4 ⟨rfl, hF4, hc4⟩
          have hb4 := hb.trans (hc4.below hsz (fun k hk h => by omega))
          have y1' := (hb4.cell (p := ⟨b1, o1 + k * 3 + 1, none⟩) hl1).trans x1
          have hs4 := hb4.size
          go_wp2_with (at_builtin; refine app_one rfl _ _ 49 2 (.int .i64 0) 1 8 rfl Try.underlying49 i64_info rfl (by decide) (by decide) w.heap.size (.slice A a.length c) a.length _ _ _ rfl rfl (by simp) rfl (by simp [Value.oneCell']) hF4.rowA' hs4 (by omega) ?_; intro v1 w5 hown hchg hat; obtain ⟨g, cap, rfl, _⟩ := own_shape hown (by omega); obtain ⟨hF5, hc5⟩ := fp_app hF4 hown hchg hat; clear hown hat)
          go_roundw
          case rel => exact ⟨k + 1, a ++ [n1], fr, some ⟨g, 0, none⟩, cap, A', c', by omega, by go_num, by simp, rfl, by simpa using hF5, by simp; omega, hfr, hb4.trans (hc5.below hs4 (fun k hk h => by omega))⟩
          case measure => simp [intOf]; omega
        · by_cases h8 : 8 ≤ fr.length
          · go_wp2_with fail
            refine (fp_read_full _ _ _ _ _ _ _ _ hF h8).mono ?_
            rintro e w4 ⟨rfl, rfl⟩
            go_wp2_with fail
            go_roundw
            case rel => exact ⟨k + 1, a, fr, A, c, A', c', by omega, by go_num, rfl, rfl, hF, by omega, hfr, hb⟩
            case measure => simp [intOf]; omega
          · go_wp2_with fail
            refine (fp_read _ _ _ _ _ _ _ _ hF (by omega)).mono ?_
            rintro e w4 ⟨rfl, hF4, hc4⟩
            have hb4 := hb.trans (hc4.below hsz (fun k hk h => by omega))
            have hs4 := hb4.size
            go_wp2_with (at_builtin; refine app_one rfl _ _ 50 3 (.int .i64 0) 1 8 rfl Try.underlying50 int_info rfl (by decide) (by decide) w.heap.size (.slice A' fr.length c') fr.length _ _ _ rfl rfl (by simp) rfl (by simp [Value.oneCell']) hF4.rowF hs4 (by omega) ?_; intro v1 w5 hown hchg hat; obtain ⟨g, cap, rfl, _⟩ := own_shape hown (by omega); obtain ⟨hF5, hc5⟩ := fp_from hF4 hown hchg hat; clear hown hat)
            go_roundw
            case rel => exact ⟨k + 1, a, fr ++ [a.length], A, c, some ⟨g, 0, none⟩, cap, by omega, by go_num, rfl, by simp, by simpa using hF5, by omega, by simp; omega, hb4.trans (hc5.below hs4 (fun k hk h => by omega))⟩
            case measure => simp [intOf]; omega
        · by_cases hn : n2 < 0 ∨ (fr.length : Int) ≤ n2
          · have HN := Lib.hid hn
            rcases hn with hn | hn
            · go_wp2_with fail
              refine (fp_poll_none _ _ _ _ _ _ _ _ _ hF HN.out).mono ?_
              rintro e w4 ⟨rfl, rfl⟩
              go_wp2_with fail
              go_roundw
              case rel => exact ⟨k + 1, a, fr, A, c, A', c', by omega, by go_num, rfl, rfl, hF, by omega, hfr, hb⟩
              case measure => simp [intOf]; omega
            · have hn0 : 0 ≤ n2 := by omega
              go_wp2_with fail
              refine (fp_poll_none _ _ _ _ _ _ _ _ _ hF HN.out).mono ?_
              rintro e w4 ⟨rfl, rfl⟩
              go_wp2_with fail
              go_roundw
              case rel => exact ⟨k + 1, a, fr, A, c, A', c', by omega, by go_num, rfl, rfl, hF, by omega, hfr, hb⟩
              case measure => simp [intOf]; omega
          · obtain ⟨j, rfl⟩ := Int.eq_ofNat_of_zero_le (show 0 ≤ n2 by omega)
            have hj : j < fr.length := by omega
            clear hn
            have hbeg := hF.le (fr.getD j 0) (by rw [List.getD_eq_getElem?_getD, List.getElem?_eq_getElem hj]; exact List.getElem_mem hj)
            obtain ⟨b, hbe⟩ : ∃ b, b = fr.getD j 0 := ⟨_, rfl⟩
            rw [← hbe] at hbeg
            have HBE := Lib.hid hbe
            by_cases hlong : R + b < a.length
            · obtain ⟨g, cc, hA, _, _, hgc, _⟩ := own_shape hF.rowA (by omega)
              injection hA with hA _ hcc
              subst hA hcc
              have HP := fp_poll _ _ _ _ _ _ _ _ j hF hj
              rw [← hbe, view_long R b a hlong] at HP
              go_wp2_with fail
              refine HP.mono ?_
              rintro e w4 ⟨v, rfl, ho, hF4, hc4⟩
              obtain ⟨Av, cv, rfl⟩ := own_slice ho
              have hb4 := hb.trans (hc4.below hsz (fun k hk h => by omega))
              have hs4 := hb4.size
              obtain ⟨g', cap', hA', _, _, _, _, hcf, hff⟩ := own_shape hF4.rowF (by omega)
              injection hA' with hA' _ hcc
              subst hA' hcc
              have cj := hcf j (.int .i64 ((b : Nat) : Int)) (by rw [hbe]; simp [List.getD_eq_getElem?_getD, hj])
              have fj := hff j
              have hO := ints_of_own ho
              rw [List.length_drop] at hO
              have HO := Lib.hid hO
              clear hO
              clear ho hcf hff HP
              clear hbe
              have hne : ¬ c = a.length - R := by omega
              go_wp2_with fail
              (with_reducible refine (nums_same _ _ _ _ HO.out (ints_tail hF4.rowA (a.length - R) (by omega)) (by simp; omega)).mono ?_)
              rintro e w5 ⟨rfl, n, rfl⟩
              go_wp2_with fail
              go_roundw
              case rel => 
                obtain ⟨hF5, hc5⟩ := fp_set n hF4 hj rfl
                exact ⟨k + 1, a, fr.set j a.length, some ⟨g, 0, none⟩, c, some ⟨g', 0, none⟩, c', by omega, by go_num, rfl, by simp, by simpa using hF5, by omega, by simp; omega, hb4.trans (hc5.below hs4 (fun k hk h => by omega))⟩
              case measure => simp [intOf]; omega
            · clear hbe
              by_cases hbl : b < a.length
              · obtain ⟨g, cc, hA, _, _, hgc, _⟩ := own_shape hF.rowA (by omega)
                injection hA with hA _ hcc
                subst hA hcc
                have hne : ¬ c = b := by omega
                have HP := fp_poll _ _ _ _ _ _ _ _ j hF hj
                rw [← HBE.out, view_short R b a (by omega)] at HP
                go_wp2_with fail
                refine HP.mono ?_
                rintro e w4 ⟨v, rfl, ho, hF4, hc4⟩
                obtain ⟨Av, cv, rfl⟩ := own_slice ho
                have hb4 := hb.trans (hc4.below hsz (fun k hk h => by omega))
                have hs4 := hb4.size
                obtain ⟨g', cap', hA', _, _, _, _, hcf, hff⟩ := own_shape hF4.rowF (by omega)
                injection hA' with hA' _ hcc
                subst hA' hcc
                have cj := hcf j (.int .i64 ((b : Nat) : Int)) (by rw [HBE.out]; simp [List.getD_eq_getElem?_getD, hj])
                have fj := hff j
                have hO := ints_of_own ho
                rw [List.length_drop] at hO
                have HO := Lib.hid hO
                clear hO ho hcf hff HP
                go_wp2_with fail
                (with_reducible refine (nums_same _ _ _ _ HO.out (ints_tail hF4.rowA b (by omega)) (by simp <;> omega)).mono ?_)
                rintro e w5 ⟨rfl, n, rfl⟩
                go_wp2_with fail
                go_roundw
                case rel =>
                  obtain ⟨hF5, hc5⟩ := fp_set n hF4 hj rfl
                  exact ⟨k + 1, a, fr.set j a.length, some ⟨g, 0, none⟩, c, some ⟨g', 0, none⟩, c', by omega, by go_num, rfl, by simp, by simpa using hF5, by omega, by simp; omega, hb4.trans (hc5.below hs4 (fun k hk h => by omega))⟩
                case measure => simp [intOf]; omega
              · obtain hba : b = a.length := by omega
                have hnil : a.drop b = [] := List.drop_eq_nil_of_le (by omega)
                rcases own_form hF.rowA with ⟨rfl, rfl, hz⟩ | ⟨g, rfl⟩
                · have hb0 : b = 0 := by omega
                  have ha0 : a = [] := List.length_eq_zero_iff.1 hz
                  clear hz hba
                  subst hb0 ha0
                  have HP := fp_poll _ _ _ _ _ _ _ _ j hF hj
                  rw [← HBE.out, view_short R 0 [] (by simp), hnil] at HP
                  clear hnil
                  go_wp2_with fail
                  refine HP.mono ?_
                  rintro e w4 ⟨v, rfl, ho, hF4, hc4⟩
                  obtain ⟨Av, cv, rfl⟩ := own_slice ho
                  have hb4 := hb.trans (hc4.below hsz (fun k hk h => by omega))
                  have hs4 := hb4.size
                  obtain ⟨g', cap', hA', _, _, _, _, hcf, hff⟩ := own_shape hF4.rowF (by omega)
                  injection hA' with hA' _ hcc
                  subst hA' hcc
                  have cj := hcf j (.int .i64 0) (by have := HBE.out; rw [List.getD_eq_getElem?_getD, List.getElem?_eq_getElem hj] at this; simp at this; simp [hj, ← this])
                  have fj := hff j
                  clear ho hcf hff HP
                  go_wp2_with fail
                  (with_reducible refine (nums_same _ _ _ [] (ints_nil _ _ _) (ints_nil _ _ _) (by simp)).mono ?_)
                  rintro e w5 ⟨rfl, n, rfl⟩
                  go_wp2_with fail
                  go_roundw
                  case rel =>
                    obtain ⟨hF5, hc5⟩ := fp_set (m := 0) n hF4 hj rfl
                    exact ⟨k + 1, [], fr.set j 0, none, 0, some ⟨g', 0, none⟩, c', by omega, by go_num, rfl, by simp, by simpa using hF5, by simp, by simp; omega, hb4.trans (hc5.below hs4 (fun k hk h => by omega))⟩
                  case measure => simp [intOf]; omega
                · by_cases hcb : c = b
                  · subst hcb
                    have hble : a.length ≤ c := by omega
                    clear hba
                    have HP := fp_poll _ _ _ _ _ _ _ _ j hF hj
                    rw [← HBE.out, view_short R c a (by omega), hnil] at HP
                    clear hnil
                    go_wp2_with fail
                    refine HP.mono ?_
                    rintro e w4 ⟨v, rfl, ho, hF4, hc4⟩
                    obtain ⟨Av, cv, rfl⟩ := own_slice ho
                    have hb4 := hb.trans (hc4.below hsz (fun k hk h => by omega))
                    have hs4 := hb4.size
                    obtain ⟨g', cap', hA', _, _, _, _, hcf, hff⟩ := own_shape hF4.rowF (by omega)
                    injection hA' with hA' _ hcc
                    subst hA' hcc
                    have cj := hcf j (.int .i64 ((c : Nat) : Int)) (by rw [HBE.out]; simp [List.getD_eq_getElem?_getD, hj])
                    have fj := hff j
                    clear ho hcf hff HP
                    go_wp2_with fail
                    (with_reducible refine (nums_same _ _ _ [] (ints_nil _ _ _) (ints_nil _ _ _) (by simp)).mono ?_)
                    rintro e w5 ⟨rfl, n, rfl⟩
                    go_wp2_with fail
                    go_roundw
                    case rel =>
                      obtain ⟨hF5, hc5⟩ := fp_set n hF4 hj rfl
                      exact ⟨k + 1, a, fr.set j a.length, some ⟨g, 0, none⟩, c, some ⟨g', 0, none⟩, c', by omega, by go_num, rfl, by simp, by simpa using hF5, by omega, by simp; omega, hb4.trans (hc5.below hs4 (fun k hk h => by omega))⟩
                    case measure => simp [intOf]; omega
                  · have hble : a.length ≤ b := by omega
                    clear hba
                    have HP := fp_poll _ _ _ _ _ _ _ _ j hF hj
                    rw [← HBE.out, view_short R b a (by omega), hnil] at HP
                    clear hnil
                    go_wp2_with fail
                    refine HP.mono ?_
                    rintro e w4 ⟨v, rfl, ho, hF4, hc4⟩
                    obtain ⟨Av, cv, rfl⟩ := own_slice ho
                    have hb4 := hb.trans (hc4.below hsz (fun k hk h => by omega))
                    have hs4 := hb4.size
                    obtain ⟨g', cap', hA', _, _, _, _, hcf, hff⟩ := own_shape hF4.rowF (by omega)
                    injection hA' with hA' _ hcc
                    subst hA' hcc
                    have cj := hcf j (.int .i64 ((b : Nat) : Int)) (by rw [HBE.out]; simp [List.getD_eq_getElem?_getD, hj])
                    have fj := hff j
                    clear ho hcf hff HP
                    go_wp2_with fail
                    (with_reducible refine (nums_same _ _ _ [] (ints_nil _ _ _) (ints_nil _ _ _) (by simp)).mono ?_)
                    rintro e w5 ⟨rfl, n, rfl⟩
                    go_wp2_with fail
                    go_roundw
                    case rel =>
                      obtain ⟨hF5, hc5⟩ := fp_set n hF4 hj rfl
                      exact ⟨k + 1, a, fr.set j a.length, some ⟨g, 0, none⟩, c, some ⟨g', 0, none⟩, c', by omega, by go_num, rfl, by simp, by simpa using hF5, by omega, by simp; omega, hb4.trans (hc5.below hs4 (fun k hk h => by omega))⟩
                    case measure => simp [intOf]; omega
      · go_wp2
        go_ret
        exact ⟨rfl, hb⟩
end Go.Proofs.Ytmjgbdmjeadmaaa
