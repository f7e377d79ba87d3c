/- The walk of the law 'DequePlays'. -/
import Derived.Test.YtmjgbdmjeadmaaaDequeState
namespace Go.Proofs.Ytmjgbdmjeadmaaa
open Go.RowKit
theorem deque_up (w : World) : Calls Try.prog 40 #[] w fun e w' => e = .returned (.bool true) ∧ Below w.heap.size w w' := by
  go_enter Try.func40, Try.ntmps40
  go_wp2_with fail
  have hb0 := (Below.refl w.heap.size w).alloc (Nat.le_refl _) (.cells #[.slice none 0 0, .int .i64 0, .int .i64 0] 63)
  have h0 := dp_start w.heap.size w (Nat.le_refl _)
  have hz0 := hb0.size
  refine (dp_push _ _ _ _ _ _ _ h0 (by simp) hz0).mono ?_
  rintro e w1 ⟨rfl, h1, hc1⟩
  have hb1 := hb0.trans (hc1.below hz0 (fun k hk h => by omega))
  have hz1 := hb1.size
  go_wp2_with fail
  refine (dp_push _ _ _ _ _ _ _ h1 (by simp) hz1).mono ?_
  rintro e w2 ⟨rfl, h2, hc2⟩
  have hb2 := hb1.trans (hc2.below hz1 (fun k hk h => by omega))
  have hz2 := hb2.size
  go_wp2_with fail
  refine (dp_push _ _ _ _ _ _ _ h2 (by simp) hz2).mono ?_
  rintro e w3 ⟨rfl, h3, hc3⟩
  have hb3 := hb2.trans (hc3.below hz2 (fun k hk h => by omega))
  have hz3 := hb3.size
  go_wp2_with fail
  refine (dp_steal _ _ _ _ [2, 3] _ 1 h3 hz3).mono ?_
  rintro e w4 ⟨rfl, h4, hc4⟩
  have hb4 := hb3.trans (hc4.below hz3 (fun k hk h => by omega))
  have hz4 := hb4.size
  go_wp2_with fail
  refine (dp_pop _ _ _ _ [2] _ 3 h4 hz4).mono ?_
  rintro e w5 ⟨rfl, h5, hc5⟩
  have hb5 := hb4.trans (hc5.below hz4 (fun k hk h => by omega))
  have hz5 := hb5.size
  go_wp2_with fail
  have hq : DqS.Dq (fun _ => False) w.heap.size (w5.alloc (.cells #[.slice none 0 0, .int .i64 0, .int .i64 0] 72)) w5.heap.size 0 #[.slice none 0 0, .int .i64 0, .int .i64 0] (.slice none 0 0) 0 [] :=
    ⟨⟨blk_new _ _, rfl, rfl, rfl⟩, [], World.ownsRow_nil _ _ _ _, fun k hk => by simp [Value.ownBlock] at hk, ring_nil, by simp⟩
  refine (DqS.pop_none _ _ _ _ _ _ _ _ hq).mono ?_
  rintro e w6 ⟨rfl, rfl⟩
  have hc6 := (Chg.refl (fun k => w.heap.size ≤ k) w5).alloc (.cells #[.slice none 0 0, .int .i64 0, .int .i64 0] 72)
  have hb6 := hb5.trans (hc6.below hz5 (fun k hk h => by omega))
  have h6 : DP w.heap.size (w5.alloc (.cells #[.slice none 0 0, .int .i64 0, .int .i64 0] 72)) w.heap.size (.slice none 0 0) [2] [] := by
    obtain ⟨S, cs, rv, first, k1, k2, k3, k4, k5⟩ := h5
    have hf := (Chg.refl (fun _ => False) w5).alloc (.cells #[.slice none 0 0, .int .i64 0, .int .i64 0] 72)
    exact ⟨S, cs, rv, first, k1.keep hf (fun h => h) (fun _ _ h => h), fun k hk => ⟨(k2 k hk).1, by have := (k2 k hk).2; simp; omega⟩, k3, win_nil _ _ _ _, fun k hk => by simp [Value.ownBlock] at hk⟩
  go_wp2_with fail
  refine (dp_len _ _ _ _ _ _ h6).mono ?_
  rintro e w7 ⟨rfl, rfl⟩
  go_wp2
  go_ret
  exact ⟨rfl, hb6⟩
theorem deque_pick (c : Int) (w : World) (h1 : -9223372036854775808 ≤ c) (h2 : c ≤ 9223372036854775807) : Calls Try.prog 41 #[.int .i64 c, .int .i64 4] w fun e w' => ∃ r : Int, e = .returned (.int .i64 r) ∧ (r = 0 ∨ r = 1 ∨ r = 2 ∨ r = 3) ∧ w = w' := by
  by_cases h : c < 0
  all_goals
    go_enter Try.func41, Try.ntmps41
    go_wp2
    go_ret
    first
    | exact ⟨_, rfl, by omega, rfl⟩
    | (have k := tmod_neg (c + 1) 4 (by omega)
       exact ⟨_, rfl, by omega, rfl⟩)
def RDeed19 : Rep (Int × Int × Unit) := (Rep.int .i64).pair ((Rep.int .i64).pair Rep.unit)
theorem RDeed19.reads : Reads Try.prog 65 RDeed19 :=
  reads_struct Try.underlying65 (fields_cons rfl (reads_int Try.underlying3 (by kernel_rfl)) (fields_cons rfl (reads_int Try.underlying3 (by kernel_rfl)) (fields_nil _ _))) (by kernel_rfl)
theorem deed19_at {w : World} {v : Value} {xs : List (Int × Int × Unit)} (h : RDeed19.slice.ok (fun b => b < w.heap.size) w [v] xs) :
    ∃ A cap, v = .slice A xs.length cap ∧ (0 < xs.length → ∃ b off, A = some ⟨b, off, none⟩ ∧ b < w.heap.size ∧
      ∀ i (hi : i < xs.length), w.cell? ⟨b, off + i * 2, none⟩ = some (.int .i64 xs[i].1) ∧ w.cell? ⟨b, off + i * 2 + 1, none⟩ = some (.int .i64 xs[i].2.1) ∧ (Lit.int .i64 xs[i].1).wf = true) := by
  obtain ⟨A, cap, hv, hA⟩ := Rep.slice_open h
  refine ⟨A, cap, hv, fun h0 => ?_⟩
  obtain ⟨b, off, hA1, hb, hlt, _, _, hel⟩ := hA h0
  refine ⟨b, off, hA1, hlt, fun i hi => ?_⟩
  obtain ⟨c, hc, hcell, hok⟩ := hel i hi
  obtain ⟨c1, d1, rfl, _, ⟨rfl, hw1⟩, c2, d2, rfl, _, ⟨rfl, hw2⟩, rfl⟩ := hok
  exact ⟨hcell 0 (by simp), hcell 1 (by simp), hw1⟩
theorem int_info : (Try.prog.info? 3).map (fun i => (i.zero, i.size, i.bytes)) = some (some (.int .i64 0), 1, 8) := by kernel_rfl
set_option maxHeartbeats 8000000 in
set_option maxRecDepth 100000 in
theorem DequePlays_walk (w : World) (v0 : Value) (d : List (Int × Int × Unit)) (h0 : RDeed19.slice.ok (fun b => b < w.heap.size) w [v0] d) :
    Calls Try.prog 11 #[v0] w fun e w' => e = .returned (.bool true) ∧ Below w.heap.size w w' := by
  obtain ⟨A1, c1, rfl, hA1⟩ := deed19_at h0
  have HA1 := Lib.hid hA1
  clear h0 hA1
  by_cases hl : 500 < d.length
  · go_enter Try.func11, Try.ntmps11
    go_wp2_with fail
    refine (deque_up _).mono ?_
    rintro e w1 ⟨rfl, hb1⟩
    go_wp2_with fail
    go_ret
    exact ⟨rfl, hb1⟩
  · go_enter Try.func11, Try.ntmps11
    go_wp2_with fail
    refine (deque_up _).mono ?_
    rintro e w1 ⟨rfl, hb1⟩
    have hz1 := hb1.size
    have hD0 := dp_start w.heap.size w1 hz1
    have hbA := hb1.alloc hz1 (.cells #[.slice none 0 0, .int .i64 0, .int .i64 0] 63)
    go_wp2_with fail
    go_loopw [5, 6] (fun s5 i wr => ∃ (k : Nat) (xs : List Int) (A : Option Addr) (c : Nat), k ≤ d.length ∧ i = .int .i64 k ∧ s5 = .slice A xs.length c ∧ DP w.heap.size wr w1.heap.size (.slice A xs.length c) xs xs ∧ xs.length ≤ k ∧ Below w.heap.size w wr) (fun _ i _ => d.length - (intOf i).toNat)
    case atStart => exact ⟨0, [], none, 0, Nat.zero_le _, rfl, rfl, hD0, by simp, hbA⟩
    case round =>
      obtain ⟨k, xs, A, c, hk, rfl, rfl, hD, hxk, hb⟩ := hrel
      by_cases hlt : k < d.length
      · obtain ⟨b1, o1, rfl, hl1, hel1⟩ := HA1.out (by omega)
        obtain ⟨x0, x1, hw1⟩ := hel1 k hlt
        obtain ⟨q1, q2⟩ := bounds_i64 hw1
        have y0 := (hb.cell (p := ⟨b1, o1 + k * 2, none⟩) hl1).trans x0
        have y1 := (hb.cell (p := ⟨b1, o1 + k * 2 + 1, none⟩) hl1).trans x1
        clear x0 hw1 hel1
        generalize d[k].1 = n0 at *
        generalize d[k].2.1 = n1 at *
        have hsz := hb.size
        go_wp2_with fail
        refine (deque_pick _ _ q1 q2).mono ?_
        rintro e w3 ⟨r, rfl, hr, rfl⟩
        rcases hr with hr | hr | rfl | rfl
        iterate 2
          subst hr
          go_wp2_with fail
          refine (dp_push _ _ _ _ _ _ n1 hD (by omega) hsz).mono ?_
          rintro e w4 ⟨rfl, hD4, hc4⟩
          have hb4 := hb.trans (hc4.below hsz (fun k hk h => by omega))
          have hs4 := hb4.size
          have y1' := (hb4.cell (p := ⟨b1, o1 + k * 2 + 1, none⟩) hl1).trans x1
          go_wp2_with (at_builtin; refine win_one rfl _ _ 50 3 (.int .i64 0) 1 8 rfl Try.underlying50 int_info rfl (by decide) (by decide) w.heap.size (.slice A xs.length c) xs.length _ _ _ rfl rfl (by simp) rfl (by simp [Value.oneCell']) hD4.win hs4 (by omega) ?_; intro v1 w5 hown hchg hat; obtain ⟨A', cap, rfl⟩ := win_slice hown; obtain ⟨hD5, hc5⟩ := dp_app hD4 hown hchg hat; clear hown hat; have hb5 := hb4.trans (hc5.below hs4 (fun k hk h => by omega)))
          refine (dp_len _ _ _ _ _ _ hD5).mono ?_
          rintro e w6 ⟨rfl, rfl⟩
          have hne : (((xs ++ [n1]).length : Int) != (xs.length : Int) + 1) = false := by simp
          go_wp2_with fail
          go_roundw
          case rel => exact ⟨k + 1, xs ++ [n1], A', cap, by omega, by go_num, by simp, by simpa using hD5, by simp; omega, hb5⟩
          case measure => simp [intOf]; omega
        · rcases List.eq_nil_or_concat xs with rfl | ⟨ys, x, hxe⟩
          · go_wp2_with fail
            refine (dp_pop_none _ _ _ _ _ hD).mono ?_
            rintro e w4 ⟨rfl, rfl⟩
            go_wp2_with fail
            refine (dp_len _ _ _ _ _ _ hD).mono ?_
            rintro e w6 ⟨rfl, rfl⟩
            go_wp2_with fail
            go_roundw
            case rel => exact ⟨k + 1, [], A, c, by omega, by go_num, rfl, hD, by simp, hb⟩
            case measure => simp [intOf]; omega
          · have hlen : xs.length = ys.length + 1 := by rw [hxe]; simp
            have hpos : 0 < xs.length := by omega
            have hD' : DP w.heap.size wr w1.heap.size (.slice A xs.length c) (ys ++ [x]) xs := by
              have e : ys ++ [x] = xs := by rw [hxe]; simp
              rw [e]; exact hD
            have HX := Lib.hid hxe
            have HL := Lib.hid hlen
            clear hxe hlen hD
            go_wp2_with fail
            refine (dp_pop _ _ _ _ _ _ _ hD' hsz).mono ?_
            rintro e w4 ⟨rfl, hD4, hc4⟩
            have hb4 := hb.trans (hc4.below hsz (fun k hk h => by omega))
            obtain ⟨g2, o2, cc, hA, _, _, hcc, _, hcell, _⟩ := win_shape hD4.win hpos
            injection hA with hA _ hcc2
            subst hA hcc2
            have cx := hcell (xs.length - 1) (.int .i64 x) (by rw [HX.out]; simp)
            clear hcell
            go_wp2_with fail
            have hD5 : DP w.heap.size w4 w1.heap.size (.slice (some ⟨g2, o2, none⟩) (xs.length - 1) c) ys ys := by
              have := win_take hD4.win (xs.length - 1) (by omega)
              refine hD4.cut ?_ (fun k hk => hk)
              rw [Nat.mul_one, ← List.map_take] at this
              have e : xs.take (xs.length - 1) = ys := by rw [HX.out]; simp
              rw [e] at this
              rw [HL.out] at this ⊢
              exact this
            refine (dp_len _ _ _ _ _ _ hD5).mono ?_
            rintro e w6 ⟨rfl, rfl⟩
            have hne : ((ys.length : Int) != ((xs.length - 1 : Nat) : Int)) = false := by rw [HL.out]; simp
            have hyl : ys.length ≤ k + 1 := by have := HL.out; omega
            go_wp2_with fail
            go_roundw
            case rel => exact ⟨k + 1, ys, some ⟨g2, o2, none⟩, c, by omega, by go_num, by rw [HL.out]; rfl, by have := HL.out; rw [this] at hD5; exact hD5, hyl, hb4⟩
            case measure => simp [intOf]; omega
        · obtain rfl | ⟨x, ys, hxe⟩ : xs = [] ∨ ∃ x ys, xs = x :: ys := by cases xs with
            | nil => exact .inl rfl
            | cons x ys => exact .inr ⟨x, ys, rfl⟩
          · go_wp2_with fail
            refine (dp_steal_none _ _ _ _ _ hD).mono ?_
            rintro e w4 ⟨rfl, rfl⟩
            go_wp2_with fail
            refine (dp_len _ _ _ _ _ _ hD).mono ?_
            rintro e w6 ⟨rfl, rfl⟩
            go_wp2_with fail
            go_roundw
            case rel => exact ⟨k + 1, [], A, c, by omega, by go_num, rfl, hD, by simp, hb⟩
            case measure => simp [intOf]; omega
          · have hlen : xs.length = ys.length + 1 := by rw [hxe]; simp
            have hpos : 0 < xs.length := by omega
            have hD' : DP w.heap.size wr w1.heap.size (.slice A xs.length c) (x :: ys) xs := by
              rw [← hxe]; exact hD
            have HX := Lib.hid hxe
            have HL := Lib.hid hlen
            clear hxe hlen hD
            go_wp2_with fail
            refine (dp_steal _ _ _ _ _ _ _ hD' hsz).mono ?_
            rintro e w4 ⟨rfl, hD4, hc4⟩
            have hb4 := hb.trans (hc4.below hsz (fun k hk h => by omega))
            obtain ⟨g2, o2, cc, hA, _, _, hcc, _, hcell, _⟩ := win_shape hD4.win hpos
            injection hA with hA _ hcc2
            subst hA hcc2
            have cx : w4.cell? ⟨g2, o2, none⟩ = some (.int .i64 x) := hcell 0 (.int .i64 x) (by rw [HX.out]; simp)
            clear hcell
            by_cases hc1 : c = 1
            · subst hc1
              have hle1 : xs.length ≤ 1 := hcc
              go_wp2_with fail
              have hD5 : DP w.heap.size w4 w1.heap.size (.slice (some ⟨g2, o2, none⟩) (xs.length - 1) 0) ys ys := by
                have e0 : ys = [] := by have := HL.out; exact List.length_eq_zero_iff.1 (by omega)
                have e1 : xs.length - 1 = 0 := by omega
                rw [e0] at hD4 ⊢
                rw [e1]
                exact hD4.cut (ys' := []) (win_none hD4.win) (fun k hk => hk)
              refine (dp_len _ _ _ _ _ _ hD5).mono ?_
              rintro e w6 ⟨rfl, rfl⟩
              have hne : ((ys.length : Int) != ((xs.length - 1 : Nat) : Int)) = false := by rw [HL.out]; simp
              have hyl : ys.length ≤ k + 1 := by have := HL.out; omega
              go_wp2_with fail
              go_roundw
              case rel => exact ⟨k + 1, ys, some ⟨g2, o2, none⟩, 0, by omega, by go_num, by rw [show ys.length = 0 by have := HL.out; omega], by have := HL.out; rw [this] at hD5; exact hD5, hyl, hb4⟩
              case measure => simp [intOf]; omega
            · have hc2 : 1 < c := by omega
              go_wp2_with fail
              have hD5 : DP w.heap.size w4 w1.heap.size (.slice (some ⟨g2, o2 + 1, none⟩) (xs.length - 1) (c - 1)) ys ys := by
                have := win_drop hD4.win 1 (by omega)
                refine hD4.cut ?_ (fun k hk => hk)
                rw [Nat.mul_one, ← List.map_drop] at this
                have e : xs.drop 1 = ys := by rw [HX.out]; simp
                rw [e] at this
                rw [HL.out] at this ⊢
                exact this
              refine (dp_len _ _ _ _ _ _ hD5).mono ?_
              rintro e w6 ⟨rfl, rfl⟩
              have hne : ((ys.length : Int) != ((xs.length - 1 : Nat) : Int)) = false := by rw [HL.out]; simp
              have hyl : ys.length ≤ k + 1 := by have := HL.out; omega
              go_wp2_with fail
              go_roundw
              case rel => exact ⟨k + 1, ys, some ⟨g2, o2 + 1, none⟩, c - 1, by omega, by go_num, by rw [HL.out]; rfl, by have := HL.out; rw [this] at hD5; exact hD5, hyl, hb4⟩
              case measure => simp [intOf]; omega
      · go_wp2
        go_ret
        exact ⟨rfl, hb⟩
end Go.Proofs.Ytmjgbdmjeadmaaa
