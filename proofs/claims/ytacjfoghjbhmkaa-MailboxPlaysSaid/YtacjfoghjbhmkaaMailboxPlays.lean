/- The walk of the law 'MailboxPlays'. -/
import Derived.Test.YtacjfoghjbhmkaaMailboxTakes
import Derived.Test.YtacjfoghjbhmkaaStepApp
namespace Go.Proofs.Ytacjfoghjbhmkaa
open Go.RowKit
theorem mailbox_pick (c : Int) (w : World) (h1 : -9223372036854775808 ≤ c) (h2 : c ≤ 9223372036854775807) : Calls Try.prog 14 #[.int .i64 c, .int .i64 6] w fun e w' => ∃ r : Int, e = .returned (.int .i64 r) ∧ (r = 0 ∨ r = 1 ∨ r = 2 ∨ r = 3 ∨ r = 4 ∨ r = 5) ∧ w = w' := by
  by_cases h : c < 0
  all_goals
    go_enter Try.func14, Try.ntmps14
    go_wp2
    go_ret
    first
    | exact ⟨_, rfl, by omega, rfl⟩
    | (have k := tmod_neg (c + 1) 6 (by omega)
       exact ⟨_, rfl, by omega, rfl⟩)
def RDeed16 : Rep (Int × Int × Unit) := (Rep.int .i64).pair ((Rep.int .i64).pair Rep.unit)
set_option maxRecDepth 100000 in
theorem RDeed16.reads : Reads Try.prog 37 RDeed16 :=
  reads_struct Try.underlying37 (fields_cons rfl (reads_int Try.underlying3 (by kernel_rfl)) (fields_cons rfl (reads_int Try.underlying3 (by kernel_rfl)) (fields_nil _ _))) (by kernel_rfl)
theorem deed16_at {w : World} {v : Value} {xs : List (Int × Int × Unit)} (h : RDeed16.slice.ok (fun b => b < w.heap.size) w [v] xs) :
    ∃ A cap, v = .slice A xs.length cap ∧ (0 < xs.length → ∃ b off, A = some ⟨b, off, none⟩ ∧ b < w.heap.size ∧
      ∀ i (hi : i < xs.length), w.cell? ⟨b, off + i * 2, none⟩ = some (.int .i64 xs[i].1) ∧ w.cell? ⟨b, off + i * 2 + 1, none⟩ = some (.int .i64 xs[i].2.1) ∧ (Lit.int .i64 xs[i].1).wf = true) := by
  obtain ⟨A, cap, hv, hA⟩ := Rep.slice_open h
  refine ⟨A, cap, hv, fun h0 => ?_⟩
  obtain ⟨b, off, hA1, hb, hlt, _, _, hel⟩ := hA h0
  refine ⟨b, off, hA1, hlt, fun i hi => ?_⟩
  obtain ⟨c, hc, hcell, hok⟩ := hel i hi
  obtain ⟨c1, d1, rfl, _, ⟨rfl, hw1⟩, c2, d2, rfl, _, ⟨rfl, hw2⟩, rfl⟩ := hok
  exact ⟨hcell 0 (by simp), hcell 1 (by simp), hw1⟩
theorem MB.cut {B : Nat} {w : World} {g : Nat} {av v1 : Value} {room : Int} {cl : Bool} {xs ys ys' : List Int} (h : MB B w g av room cl xs ys) (hw : Win w B 3 1 v1 ys'.length (ys'.map fun x => .int .i64 x)) (hv : ∀ k, v1.ownBlock = some k → av.ownBlock = some k) : MB B w g v1 room cl xs ys' := by
  obtain ⟨c, v, h1, h2, h3, h4, h5⟩ := h
  exact ⟨c, v, h1, h2, h3, hw, fun k hk => h5 k (hv k hk)⟩
theorem MB.app {B : Nat} {w w' : World} {b : Nat} {av v1 : Value} {room : Int} {cl : Bool} {xs ys zs : List Int} (h : MB B w b av room cl xs ys) (hb : Below w.heap.size w w') (hown : w'.ownsRow w.heap.size 3 1 v1 zs.length (zs.map fun x => .int .i64 x)) (hB : B ≤ w.heap.size) : MB B w' b v1 room cl xs zs := by
  obtain ⟨c, v, h1, h2, h3, h4, h5⟩ := h
  have hc : Chg (fun _ => False) w w' := Chg.of_below hb
  exact ⟨c, v, ⟨hc.blk h1.1 id, h1.2.1.keep hc id, own_chg h1.2.2 hc fun _ _ h => h⟩, h2, h3, win_of_own (own_weaken hown hB), fun k hk e => by have := (own_lt hown k hk).1; have := (own_lt h1.2.2 k e).2; omega⟩
set_option maxHeartbeats 8000000 in
set_option maxRecDepth 100000 in
theorem MailboxPlays_walk (w : World) (v0 v1 : Value) (room : Int) (d : List (Int × Int × Unit)) (h0 : (Rep.int .i64).ok (fun b => b < w.heap.size) w [v0] room) (h1 : RDeed16.slice.ok (fun b => b < w.heap.size) w [v1] d) :
    Calls Try.prog 4 #[v0, v1] w fun e w' => e = .returned (.bool true) ∧ Below w.heap.size w w' := by
  obtain ⟨hv0, hw0⟩ := h0
  obtain rfl : v0 = .int .i64 room := by simpa using hv0
  obtain ⟨A1, c1, rfl, hA1⟩ := deed16_at h1
  have HA1 := Lib.hid hA1
  clear h1 hA1 hv0
  have heq := eqErr
  have hne := neErr
  have hnn := neErrNil
  by_cases hr : room < 1 ∨ 1000 < room
  · have d1 : (decide (room < 1) || decide (1000 < room)) = true := by rcases hr with h | h <;> simp <;> omega
    have HR := Lib.hid hr
    rcases hr with hr | hr
    all_goals
      clear d1
      go_enter Try.func4, Try.ntmps4
      go_wp2_with fail
      refine (mailbox_up _).mono ?_
      rintro e w1 ⟨rfl, hb1⟩
      go_wp2_with fail
      refine (mb_new_no w1 room HR.out).mono ?_
      rintro e w2 ⟨rfl, rfl⟩
      go_wp2_with fail
      go_ret
      exact ⟨rfl, hb1⟩
  have hr1 : 1 ≤ room := by omega
  have hr2 : room ≤ 1000 := by omega
  clear hr
  by_cases hl : 200 < d.length
  · go_enter Try.func4, Try.ntmps4
    go_wp2_with fail
    refine (mailbox_up _).mono ?_
    rintro e w1 ⟨rfl, hb1⟩
    have hz1 := hb1.size
    go_wp2_with fail
    refine (mb_new w.heap.size w1 room hr1 hr2 hz1).mono ?_
    rintro e w2 ⟨rfl, h2, hc2⟩
    have hb2 := hb1.trans (hc2.below hz1 (fun k hk h => by omega))
    go_wp2_with fail
    go_ret
    exact ⟨rfl, hb2⟩
  have d2 : decide ((200 : Int) < (d.length : Int)) = false := decide_eq_false (by omega)
  have hl2 : d.length ≤ 200 := by omega
  clear hl
  go_enter Try.func4, Try.ntmps4
  go_wp2_with fail
  refine (mailbox_up _).mono ?_
  rintro e w1 ⟨rfl, hb1⟩
  have hz1 := hb1.size
  go_wp2_with fail
  refine (mb_new w.heap.size w1 room hr1 hr2 hz1).mono ?_
  rintro e w2 ⟨rfl, h2, hc2⟩
  have hb2 := hb1.trans (hc2.below hz1 (fun k hk h => by omega))
  clear hc2
  go_wp2_with fail
  go_loopw [8, 9, 10] (fun s8 s9 i wr => ∃ (k : Nat) (xs : List Int) (A : Option Addr) (c : Nat) (cl : Bool), k ≤ d.length ∧ i = .int .i64 k ∧ s8 = .slice A xs.length c ∧ s9 = .bool cl ∧ MB w.heap.size wr w1.heap.size (.slice A xs.length c) room cl xs xs ∧ xs.length ≤ k ∧ Below w.heap.size w wr) (fun _ _ i _ => d.length - (intOf i).toNat)
  case atStart => exact ⟨0, [], none, 0, false, Nat.zero_le _, rfl, rfl, rfl, h2, by simp, hb2⟩
  case round =>
    obtain ⟨k, xs, A, c, cl, hk, rfl, rfl, rfl, hD, hxk, hb⟩ := hrel
    by_cases hlt : k < d.length
    · obtain ⟨b1, o1, rfl, hl1, hel1⟩ := HA1.out (by omega)
      obtain ⟨x0, x1, hw1⟩ := hel1 k hlt
      obtain ⟨q1, q2⟩ := bounds_i64 hw1
      have y0 := (hb.cell (p := ⟨b1, o1 + k * 2, none⟩) hl1).trans x0
      have y1 := (hb.cell (p := ⟨b1, o1 + k * 2 + 1, none⟩) hl1).trans x1
      clear x0 hw1 hel1
      generalize d[k].1 = n0 at *
      generalize d[k].2.1 = n1 at *
      have hsz := hb.size
      go_wp2_with fail
      refine (mailbox_pick _ _ q1 q2).mono ?_
      rintro e w3 ⟨r, rfl, hr, rfl⟩
      rcases hr with rfl | rfl | rfl | rfl | rfl | rfl
      · as_aux_lemma =>
          obtain rfl | rfl : cl = true ∨ cl = false := by cases cl <;> simp
          · cases hf : decide (room ≤ (xs.length : Int))
            all_goals
              go_wp2_with fail
              refine (mb_Put_no _ _ _ _ _ true _ _ n1 hD (.inl rfl)).mono ?_
              rintro e w4 ⟨rfl, hD4, hc4⟩
              have hb4 := hb.trans (hc4.below hsz (fun k hk h => by omega))
              have hz4 := hb4.size
              rw [show putErr room true xs = .iface 32 (.int .i64 12) from rfl]
              go_wp2_with fail
              go_roundw
              case rel => exact ⟨k + 1, xs, A, c, true, by omega, by go_num, rfl, rfl, hD4, by omega, hb4⟩
              case measure => simp [intOf]; omega
          · by_cases hfull : room ≤ xs.length
            · have hf : decide (room ≤ (xs.length : Int)) = true := decide_eq_true hfull
              have HF := Lib.hid hfull
              clear hfull
              go_wp2_with fail
              refine (mb_Put_no _ _ _ _ _ false _ _ n1 hD (.inr HF.out)).mono ?_
              rintro e w4 ⟨rfl, hD4, hc4⟩
              have hb4 := hb.trans (hc4.below hsz (fun k hk h => by omega))
              have hz4 := hb4.size
              rw [show putErr room false xs = .iface 32 (.int .i64 6) by simp [putErr, HF.out]]
              go_wp2_with fail
              go_roundw
              case rel => exact ⟨k + 1, xs, A, c, false, by omega, by go_num, rfl, rfl, hD4, by omega, hb4⟩
              case measure => simp [intOf]; omega
            · have hf : decide (room ≤ (xs.length : Int)) = false := decide_eq_false hfull
              have HF := Lib.hid hfull
              clear hfull
              go_wp2_with fail
              refine (mb_Put_ok _ _ _ _ _ _ _ n1 hD (by have := HF.out; omega) (by omega) hsz).mono ?_
              rintro e w4 ⟨rfl, hD4, hc4⟩
              have hb4 := hb.trans (hc4.below hsz (fun k hk h => by omega))
              have hz4 := hb4.size
              have y1' := (hb4.cell (p := ⟨b1, o1 + k * 2 + 1, none⟩) hl1).trans x1
              go_wp2_with fail
              have hl4 : b1 < w4.heap.size := Nat.lt_of_lt_of_le hl1 hz4
              have hAn : A = none → xs.length = 0 ∧ c = 0 := by
                rintro rfl
                obtain ⟨_, ⟨hv, h0⟩ | ⟨g2, o2, cc, cur, hv, _⟩⟩ := hD4.win
                · injection hv with _ _ hcc
                  exact ⟨h0, hcc⟩
                · injection hv with hA _ _
                  cases hA
              have HAN := Lib.hid hAn
              have HC : Hid (∀ W, Below w4.heap.size w4 W → ∀ ad, A = some ad → ∀ j u, (xs.map (Value.int .i64))[j]? = some u → W.cell? (ad.add j) = some u) := by
                intro W hW ad had j u hj
                have hpos : 0 < xs.length := by
                  have := (List.getElem?_eq_some_iff.1 hj).1
                  simp at this
                  omega
                obtain ⟨g2, o2, cc, hA, hB2, hg2, hcc, hcm, hcell, _⟩ := win_shape hD4.win hpos
                injection hA with hA _ hcc2
                rw [had] at hA
                injection hA with hA
                subst hA
                rw [add_at]
                exact (hW.cell hg2).trans (hcell j u hj)
              have HY1 : Hid (∀ u ∈ xs.map (Value.int .i64), u.oneCell' = true) := by
                intro u hu; obtain ⟨x, _, rfl⟩ := List.mem_map.1 hu; rfl
              have HYL := Lib.hid (show (xs.map (Value.int .i64)).length = xs.length * 1 by simp)
              clear hAn
              go_region_law (first
                | (refine step_lit rfl (.tmp 137) (.tmp 138) 22 rfl 3 (.int .i64 0) 1 8 Try.underlying22 int_info rfl (by decide) (by decide) w4.heap.size _ rfl A xs.length c (xs.map (Value.int .i64)) rfl HAN.out HYL.out (by first | exact blk_drew (blk_new _ _) | exact blk_alloc _ (blk_drew (blk_new _ _)) | exact blk_drew (blk_alloc _ (blk_new _ _)) | (have hh := blk_new (w4.alloc (.cells #[.int .i64 n1] 3)) (.cells #[] 3); rw [show (w4.alloc (.cells #[.int .i64 n1] 3)).heap.size = w4.heap.size + 1 by simp] at hh; exact blk_drew hh)) (by first | omega | (simp; done) | (simp; omega)) (HC.out _ (by first | exact ((Below.refl w4.heap.size w4).drew.alloc (Nat.le_refl _) _) | exact (((Below.refl w4.heap.size w4).drew.alloc (Nat.le_refl _) _).alloc (by simp) _))) HY1.out (by omega) ?_; intro v5 w5 hown5' hchg5; have hb5 := Below.trans (by first | exact ((Below.refl w4.heap.size w4).drew.alloc (Nat.le_refl _) _) | exact (((Below.refl w4.heap.size w4).drew.alloc (Nat.le_refl _) _).alloc (by simp) _)) (hchg5.below (B := w4.heap.size) (by first | omega | (simp; done) | (simp; omega)) (fun k hk h => by first | omega | (simp at h; omega))); have hz5 := hb5.size; have y5 := (hb5.cell (p := ⟨b1, o1 + k * 2 + 1, none⟩) hl4).trans y1')
                | (refine step_app rfl (.tmp 139) (.tmp 145) 22 rfl 3 (.int .i64 0) 1 8 Try.underlying22 int_info rfl (by decide) (by decide) w4.heap.size v5 xs.length (xs.map (Value.int .i64)) rfl ⟨_, 0, none⟩ 1 1 [.int .i64 n1] rfl rfl (by first | exact hown5' | exact own_alloc hown5' _) (by intro j u hj; have hj0 : j = 0 := (by cases j with | zero => rfl | succ j => simp at hj); subst hj0; injection hj with hj; subst hj; rw [add_at]; first | (simp [go_sem]; done) | exact (hchg5.cell (p := ⟨_, 0, none⟩) (by first | omega | (simp; done) | (simp; omega)) (by first | omega | (simp; done) | (simp; omega))).trans (by simp [go_sem])) (by simp [Value.oneCell']) (by first | omega | (simp; done) | (simp; omega)) (by omega) ?_; intro v6 w6 hown6 hchg6; have hb6 : Below w4.heap.size w4 w6 := Below.trans (by first | exact hb5 | exact hb5.alloc (by omega) _) (hchg6.below (by first | omega | (simp; done) | (simp; omega)) (fun k hk h => by have := (own_lt hown5' k h).1; omega)); obtain ⟨g6, cap6, rfl, _⟩ := own_shape hown6 (by omega)))
              all_goals
                have hb7 := hb.trans ((hc4.below hsz (fun k hk h => by omega)).trans (hb6.mono hz4))
                have hD7 := hD4.app hb6 (zs := xs ++ [n1]) (by simpa using hown6) hz4
                go_wp2_with fail
                go_roundw
                case rel => exact ⟨k + 1, xs ++ [n1], some ⟨g6, 0, none⟩, cap6, false, by omega, by go_num, by simp, rfl, by simpa using hD7, by simp; omega, hb7⟩
                case measure => simp [intOf]; omega
      · as_aux_lemma =>
          obtain rfl | rfl : cl = true ∨ cl = false := by cases cl <;> simp
          · cases hf : decide (room ≤ (xs.length : Int))
            all_goals
              go_wp2_with fail
              refine (mb_Push_no _ _ _ _ _ _ _ n1 hD).mono ?_
              rintro e w4 ⟨rfl, hD4, hc4⟩
              have hb4 := hb.trans (hc4.below hsz (fun k hk h => by omega))
              have hz4 := hb4.size
              rw [show putErr room true xs = .iface 32 (.int .i64 12) from rfl]
              go_wp2_with fail
              go_roundw
              case rel => exact ⟨k + 1, xs, A, c, true, by omega, by go_num, rfl, rfl, hD4, by omega, hb4⟩
              case measure => simp [intOf]; omega
          · by_cases hfull : room ≤ xs.length
            · have hf : decide (room ≤ (xs.length : Int)) = true := decide_eq_true hfull
              clear hfull
              go_wp2_with fail
              go_roundw
              case rel => exact ⟨k + 1, xs, A, c, false, by omega, by go_num, rfl, rfl, hD, by omega, hb⟩
              case measure => simp [intOf]; omega
            · have hf : decide (room ≤ (xs.length : Int)) = false := decide_eq_false hfull
              have HF := Lib.hid hfull
              clear hfull
              go_wp2_with fail
              refine (mb_Push_ok _ _ _ _ _ _ _ n1 hD (by have := HF.out; omega) (by omega) hsz).mono ?_
              rintro e w4 ⟨rfl, hD4, hc4⟩
              have hb4 := hb.trans (hc4.below hsz (fun k hk h => by omega))
              have hz4 := hb4.size
              have y1' := (hb4.cell (p := ⟨b1, o1 + k * 2 + 1, none⟩) hl1).trans x1
              go_wp2_with fail
              have hl4 : b1 < w4.heap.size := Nat.lt_of_lt_of_le hl1 hz4
              have hAn : A = none → xs.length = 0 ∧ c = 0 := by
                rintro rfl
                obtain ⟨_, ⟨hv, h0⟩ | ⟨g2, o2, cc, cur, hv, _⟩⟩ := hD4.win
                · injection hv with _ _ hcc
                  exact ⟨h0, hcc⟩
                · injection hv with hA _ _
                  cases hA
              have HAN := Lib.hid hAn
              have HC : Hid (∀ W, Below w4.heap.size w4 W → ∀ ad, A = some ad → ∀ j u, (xs.map (Value.int .i64))[j]? = some u → W.cell? (ad.add j) = some u) := by
                intro W hW ad had j u hj
                have hpos : 0 < xs.length := by
                  have := (List.getElem?_eq_some_iff.1 hj).1
                  simp at this
                  omega
                obtain ⟨g2, o2, cc, hA, hB2, hg2, hcc, hcm, hcell, _⟩ := win_shape hD4.win hpos
                injection hA with hA _ hcc2
                rw [had] at hA
                injection hA with hA
                subst hA
                rw [add_at]
                exact (hW.cell hg2).trans (hcell j u hj)
              have HY1 : Hid (∀ u ∈ xs.map (Value.int .i64), u.oneCell' = true) := by
                intro u hu; obtain ⟨x, _, rfl⟩ := List.mem_map.1 hu; rfl
              have HYL := Lib.hid (show (xs.map (Value.int .i64)).length = xs.length * 1 by simp)
              clear hAn
              go_region_law (first
                | (refine step_lit rfl (.tmp 137) (.tmp 138) 22 rfl 3 (.int .i64 0) 1 8 Try.underlying22 int_info rfl (by decide) (by decide) w4.heap.size _ rfl A xs.length c (xs.map (Value.int .i64)) rfl HAN.out HYL.out (by first | exact blk_drew (blk_new _ _) | exact blk_alloc _ (blk_drew (blk_new _ _)) | exact blk_drew (blk_alloc _ (blk_new _ _)) | (have hh := blk_new (w4.alloc (.cells #[.int .i64 n1] 3)) (.cells #[] 3); rw [show (w4.alloc (.cells #[.int .i64 n1] 3)).heap.size = w4.heap.size + 1 by simp] at hh; exact blk_drew hh)) (by first | omega | (simp; done) | (simp; omega)) (HC.out _ (by first | exact ((Below.refl w4.heap.size w4).drew.alloc (Nat.le_refl _) _) | exact (((Below.refl w4.heap.size w4).drew.alloc (Nat.le_refl _) _).alloc (by simp) _))) HY1.out (by omega) ?_; intro v5 w5 hown5' hchg5; have hb5 := Below.trans (by first | exact ((Below.refl w4.heap.size w4).drew.alloc (Nat.le_refl _) _) | exact (((Below.refl w4.heap.size w4).drew.alloc (Nat.le_refl _) _).alloc (by simp) _)) (hchg5.below (B := w4.heap.size) (by first | omega | (simp; done) | (simp; omega)) (fun k hk h => by first | omega | (simp at h; omega))); have hz5 := hb5.size; have y5 := (hb5.cell (p := ⟨b1, o1 + k * 2 + 1, none⟩) hl4).trans y1')
                | (refine step_app rfl (.tmp 139) (.tmp 145) 22 rfl 3 (.int .i64 0) 1 8 Try.underlying22 int_info rfl (by decide) (by decide) w4.heap.size v5 xs.length (xs.map (Value.int .i64)) rfl ⟨_, 0, none⟩ 1 1 [.int .i64 n1] rfl rfl (by first | exact hown5' | exact own_alloc hown5' _) (by intro j u hj; have hj0 : j = 0 := (by cases j with | zero => rfl | succ j => simp at hj); subst hj0; injection hj with hj; subst hj; rw [add_at]; first | (simp [go_sem]; done) | exact (hchg5.cell (p := ⟨_, 0, none⟩) (by first | omega | (simp; done) | (simp; omega)) (by first | omega | (simp; done) | (simp; omega))).trans (by simp [go_sem])) (by simp [Value.oneCell']) (by first | omega | (simp; done) | (simp; omega)) (by omega) ?_; intro v6 w6 hown6 hchg6; have hb6 : Below w4.heap.size w4 w6 := Below.trans (by first | exact hb5 | exact hb5.alloc (by omega) _) (hchg6.below (by first | omega | (simp; done) | (simp; omega)) (fun k hk h => by have := (own_lt hown5' k h).1; omega)); obtain ⟨g6, cap6, rfl, _⟩ := own_shape hown6 (by omega)))
              all_goals
                have hb7 := hb.trans ((hc4.below hsz (fun k hk h => by omega)).trans (hb6.mono hz4))
                have hD7 := hD4.app hb6 (zs := xs ++ [n1]) (by simpa using hown6) hz4
                go_wp2_with fail
                go_roundw
                case rel => exact ⟨k + 1, xs ++ [n1], some ⟨g6, 0, none⟩, cap6, false, by omega, by go_num, by simp, rfl, by simpa using hD7, by simp; omega, hb7⟩
                case measure => simp [intOf]; omega
      · as_aux_lemma =>
          obtain rfl | ⟨x, ys, hxe⟩ : xs = [] ∨ ∃ x ys, xs = x :: ys := by cases xs with
            | nil => exact .inl rfl
            | cons x ys => exact .inr ⟨x, ys, rfl⟩
          · go_wp2_with fail
            refine (mb_Try_none _ _ _ _ _ _ _ hD).mono ?_
            rintro e w4 ⟨rfl, hD4, hc4⟩
            have hb4 := hb.trans (hc4.below hsz (fun k hk h => by omega))
            have hz4 := hb4.size
            go_wp2_with fail
            go_roundw
            case rel => exact ⟨k + 1, [], A, c, cl, by omega, by go_num, rfl, rfl, hD4, by simp, hb4⟩
            case measure => simp [intOf]; omega
          · have hlen : xs.length = ys.length + 1 := by rw [hxe]; simp
            have hpos : 0 < xs.length := by omega
            have hD' : MB w.heap.size wr w1.heap.size (.slice A xs.length c) room cl (x :: ys) xs := by
              rw [← hxe]; exact hD
            have HX := Lib.hid hxe
            have HL := Lib.hid hlen
            have e1 : decide ((0 : Int) < (xs.length : Int)) = true := decide_eq_true (by omega)
            have e2 : (((xs.length : Nat) : Int) == 0) = false := beq_eq_false_iff_ne.mpr (by omega)
            clear hxe hlen hD
            go_wp2_with fail
            refine (mb_Try_some _ _ _ _ _ _ x ys _ hD' (by have := HL.out; omega) hsz).mono ?_
            rintro e w4 ⟨rfl, hD4, hc4⟩
            have hb4 := hb.trans (hc4.below hsz (fun k hk h => by omega))
            obtain ⟨g2, o2, cc, hA, _, _, hcc, _, hcell, _⟩ := win_shape hD4.win hpos
            injection hA with hA _ hcc2
            subst hA hcc2
            have cx : w4.cell? ⟨g2, o2, none⟩ = some (.int .i64 x) := hcell 0 (.int .i64 x) (by rw [HX.out]; simp)
            clear hcell
            have hyl : ys.length ≤ k + 1 := by have := HL.out; omega
            by_cases hc1 : c = 1
            · subst hc1
              have hle1 : xs.length ≤ 1 := hcc
              have hD5 : MB w.heap.size w4 w1.heap.size (.slice (some ⟨g2, o2, none⟩) (xs.length - 1) 0) room cl ys ys := by
                have e0 : ys = [] := by have := HL.out; exact List.length_eq_zero_iff.1 (by omega)
                have e1 : xs.length - 1 = 0 := by omega
                rw [e0] at hD4 ⊢
                rw [e1]
                exact hD4.cut (ys' := []) (win_none hD4.win) (fun k hk => hk)
              have hYL := Lib.hid (show xs.length - 1 = ys.length by have := HL.out; omega)
              rw [hYL.out] at hD5
              have HE := Lib.hid (show ys.length = 0 by have := HL.out; omega)
              go_wp2_with fail
              go_roundw
              case rel => exact ⟨k + 1, ys, some ⟨g2, o2, none⟩, 0, cl, by omega, by go_num, by rw [HE.out], rfl, hD5, hyl, hb4⟩
              case measure => simp [intOf]; omega
            · have hc2 : 1 < c := by omega
              have hD5 : MB w.heap.size w4 w1.heap.size (.slice (some ⟨g2, o2 + 1, none⟩) (xs.length - 1) (c - 1)) room cl ys ys := by
                have := win_drop hD4.win 1 (by omega)
                refine hD4.cut ?_ (fun k hk => hk)
                rw [Nat.mul_one, ← List.map_drop] at this
                have e : xs.drop 1 = ys := by rw [HX.out]; simp
                rw [e] at this
                rw [HL.out] at this ⊢
                exact this
              have hYL := Lib.hid (show xs.length - 1 = ys.length by have := HL.out; omega)
              rw [hYL.out] at hD5
              go_wp2_with fail
              go_roundw
              case rel => exact ⟨k + 1, ys, some ⟨g2, o2 + 1, none⟩, c - 1, cl, by omega, by go_num, by rw [hYL.out], rfl, hD5, hyl, hb4⟩
              case measure => simp [intOf]; omega
      · as_aux_lemma =>
          obtain rfl | ⟨x, ys, hxe⟩ : xs = [] ∨ ∃ x ys, xs = x :: ys := by cases xs with
            | nil => exact .inl rfl
            | cons x ys => exact .inr ⟨x, ys, rfl⟩
          · cases cl
            · go_wp2_with fail
              go_roundw
              case rel => exact ⟨k + 1, [], A, c, false, by omega, by go_num, rfl, rfl, hD, by simp, hb⟩
              case measure => simp [intOf]; omega
            · go_wp2_with fail
              refine (mb_Try_none _ _ _ _ _ _ _ hD).mono ?_
              rintro e w4 ⟨rfl, hD4, hc4⟩
              have hb4 := hb.trans (hc4.below hsz (fun k hk h => by omega))
              have hz4 := hb4.size
              go_wp2_with fail
              refine (mb_Take_none _ _ _ _ _ _ hD4).mono ?_
              rintro e w5 ⟨rfl, hD5, hc5⟩
              have hb5 := hb4.trans (hc5.below hz4 (fun k hk h => by omega))
              go_wp2_with fail
              go_roundw
              case rel => exact ⟨k + 1, [], A, c, true, by omega, by go_num, rfl, rfl, hD5, by simp, hb5⟩
              case measure => simp [intOf]; omega
          · have hlen : xs.length = ys.length + 1 := by rw [hxe]; simp
            have hpos : 0 < xs.length := by omega
            have hD' : MB w.heap.size wr w1.heap.size (.slice A xs.length c) room cl (x :: ys) xs := by
              rw [← hxe]; exact hD
            have HX := Lib.hid hxe
            have HL := Lib.hid hlen
            have e1 : decide ((0 : Int) < (xs.length : Int)) = true := decide_eq_true (by omega)
            have e2 : (((xs.length : Nat) : Int) == 0) = false := beq_eq_false_iff_ne.mpr (by omega)
            clear hxe hlen hD
            go_wp2_with fail
            refine (mb_Try_some _ _ _ _ _ _ x ys _ hD' (by have := HL.out; omega) hsz).mono ?_
            rintro e w4 ⟨rfl, hD4, hc4⟩
            have hb4 := hb.trans (hc4.below hsz (fun k hk h => by omega))
            obtain ⟨g2, o2, cc, hA, _, _, hcc, _, hcell, _⟩ := win_shape hD4.win hpos
            injection hA with hA _ hcc2
            subst hA hcc2
            have cx : w4.cell? ⟨g2, o2, none⟩ = some (.int .i64 x) := hcell 0 (.int .i64 x) (by rw [HX.out]; simp)
            clear hcell
            have hyl : ys.length ≤ k + 1 := by have := HL.out; omega
            by_cases hc1 : c = 1
            · subst hc1
              have hle1 : xs.length ≤ 1 := hcc
              have hD5 : MB w.heap.size w4 w1.heap.size (.slice (some ⟨g2, o2, none⟩) (xs.length - 1) 0) room cl ys ys := by
                have e0 : ys = [] := by have := HL.out; exact List.length_eq_zero_iff.1 (by omega)
                have e1 : xs.length - 1 = 0 := by omega
                rw [e0] at hD4 ⊢
                rw [e1]
                exact hD4.cut (ys' := []) (win_none hD4.win) (fun k hk => hk)
              have hYL := Lib.hid (show xs.length - 1 = ys.length by have := HL.out; omega)
              rw [hYL.out] at hD5
              have HE := Lib.hid (show ys.length = 0 by have := HL.out; omega)
              go_wp2_with fail
              go_roundw
              case rel => exact ⟨k + 1, ys, some ⟨g2, o2, none⟩, 0, cl, by omega, by go_num, by rw [HE.out], rfl, hD5, hyl, hb4⟩
              case measure => simp [intOf]; omega
            · have hc2 : 1 < c := by omega
              have hD5 : MB w.heap.size w4 w1.heap.size (.slice (some ⟨g2, o2 + 1, none⟩) (xs.length - 1) (c - 1)) room cl ys ys := by
                have := win_drop hD4.win 1 (by omega)
                refine hD4.cut ?_ (fun k hk => hk)
                rw [Nat.mul_one, ← List.map_drop] at this
                have e : xs.drop 1 = ys := by rw [HX.out]; simp
                rw [e] at this
                rw [HL.out] at this ⊢
                exact this
              have hYL := Lib.hid (show xs.length - 1 = ys.length by have := HL.out; omega)
              rw [hYL.out] at hD5
              go_wp2_with fail
              go_roundw
              case rel => exact ⟨k + 1, ys, some ⟨g2, o2 + 1, none⟩, c - 1, cl, by omega, by go_num, by rw [hYL.out], rfl, hD5, hyl, hb4⟩
              case measure => simp [intOf]; omega
      · as_aux_lemma =>
          go_wp2_with fail
          refine (mb_len _ _ _ _ _ _ _ _ hD).mono ?_
          rintro e w4 ⟨rfl, hD4, hc4⟩
          have hb4 := hb.trans (hc4.below hsz (fun k hk h => by omega))
          have hz4 := hb4.size
          go_wp2_with fail
          go_roundw
          case rel => exact ⟨k + 1, xs, A, c, cl, by omega, by go_num, rfl, rfl, hD4, by omega, hb4⟩
          case measure => simp [intOf]; omega
      · as_aux_lemma =>
          go_wp2_with fail
          refine (mb_close _ _ _ _ _ _ _ _ hD).mono ?_
          rintro e w4 ⟨rfl, hD4, hc4⟩
          have hb4 := hb.trans (hc4.below hsz (fun k hk h => by omega))
          have hz4 := hb4.size
          go_wp2_with fail
          go_roundw
          case rel => exact ⟨k + 1, xs, A, c, true, by omega, by go_num, rfl, rfl, hD4, by omega, hb4⟩
          case measure => simp [intOf]; omega
    · have hsz := hb.size
      go_wp2_with fail
      refine (mb_len _ _ _ _ _ _ _ _ hD).mono ?_
      rintro e w4 ⟨rfl, hD4, hc4⟩
      have hb4 := hb.trans (hc4.below hsz (fun k hk h => by omega))
      go_wp2
      go_ret
      exact ⟨rfl, hb4⟩
end Go.Proofs.Ytacjfoghjbhmkaa
