/- The walk of the law 'DequeOnce'. -/
import Derived.Test.YtmjgbdmjeadmaaaDequePlays
namespace Go.Proofs.Ytmjgbdmjeadmaaa
open Go.RowKit
/-- A deque of strings at block g holds xs; it is newer than block B. -/
def DS (B : Nat) (w : World) (g : Nat) (xs : List ByteArray) : Prop :=
  ∃ S cs rv first, DqS.Dq S B w g 0 cs rv first xs ∧ (∀ k, S k → B ≤ k ∧ k < w.heap.size) ∧ B ≤ g
theorem ds_start (B : Nat) (w : World) (hB : B ≤ w.heap.size) : DS B (w.alloc (.cells #[.slice none 0 0, .int .i64 0, .int .i64 0] 72)) w.heap.size [] :=
  ⟨fun _ => False, _, .slice none 0 0, 0, ⟨⟨blk_new _ _, rfl, rfl, rfl⟩, [], World.ownsRow_nil _ _ _ _, fun k hk => by simp [Value.ownBlock] at hk, ring_nil, by simp⟩, fun k hk => hk.elim, hB⟩
theorem DS.of {B : Nat} {w w' : World} {g : Nat} {xs xs' : List ByteArray} {S : Nat → Prop} {cs cs' : Array Value} {rv rv' : Value} {first first' : Nat} (_ : DqS.Dq S B w g 0 cs rv first xs) (h2 : ∀ k, S k → B ≤ k ∧ k < w.heap.size) (h3 : B ≤ g)
    (hd : DqS.Dq (fun k => S k ∨ w.heap.size ≤ k) B w' g 0 cs' rv' first' xs') (hc : Chg (fun k => k = g ∨ S k) w w') (hB : B ≤ w.heap.size) : DS B w' g xs' ∧ Chg (fun k => B ≤ k) w w' := by
  have hsz := hc.size
  refine ⟨⟨_, cs', rv', first', hd.bound, ?_, h3⟩, hc.mono fun i _ hi => by rcases hi with hi | hi; omega; exact (h2 i hi).1⟩
  rintro k ⟨hk | hk, hk2⟩
  · exact ⟨(h2 k hk).1, hk2⟩
  · exact ⟨by omega, hk2⟩
theorem DqS_wide {S S' : Nat → Prop} {B : Nat} {w : World} {d o : Nat} {cs : Array Value} {rv : Value} {first : Nat} {xs : List ByteArray} (h : DqS.Dq S B w d o cs rv first xs) (hS : ∀ k, S k → S' k) : DqS.Dq S' B w d o cs rv first xs := by
  obtain ⟨hA, R, ho, hS1, hr⟩ := h
  exact ⟨hA, R, ho, fun k hk => hS k (hS1 k hk), hr⟩
theorem ds_push (B : Nat) (w : World) (g : Nat) (xs : List ByteArray) (x : ByteArray) (h : DS B w g xs) (hl : xs.length ≤ 100000) (hB : B ≤ w.heap.size) :
    Calls Try.prog 46 #[.pointer (some ⟨g, 0, none⟩), .string x] w fun e w' => e = .returned (.tuple #[]) ∧ DS B w' g (xs ++ [x]) ∧ Chg (fun k => B ≤ k) w w' := by
  obtain ⟨S, cs, rv, first, h1, h2, h3⟩ := h
  refine (DqS.push_any S B w g 0 cs rv first xs x h1 hl hB).mono ?_
  rintro e w' ⟨rfl, ⟨rv', first', hd⟩, hc⟩
  exact ⟨rfl, DS.of h1 h2 h3 hd hc hB⟩
theorem ds_pop (B : Nat) (w : World) (g : Nat) (xs : List ByteArray) (x : ByteArray) (h : DS B w g (xs ++ [x])) (hB : B ≤ w.heap.size) :
    Calls Try.prog 48 #[.pointer (some ⟨g, 0, none⟩)] w fun e w' => e = .returned (.tuple #[.string x, .bool true]) ∧ DS B w' g xs ∧ Chg (fun k => B ≤ k) w w' := by
  obtain ⟨S, cs, rv, first, h1, h2, h3⟩ := h
  refine (DqS.pop_any S B w g 0 cs rv first xs x h1).mono ?_
  rintro e w' ⟨rfl, hd, hc⟩
  exact ⟨rfl, DS.of h1 h2 h3 (DqS_wide hd fun k hk => .inl hk) hc hB⟩
theorem ds_steal (B : Nat) (w : World) (g : Nat) (xs : List ByteArray) (x : ByteArray) (h : DS B w g (x :: xs)) (hB : B ≤ w.heap.size) :
    Calls Try.prog 47 #[.pointer (some ⟨g, 0, none⟩)] w fun e w' => e = .returned (.tuple #[.string x, .bool true]) ∧ DS B w' g xs ∧ Chg (fun k => B ≤ k) w w' := by
  obtain ⟨S, cs, rv, first, h1, h2, h3⟩ := h
  refine (DqS.steal_any S B w g 0 cs rv first xs x h1).mono ?_
  rintro e w' ⟨rfl, ⟨first', hd⟩, hc⟩
  exact ⟨rfl, DS.of h1 h2 h3 (DqS_wide hd fun k hk => .inl hk) hc hB⟩
theorem ds_pop_none (B : Nat) (w : World) (g : Nat) (h : DS B w g []) :
    Calls Try.prog 48 #[.pointer (some ⟨g, 0, none⟩)] w fun e w' => e = .returned (.tuple #[.string ⟨#[]⟩, .bool false]) ∧ w = w' := by
  obtain ⟨S, cs, rv, first, h1, _⟩ := h
  exact DqS.pop_none S B w g 0 cs rv first h1
theorem ds_steal_none (B : Nat) (w : World) (g : Nat) (h : DS B w g []) :
    Calls Try.prog 47 #[.pointer (some ⟨g, 0, none⟩)] w fun e w' => e = .returned (.tuple #[.string ⟨#[]⟩, .bool false]) ∧ w = w' := by
  obtain ⟨S, cs, rv, first, h1, _⟩ := h
  exact DqS.steal_none S B w g 0 cs rv first h1
theorem ds_len (B : Nat) (w : World) (g : Nat) (xs : List ByteArray) (h : DS B w g xs) :
    Calls Try.prog 49 #[.pointer (some ⟨g, 0, none⟩)] w fun e w' => e = .returned (.int .i64 (xs.length : Nat)) ∧ w = w' := by
  obtain ⟨S, cs, rv, first, h1, _⟩ := h
  exact DqS.len_any w g 0 cs rv first _ h1.1
theorem strs_at {w : World} {v : Value} {xs : List ByteArray} {F : Nat → Prop} (h : Rep.str.slice.ok F w [v] xs) :
    ∃ A cap, v = .slice A xs.length cap ∧ (0 < xs.length → ∃ b off, A = some ⟨b, off, none⟩ ∧ F b ∧ b < w.heap.size ∧ ∀ i (hi : i < xs.length), w.cell? ⟨b, off + i, none⟩ = some (.string xs[i]) ∧ xs[i].size ≤ maxLen) := by
  obtain ⟨A, cap, hv, hA⟩ := Rep.slice_open h
  refine ⟨A, cap, hv, fun h0 => ?_⟩
  obtain ⟨b, off, hA1, hb, hlt, _, _, hel⟩ := hA h0
  refine ⟨b, off, hA1, hb, hlt, fun i hi => ?_⟩
  obtain ⟨c, hc, hcell, rfl, hw⟩ := hel i hi
  exact ⟨by simpa [Rep.str] using hcell 0 (by simp), hw⟩
set_option maxHeartbeats 8000000 in
set_option maxRecDepth 100000 in
theorem DequeOnce_walk (w : World) (v0 v1 : Value) (l : List ByteArray) (steals : Int) (h0 : Rep.str.slice.ok (fun b => b < w.heap.size) w [v0] l) (h1 : (Rep.int .i64).ok (fun b => b < w.heap.size) w [v1] steals) :
    Calls Try.prog 12 #[v0, v1] w fun e w' => e = .returned (.bool true) ∧ Below w.heap.size w w' := by
  obtain ⟨h1, hw1⟩ := h1
  obtain rfl : v1 = .int .i64 steals := by simpa using h1
  obtain ⟨A1, c1, rfl, hA1⟩ := strs_at h0
  obtain ⟨q1, q2⟩ := bounds_i64 hw1
  have HA1 := Lib.hid hA1
  clear h0 hA1 h1 hw1
  by_cases hl : 300 < l.length
  · go_enter Try.func12, Try.ntmps12
    go_wp2_with fail
    refine (deque_up _).mono ?_
    rintro e w1 ⟨rfl, hb1⟩
    go_wp2_with fail
    go_ret
    exact ⟨rfl, hb1⟩
  by_cases hs0 : steals < 0
  · go_enter Try.func12, Try.ntmps12
    go_wp2_with fail
    refine (deque_up _).mono ?_
    rintro e w1 ⟨rfl, hb1⟩
    go_wp2_with fail
    go_ret
    exact ⟨rfl, hb1⟩
  by_cases hs1 : (l.length : Int) < steals
  · have hs2 : 0 ≤ steals := by omega
    go_enter Try.func12, Try.ntmps12
    go_wp2_with fail
    refine (deque_up _).mono ?_
    rintro e w1 ⟨rfl, hb1⟩
    go_wp2_with fail
    go_ret
    exact ⟨rfl, hb1⟩
  obtain ⟨s, rfl⟩ := Int.eq_ofNat_of_zero_le (show 0 ≤ steals by omega)
  have hsl : s ≤ l.length := by omega
  clear hs0 hs1
  have d1 : decide ((300 : Int) < (l.length : Int)) = false := decide_eq_false (by omega)
  have d2 : decide ((s : Int) < 0) = false := decide_eq_false (by omega)
  have d3 : decide (l.length < s) = false := decide_eq_false (by omega)
  go_enter Try.func12, Try.ntmps12
  go_wp2_with fail
  refine (deque_up _).mono ?_
  rintro e w1 ⟨rfl, hb1⟩
  have hz1 := hb1.size
  have hD0 := ds_start w.heap.size w1 hz1
  have hbA := hb1.alloc hz1 (.cells #[.slice none 0 0, .int .i64 0, .int .i64 0] 72)
  go_wp2_with fail
  go_loopw [7] (fun i wr => ∃ (k : Nat), k ≤ l.length ∧ i = .int .i64 k ∧ DS w.heap.size wr w1.heap.size (l.take k) ∧ Below w.heap.size w wr) (fun i _ => l.length - (intOf i).toNat)
  case atStart => exact ⟨0, Nat.zero_le _, rfl, by simpa using hD0, hbA⟩
  case round =>
    obtain ⟨k, hk, rfl, hD, hb⟩ := hrel
    by_cases hlt : k < l.length
    · obtain ⟨b1, o1, rfl, _, hl1, hel1⟩ := HA1.out (by omega)
      obtain ⟨x0, _⟩ := hel1 k hlt
      have y0 := (hb.cell (p := ⟨b1, o1 + k, none⟩) hl1).trans x0
      have hT := Lib.hid (List.take_succ_eq_append_getElem hlt)
      have hsz := hb.size
      clear x0 hel1
      generalize l[k] = x at *
      go_wp2_with fail
      refine (ds_push _ _ _ _ x hD (by simp; omega) hsz).mono ?_
      rintro e w4 ⟨rfl, hD4, hc4⟩
      rw [← hT.out] at hD4
      have hb4 := hb.trans (hc4.below hsz (fun k hk h => by omega))
      go_wp2_with fail
      go_roundw
      case rel => exact ⟨k + 1, by omega, by go_num, hD4, hb4⟩
      case measure => simp [intOf]; omega
    · have hkl : k = l.length := by omega
      subst hkl
      rw [List.take_length] at hD
      clear hD0 hbA
      go_wp2_with fail
      obtain ⟨wo, rfl⟩ : ∃ wo : World, wo = wr := ⟨_, rfl⟩
      go_loopw [8] (fun i wr => ∃ (k : Nat), k ≤ s ∧ i = .int .i64 k ∧ DS w.heap.size wr w1.heap.size (l.drop k) ∧ Below w.heap.size w wr) (fun i _ => s - (intOf i).toNat)
      case atStart => exact ⟨0, Nat.zero_le _, rfl, by simpa using hD, hb⟩
      case round =>
        obtain ⟨k, hk, rfl, hD, hb⟩ := hrel
        by_cases hlt : k < s
        · obtain ⟨b1, o1, rfl, _, hl1, hel1⟩ := HA1.out (by omega)
          obtain ⟨x0, _⟩ := hel1 k (by omega)
          have hsz := hb.size
          have hT := List.drop_eq_getElem_cons (show k < l.length by omega)
          rw [hT] at hD
          clear hel1 hT
          generalize l[k] = x at *
          have hkl : k < l.length := by omega
          go_wp2_with fail
          refine (ds_steal _ _ _ _ x hD hsz).mono ?_
          rintro e w4 ⟨rfl, hD4, hc4⟩
          have hb4 := hb.trans (hc4.below hsz (fun k hk h => by omega))
          have y0 := (hb4.cell (p := ⟨b1, o1 + k, none⟩) hl1).trans x0
          go_wp2_with fail
          go_roundw
          case rel => exact ⟨k + 1, by omega, by go_num, hD4, hb4⟩
          case measure => simp [intOf]; omega
        · have hks : k = s := by omega
          subst hks
          go_wp2_with fail
          obtain ⟨wo2, rfl⟩ : ∃ wo : World, wo = wr := ⟨_, rfl⟩
          go_loopw [11] (fun i wr => ∃ (j : Nat), j ≤ l.length ∧ k ≤ j ∧ i = .int .i64 ((j : Int) - 1) ∧ DS w.heap.size wr w1.heap.size ((l.drop k).take (j - k)) ∧ Below w.heap.size w wr) (fun i _ => (intOf i + 1).toNat)
          case atStart => exact ⟨l.length, Nat.le_refl _, hsl, rfl, by rw [List.take_of_length_le (by simp)]; exact hD, hb⟩
          case round =>
            obtain ⟨j, hj, hkj, rfl, hD, hb⟩ := hrel
            by_cases hlt : k < j
            · obtain ⟨b1, o1, rfl, _, hl1, hel1⟩ := HA1.out (by omega)
              obtain ⟨x0, _⟩ := hel1 (j - 1) (by omega)
              have hsz := hb.size
              have hT : (l.drop k).take (j - k) = (l.drop k).take (j - 1 - k) ++ [l[j - 1]] := by
                rw [show j - k = (j - 1 - k) + 1 by omega, List.take_succ_eq_append_getElem (by simp; omega)]
                congr 2
                rw [List.getElem_drop]
                congr 1; omega
              rw [hT] at hD
              clear hel1 hT
              generalize l[j - 1] = x at *
              go_wp2_with fail
              refine (ds_pop _ _ _ _ x hD hsz).mono ?_
              rintro e w4 ⟨rfl, hD4, hc4⟩
              have hb4 := hb.trans (hc4.below hsz (fun k hk h => by omega))
              have y0 := (hb4.cell (p := ⟨b1, o1 + (j - 1), none⟩) hl1).trans x0
              go_wp2_with fail
              go_roundw
              case rel => exact ⟨j - 1, by omega, by omega, by congr 1; omega, hD4, hb4⟩
              case measure => simp [intOf]; omega
            · have hkj2 : j = k := by omega
              subst hkj2
              rw [Nat.sub_self, List.take_zero] at hD
              go_wp2_with fail
              refine (ds_pop_none _ _ _ hD).mono ?_
              rintro e w4 ⟨rfl, rfl⟩
              go_wp2_with fail
              refine (ds_steal_none _ _ _ hD).mono ?_
              rintro e w4 ⟨rfl, rfl⟩
              go_wp2_with fail
              refine (ds_len _ _ _ _ hD).mono ?_
              rintro e w4 ⟨rfl, rfl⟩
              go_wp2_with fail
              go_ret
              exact ⟨rfl, hb⟩
end Go.Proofs.Ytmjgbdmjeadmaaa
