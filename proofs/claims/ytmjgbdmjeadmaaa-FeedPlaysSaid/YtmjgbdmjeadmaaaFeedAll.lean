/- The walk of the law 'FeedAll'. -/
import Derived.Test.YtmjgbdmjeadmaaaFeed
namespace Go.Proofs.Ytmjgbdmjeadmaaa
open Go.RowKit
/-- A feed with one reader, whose list and number are r; all its blocks are newer than w's. -/
def FSt (w wr : World) (f : Nat) (room : Int) (r : List Int × Int) : Prop :=
  ∃ S rd, Feed S w.heap.size wr f room 1 rd ∧ rd 0 = r ∧ (∀ k, S k → w.heap.size ≤ k) ∧ Below w.heap.size w wr
theorem fst_read (w : World) (wr : World) (f : Nat) (room : Int) (h : Feed (fun k => w.heap.size ≤ k) w.heap.size wr f room 0 (fun _ => ([], 0))) (hb : Below w.heap.size w wr) :
    Calls Try.prog 37 #[.pointer (some ⟨f, 0, none⟩)] wr fun e w' => e = .returned (.tuple #[.int .i64 0, .nilIface]) ∧ FSt w w' f room ([], 0) := by
  refine (feed_read _ _ _ _ _ _ _ h (by omega) hb.size).mono ?_
  rintro e w2 ⟨rfl, hf2, hc2⟩
  have hsz := hb.size
  exact ⟨rfl, _, _, hf2, rfl, fun k hk => by rcases hk with hk | hk <;> omega, hb.trans (hc2.below hsz (fun k hk h => by omega))⟩
theorem fst_add (w : World) (wr : World) (f : Nat) (room n : Int) (r : List Int × Int) (h : FSt w wr f room r) (hr1 : 1 ≤ room) (hr2 : room ≤ 100) (h1 : (r.1.length : Int) ≤ room) (h2 : 0 ≤ r.2) (h3 : r.2 ≤ 1000000) :
    Calls Try.prog 36 #[.pointer (some ⟨f, 0, none⟩), .int .i64 n] wr fun e w' => e = .returned (.tuple #[]) ∧ FSt w w' f room (feedAdd room n r) := by
  obtain ⟨S, rd, hf, rfl, hS, hb⟩ := h
  have hsz := hb.size
  refine (feed_add _ _ _ _ _ _ _ hf n hr1 hr2 (fun i hi => (show i = 0 by omega) ▸ ⟨h1, h2, h3⟩) (by omega) hb.size).mono ?_
  rintro e w2 ⟨rfl, hf2, hc2⟩
  exact ⟨rfl, _, _, hf2, rfl, fun k hk => by rcases hk with hk | hk; exact hS k hk; omega, hb.trans (hc2.below hsz (fun k hk h => by have := hS k h; omega))⟩
theorem fst_poll (w : World) (wr : World) (f : Nat) (room : Int) (r : List Int × Int) (h : FSt w wr f room r) :
    Calls Try.prog 38 #[.pointer (some ⟨f, 0, none⟩), .int .i64 0] wr fun e w' => ∃ v, e = .returned (.tuple #[v, .int .i64 r.2, .nilIface]) ∧ w'.ownsRow w.heap.size 2 1 v r.1.length (r.1.map (.int .i64)) ∧ FSt w w' f room ([], 0) := by
  obtain ⟨S, rd, hf, rfl, hS, hb⟩ := h
  have hsz := hb.size
  refine (feed_poll _ _ _ _ _ _ _ hf 0 (by omega) hb.size).mono ?_
  rintro e w2 ⟨v, rfl, ho, hf2, hc2⟩
  exact ⟨v, rfl, ho, _, _, hf2, rfl, fun k hk => by rcases hk with hk | hk; exact hS k hk.1; omega, hb.trans (hc2.below hsz (fun k hk h => by have := hS k h; omega))⟩
theorem feed_up (w : World) : Calls Try.prog 33 #[] w fun e w' => e = .returned (.bool true) ∧ Below w.heap.size w w' := by
  have hu24 := Try.underlying24
  go_enter Try.func33, Try.ntmps33
  go_wp2_with fail
  refine (feed_new w 2 (by omega) (by omega) w.heap.size (Nat.le_refl _)).mono ?_
  rintro e w1 ⟨f, rfl, hf1, hb1⟩
  go_wp2_with fail
  refine (fst_read _ _ _ _ hf1 hb1).mono ?_
  rintro e w2 ⟨rfl, hf2⟩
  go_wp2_with fail
  refine (fst_add _ _ _ _ _ _ hf2 (by omega) (by omega) (by simp) (by simp) (by simp)).mono ?_
  rintro e w3 ⟨rfl, hf3⟩
  have e3 : feedAdd 2 1 ([], 0) = ([1], 0) := by decide
  rw [e3] at hf3
  clear e3
  go_wp2_with fail
  refine (fst_add _ _ _ _ _ _ hf3 (by omega) (by omega) (by simp) (by simp) (by simp)).mono ?_
  rintro e w4 ⟨rfl, hf4⟩
  have e3 : feedAdd 2 2 ([1], 0) = ([1, 2], 0) := by decide
  rw [e3] at hf4
  clear e3
  go_wp2_with fail
  refine (fst_add _ _ _ _ _ _ hf4 (by omega) (by omega) (by simp) (by simp) (by simp)).mono ?_
  rintro e w5 ⟨rfl, hf5⟩
  have e3 : feedAdd 2 3 ([1, 2], 0) = ([2, 3], 1) := by decide
  rw [e3] at hf5
  clear e3
  go_wp2_with fail
  refine (fst_poll _ _ _ _ _ hf5).mono ?_
  rintro e w6 ⟨v, rfl, ho, _, _, _, _, _, hb6⟩
  obtain ⟨g, cap, rfl, _, _, _, _, hc, _⟩ := own_shape ho (by simp)
  have c0 := hc 0 (.int .i64 2) rfl
  clear hc ho
  go_wp2_with fail
  go_ret
  exact ⟨rfl, hb6⟩
theorem ints_at {w : World} {v : Value} {xs : List Int} {F : Nat → Prop} (h : (Rep.int .i64).slice.ok F w [v] xs) :
    ∃ A cap, v = .slice A xs.length cap ∧ (0 < xs.length → ∃ b off, A = some ⟨b, off, none⟩ ∧ F b ∧ b < w.heap.size ∧ ∀ i (hi : i < xs.length), w.cell? ⟨b, off + i, none⟩ = some (.int .i64 xs[i]) ∧ (Lit.int .i64 xs[i]).wf = true) := by
  obtain ⟨A, cap, hv, hA⟩ := Rep.slice_open h
  refine ⟨A, cap, hv, fun h0 => ?_⟩
  obtain ⟨b, off, hA1, hb, hlt, _, _, hel⟩ := hA h0
  refine ⟨b, off, hA1, hb, hlt, fun i hi => ?_⟩
  obtain ⟨c, hc, hcell, rfl, hw⟩ := hel i hi
  exact ⟨by simpa [Rep.int] using hcell 0 (by simp), hw⟩
/-- What was told so far, what was lost, and what waits: together i. -/
def FOk (w wr : World) (f : Nat) (room many i : Int) : Prop :=
  ∃ r : List Int × Int, FSt w wr f room r ∧ many + r.1.length + r.2 = i ∧ (r.1.length : Int) ≤ room ∧ 0 ≤ r.2 ∧ (0 < r.2 → (r.1.length : Int) = room) ∧ 0 ≤ many
theorem fok_add (w : World) (wr : World) (f : Nat) (room n many i : Int) (h : FOk w wr f room many i) (hr1 : 1 ≤ room) (hr2 : room ≤ 100) (hi : i ≤ 1000) :
    Calls Try.prog 36 #[.pointer (some ⟨f, 0, none⟩), .int .i64 n] wr fun e w' => e = .returned (.tuple #[]) ∧ FOk w w' f room many (i + 1) := by
  obtain ⟨r, hr, h1, h2, h3, h4, h5⟩ := h
  refine (fst_add _ _ _ _ n _ hr hr1 hr2 h2 h3 (by omega)).mono ?_
  rintro e w2 ⟨rfl, hf2⟩
  refine ⟨rfl, _, hf2, ?_, ?_, ?_, ?_, h5⟩
  all_goals
    simp only [feedAdd]
    split <;> simp at * <;> omega
theorem fok_poll (w : World) (wr : World) (f : Nat) (room many i : Int) (h : FOk w wr f room many i) :
    Calls Try.prog 38 #[.pointer (some ⟨f, 0, none⟩), .int .i64 0] wr fun e w' => ∃ A len cap lost, e = .returned (.tuple #[.slice A len cap, .int .i64 lost, .nilIface]) ∧ FOk w w' f room (many + len + lost) i ∧ many + len + lost = i ∧ (len : Int) ≤ room ∧ (0 < lost → (len : Int) = room) ∧ 0 ≤ lost ∧ 0 ≤ many := by
  obtain ⟨r, hr, h1, h2, h3, h4, h5⟩ := h
  refine (fst_poll _ _ _ _ _ hr).mono ?_
  rintro e w2 ⟨v, rfl, ho, hf2⟩
  obtain ⟨A, cap, rfl⟩ := own_slice ho
  exact ⟨A, _, cap, _, rfl, ⟨_, hf2, by simp; omega, by simp; omega, by simp, by simp, by omega⟩, h1, h2, h4, h3, h5⟩
theorem FOk.below {w wr : World} {f : Nat} {room many i : Int} (h : FOk w wr f room many i) : Below w.heap.size w wr := by
  obtain ⟨r, ⟨_, _, _, _, _, hb⟩, _⟩ := h
  exact hb
set_option maxHeartbeats 4000000 in
set_option maxRecDepth 100000 in
theorem FeedAll_walk (w : World) (v0 v1 v2 : Value) (room : Int) (l polls : List Int) (h0 : (Rep.int .i64).ok (fun b => b < w.heap.size) w [v0] room) (h1 : (Rep.int .i64).slice.ok (fun b => b < w.heap.size) w [v1] l) (h2 : (Rep.int .i64).slice.ok (fun b => b < w.heap.size) w [v2] polls) :
    Calls Try.prog 10 #[v0, v1, v2] w fun e w' => e = .returned (.bool true) ∧ Below w.heap.size w w' := by
  have hu24 := Try.underlying24
  have hen : ∀ (w : World) (v : Value), (binOp .eql 24 (.iface 27 v) .nilIface).run Try.prog w = .ok (.bool false) w := fun w v => run_eql_held_nil w _ _ _ Try.underlying24
  obtain ⟨h0, hwr⟩ := h0
  obtain rfl : v0 = .int .i64 room := by simpa using h0
  obtain ⟨A1, c1, rfl, hA1⟩ := ints_at h1
  obtain ⟨A2, c2, rfl, hA2⟩ := ints_at h2
  have HA1 := Lib.hid hA1
  have HA2 := Lib.hid hA2
  clear h0 h1 h2 hA1 hA2
  by_cases hroom : room < 1 ∨ 100 < room
  · go_enter Try.func10, Try.ntmps10
    go_wp2_with fail
    refine (feed_up _).mono ?_
    rintro e w1 ⟨rfl, hb1⟩
    go_wp2_with fail
    refine (feed_new_bad _ _ hroom).mono ?_
    rintro e w2 ⟨rfl, rfl⟩
    go_wp2_with fail
    go_ret
    exact ⟨rfl, hb1⟩
  · have hr1 : 1 ≤ room := by omega
    have hr2 : room ≤ 100 := by omega
    clear hroom
    go_enter Try.func10, Try.ntmps10
    go_wp2_with fail
    refine (feed_up _).mono ?_
    rintro e w1 ⟨rfl, hb1⟩
    go_wp2_with fail
    refine (feed_new _ room hr1 hr2 w.heap.size hb1.size).mono ?_
    rintro e w2 ⟨f, rfl, hf2, hb2⟩
    have hb := hb1.trans (hb2.mono hb1.size)
    have hf : Feed (fun k => w.heap.size ≤ k) w.heap.size w2 f room 0 (fun _ => ([], 0)) := by
      obtain ⟨sv, P, V, h⟩ := hf2
      exact ⟨sv, P, V, h.mono fun k hk => Nat.le_trans hb1.size hk⟩
    clear hf2
    by_cases hl : 200 < l.length
    · go_wp2_with fail
      go_ret
      exact ⟨rfl, hb⟩
    by_cases hp : 100 < polls.length
    · go_wp2_with fail
      go_ret
      exact ⟨rfl, hb⟩
    go_wp2_with fail
    refine (fst_read _ _ _ _ hf hb).mono ?_
    rintro e w3 ⟨rfl, hf3⟩
    have hF3 : FOk w w3 f room 0 0 := ⟨_, hf3, by simp, by simp; omega, by simp, by simp, by simp⟩
    clear hf hf3
    go_wp2_with fail
    go_loopw [12, 13] (fun a i wr => ∃ (k : Nat) (many : Int), k ≤ l.length ∧ i = .int .i64 k ∧ a = .int .i64 many ∧ FOk w wr f room many k) (fun _ i _ => l.length - (intOf i).toNat)
    case atStart => exact ⟨0, 0, Nat.zero_le _, rfl, rfl, hF3⟩
    case round =>
      obtain ⟨k, many, hk, rfl, rfl, hF⟩ := hrel
      by_cases hlt : k < l.length
      · obtain ⟨b1, o1, rfl, _, hl1, hel1⟩ := HA1.out (by omega)
        obtain ⟨c1', hw1⟩ := hel1 k hlt
        have c1'' := (hF.below.cell (p := ⟨b1, o1 + k, none⟩) hl1).trans c1'
        clear c1' hel1
        go_wp2_with fail
        refine (fok_add _ _ _ _ _ _ _ hF hr1 hr2 (by omega)).mono ?_
        rintro e w4 ⟨rfl, hF4⟩
        go_wp2_with fail
        obtain ⟨wo, rfl⟩ : ∃ wo : World, wo = wr := ⟨_, rfl⟩
        go_loopw [12, 14] (fun a i wr => ∃ (k' : Nat) (many : Int), k' ≤ polls.length ∧ i = .int .i64 k' ∧ a = .int .i64 many ∧ FOk w wr f room many (k + 1)) (fun _ i _ => polls.length - (intOf i).toNat)
        case atStart => exact ⟨0, many, Nat.zero_le _, rfl, rfl, hF4⟩
        case round =>
          obtain ⟨k', many', hk', rfl, rfl, hF'⟩ := hrel
          by_cases hlt' : k' < polls.length
          · obtain ⟨b2, o2, rfl, _, hl2, hel2⟩ := HA2.out (by omega)
            obtain ⟨c2', hw2⟩ := hel2 k' hlt'
            have c2'' := (hF'.below.cell (p := ⟨b2, o2 + k', none⟩) hl2).trans c2'
            clear c2' hel2
            rcases hq : (polls[k'] == (k : Int)) with _ | _
            · go_wp2_with fail
              go_roundw
              case rel => exact ⟨k' + 1, many', by omega, by go_num, rfl, hF'⟩
              case measure => simp [intOf]; omega
            · go_wp2_with fail
              refine (fok_poll _ _ _ _ _ _ hF').mono ?_
              rintro e w5 ⟨A, len, cap, lost, rfl, hF5, k1, k2, k3, k4, k5⟩
              have k7 : many' + (len : Int) + lost ≤ 1000 := by omega
              clear k1
              by_cases hlo : 0 < lost
              · have k6 := k3 hlo
                have hne : ((len : Int) != room) = false := by simp [k6]
                have K6 := Lib.hid k6
                clear k6
                go_wp2_with fail
                go_roundw
                case rel => exact ⟨k' + 1, _, by omega, by go_num, rfl, by first | exact hF5 | (rw [K6.out] at hF5; exact hF5)⟩
                case measure => simp [intOf]; omega
              · go_wp2_with fail
                go_roundw
                case rel => exact ⟨k' + 1, _, by omega, by go_num, rfl, hF5⟩
                case measure => simp [intOf]; omega
          · have : k' = polls.length := by omega
            subst this
            go_wp2_with fail
            go_roundw
            case rel => exact ⟨k + 1, many', by omega, by go_num, rfl, by simpa using hF'⟩
            case measure => simp [intOf]; omega
      · have : k = l.length := by omega
        subst this
        go_wp2_with fail
        refine (fok_poll _ _ _ _ _ _ hF).mono ?_
        rintro e w5 ⟨A, len, cap, lost, rfl, hF5, k1, k2, k3, k4, k5⟩
        have hb5 := hF5.below
        have k7 : many + (len : Int) + lost ≤ 1000 := by omega
        have he : (many + (len : Int) + lost == (l.length : Int)) = true := beq_iff_eq.2 k1
        clear k1
        go_wp2_with fail
        go_ret
        exact ⟨rfl, hb5⟩
end Go.Proofs.Ytmjgbdmjeadmaaa
