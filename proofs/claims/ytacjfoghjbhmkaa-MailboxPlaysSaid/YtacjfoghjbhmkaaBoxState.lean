/- The state of the laws over a mailbox: the box, and a slice apart. -/
import Derived.Test.YtacjfoghjbhmkaaBoxTake
namespace Go.Proofs.Ytacjfoghjbhmkaa
open Go.RowKit Go.MuLone
def MB (B : Nat) (w : World) (b : Nat) (av : Value) (room : Int) (cl : Bool) (xs ys : List Int) : Prop :=
  ∃ c v, Bx B w b c v room cl xs ∧ B ≤ b ∧ B ≤ c ∧ Win w B 3 1 av ys.length (ys.map fun x => .int .i64 x) ∧ ∀ k, av.ownBlock = some k → ¬ v.ownBlock = some k
theorem MB.win {B : Nat} {w : World} {b : Nat} {av : Value} {room : Int} {cl : Bool} {xs ys : List Int} (h : MB B w b av room cl xs ys) : Win w B 3 1 av ys.length (ys.map fun x => .int .i64 x) := by
  obtain ⟨c, v, h1, h2, h3, h4, h5⟩ := h; exact h4
theorem mb_of {B : Nat} {w w' : World} {b c : Nat} {av v v' : Value} {room room' : Int} {cl cl' : Bool} {xs xs' ys : List Int} (h1 : Bx B w b c v room cl xs) (h2 : B ≤ b) (h3 : B ≤ c) (h4 : Win w B 3 1 av ys.length (ys.map fun x => .int .i64 x)) (h5 : ∀ k, av.ownBlock = some k → ¬ v.ownBlock = some k)
    (h1' : Bx B w' b c v' room' cl' xs') (hc : Chg (fun k => k = b ∨ k = c ∨ v.ownBlock = some k) w w') (hat : v'.ownBlock = v.ownBlock ∨ ∃ k, v'.ownBlock = some k ∧ w.heap.size ≤ k) :
    MB B w' b av room' cl' xs' ys ∧ Chg (fun k => B ≤ k) w w' := by
  refine ⟨⟨c, v', h1', h2, h3, win_chg h4 hc ?_, ?_⟩, hc.mono fun i _ hi => ?_⟩
  · rintro k hk (rfl | rfl | e)
    · exact win_ne h4 h1.1 (by decide) hk
    · obtain ⟨kk, _, hcc⟩ := h1.2.1
      exact win_ne h4 hcc (by decide) hk
    · exact h5 k hk e
  · intro k hk
    rcases hat with hat | ⟨k', hk', hlt⟩
    · rw [hat]; exact h5 k hk
    · rw [hk']
      intro e
      injection e with e
      have := (win_lt h4 k hk).2
      omega
  · rcases hi with hi | hi | hi
    · omega
    · omega
    · exact (own_lt h1.2.2 i hi).1
theorem Chg.b3 {b c : Nat} {v : Value} {w w' : World} (h : Chg (· = b) w w') : Chg (fun k => k = b ∨ k = c ∨ v.ownBlock = some k) w w' := h.mono fun _ _ => .inl
theorem Chg.bc3 {b c : Nat} {v : Value} {w w' : World} (h : Chg (fun k => k = b ∨ k = c) w w') : Chg (fun k => k = b ∨ k = c ∨ v.ownBlock = some k) w w' := h.mono fun _ _ h => h.elim .inl fun h => .inr (.inl h)
theorem mb_len (B : Nat) (w : World) (b : Nat) (av : Value) (room : Int) (cl : Bool) (xs ys : List Int) (h : MB B w b av room cl xs ys) :
    Calls Try.prog 17 #[.pointer (some ⟨b, 0, none⟩)] w fun e w' => e = .returned (.int .i64 (xs.length : Nat)) ∧ MB B w' b av room cl xs ys ∧ Chg (fun k => B ≤ k) w w' := by
  obtain ⟨c, v, h1, h2, h3, h4, h5⟩ := h
  refine (box_len B w b c v room cl xs h1).mono ?_
  rintro e w' ⟨rfl, h', hc⟩
  exact ⟨rfl, mb_of h1 h2 h3 h4 h5 h' hc.b3 (.inl rfl)⟩
theorem mb_close (B : Nat) (w : World) (b : Nat) (av : Value) (room : Int) (cl : Bool) (xs ys : List Int) (h : MB B w b av room cl xs ys) :
    Calls Try.prog 12 #[.pointer (some ⟨b, 0, none⟩)] w fun e w' => e = .returned (.tuple #[]) ∧ MB B w' b av room true xs ys ∧ Chg (fun k => B ≤ k) w w' := by
  obtain ⟨c, v, h1, h2, h3, h4, h5⟩ := h
  refine (box_close B w b c v room cl xs h1).mono ?_
  rintro e w' ⟨rfl, h', hc⟩
  exact ⟨rfl, mb_of h1 h2 h3 h4 h5 h' hc.bc3 (.inl rfl)⟩
theorem mb_Put_no (B : Nat) (w : World) (b : Nat) (av : Value) (room : Int) (cl : Bool) (xs ys : List Int) (n : Int) (h : MB B w b av room cl xs ys) (hfull : cl = true ∨ room ≤ xs.length) :
    Calls Try.prog 15 #[.pointer (some ⟨b, 0, none⟩), .int .i64 n] w fun e w' => e = .returned (putErr room cl xs) ∧ MB B w' b av room cl xs ys ∧ Chg (fun k => B ≤ k) w w' := by
  obtain ⟨c, v, h1, h2, h3, h4, h5⟩ := h
  go_enter Try.func15, Try.ntmps15
  go_wp2_with fail
  refine (box_put_no B w b c v room cl xs n false h1 (fun h => by cases h) hfull).mono ?_
  rintro e w' ⟨rfl, h', hc⟩
  go_wp2
  go_ret
  exact ⟨rfl, mb_of h1 h2 h3 h4 h5 h' hc.b3 (.inl rfl)⟩
theorem mb_Put_ok (B : Nat) (w : World) (b : Nat) (av : Value) (room : Int) (xs ys : List Int) (n : Int) (h : MB B w b av room false xs ys) (hroom : (xs.length : Int) < room) (hl : xs.length ≤ 100000) (hB : B ≤ w.heap.size) :
    Calls Try.prog 15 #[.pointer (some ⟨b, 0, none⟩), .int .i64 n] w fun e w' => e = .returned .nilIface ∧ MB B w' b av room false (xs ++ [n]) ys ∧ Chg (fun k => B ≤ k) w w' := by
  obtain ⟨c, v, h1, h2, h3, h4, h5⟩ := h
  have HR := Lib.hid hroom
  clear hroom
  go_enter Try.func15, Try.ntmps15
  go_wp2_with fail
  refine (box_put_ok B w b c v room xs n false h1 HR.out hl hB).mono ?_
  rintro e w' ⟨rfl, v', h', hc, hat⟩
  go_wp2
  go_ret
  exact ⟨rfl, mb_of h1 h2 h3 h4 h5 h' hc hat⟩
theorem mb_Push_no (B : Nat) (w : World) (b : Nat) (av : Value) (room : Int) (xs ys : List Int) (n : Int) (h : MB B w b av room true xs ys)  :
    Calls Try.prog 11 #[.pointer (some ⟨b, 0, none⟩), .int .i64 n] w fun e w' => e = .returned (putErr room true xs) ∧ MB B w' b av room true xs ys ∧ Chg (fun k => B ≤ k) w w' := by
  obtain ⟨c, v, h1, h2, h3, h4, h5⟩ := h
  go_enter Try.func11, Try.ntmps11
  go_wp2_with fail
  refine (box_put_no B w b c v room true xs n true h1 (fun _ => rfl) (.inl rfl)).mono ?_
  rintro e w' ⟨rfl, h', hc⟩
  go_wp2
  go_ret
  exact ⟨rfl, mb_of h1 h2 h3 h4 h5 h' hc.b3 (.inl rfl)⟩
theorem mb_Push_ok (B : Nat) (w : World) (b : Nat) (av : Value) (room : Int) (xs ys : List Int) (n : Int) (h : MB B w b av room false xs ys) (hroom : (xs.length : Int) < room) (hl : xs.length ≤ 100000) (hB : B ≤ w.heap.size) :
    Calls Try.prog 11 #[.pointer (some ⟨b, 0, none⟩), .int .i64 n] w fun e w' => e = .returned .nilIface ∧ MB B w' b av room false (xs ++ [n]) ys ∧ Chg (fun k => B ≤ k) w w' := by
  obtain ⟨c, v, h1, h2, h3, h4, h5⟩ := h
  have HR := Lib.hid hroom
  clear hroom
  go_enter Try.func11, Try.ntmps11
  go_wp2_with fail
  refine (box_put_ok B w b c v room xs n true h1 HR.out hl hB).mono ?_
  rintro e w' ⟨rfl, v', h', hc, hat⟩
  go_wp2
  go_ret
  exact ⟨rfl, mb_of h1 h2 h3 h4 h5 h' hc hat⟩
theorem mb_Try_none (B : Nat) (w : World) (b : Nat) (av : Value) (room : Int) (cl : Bool) (ys : List Int) (h : MB B w b av room cl [] ys) :
    Calls Try.prog 16 #[.pointer (some ⟨b, 0, none⟩)] w fun e w' => e = .returned (.tuple #[.int .i64 0, .bool false]) ∧ MB B w' b av room cl [] ys ∧ Chg (fun k => B ≤ k) w w' := by
  obtain ⟨c, v, h1, h2, h3, h4, h5⟩ := h
  go_enter Try.func16, Try.ntmps16
  go_wp2_with fail
  refine (box_take_none B w b c v room cl false h1 (fun h => by cases h)).mono ?_
  rintro e w' ⟨rfl, h', hc⟩
  go_wp2
  go_ret2
  exact ⟨rfl, mb_of h1 h2 h3 h4 h5 h' hc.b3 (.inl rfl)⟩
theorem mb_Try_some (B : Nat) (w : World) (b : Nat) (av : Value) (room : Int) (cl : Bool) (x : Int) (xs ys : List Int) (h : MB B w b av room cl (x :: xs) ys) (hl : xs.length ≤ 100000) (hB : B ≤ w.heap.size) :
    Calls Try.prog 16 #[.pointer (some ⟨b, 0, none⟩)] w fun e w' => e = .returned (.tuple #[.int .i64 x, .bool true]) ∧ MB B w' b av room cl xs ys ∧ Chg (fun k => B ≤ k) w w' := by
  obtain ⟨c, v, h1, h2, h3, h4, h5⟩ := h
  go_enter Try.func16, Try.ntmps16
  go_wp2_with fail
  refine (box_take_some B w b c v room cl x xs false h1 hl hB).mono ?_
  rintro e w' ⟨rfl, v', h', hc, hat⟩
  go_wp2
  go_ret2
  exact ⟨rfl, mb_of h1 h2 h3 h4 h5 h' hc hat⟩
theorem mb_Take_none (B : Nat) (w : World) (b : Nat) (av : Value) (room : Int)  (ys : List Int) (h : MB B w b av room true [] ys) :
    Calls Try.prog 13 #[.pointer (some ⟨b, 0, none⟩)] w fun e w' => e = .returned (.tuple #[.int .i64 0, .bool false]) ∧ MB B w' b av room true [] ys ∧ Chg (fun k => B ≤ k) w w' := by
  obtain ⟨c, v, h1, h2, h3, h4, h5⟩ := h
  go_enter Try.func13, Try.ntmps13
  go_wp2_with fail
  refine (box_take_none B w b c v room true true h1 (fun _ => rfl)).mono ?_
  rintro e w' ⟨rfl, h', hc⟩
  go_wp2
  go_ret2
  exact ⟨rfl, mb_of h1 h2 h3 h4 h5 h' hc.b3 (.inl rfl)⟩
theorem mb_Take_some (B : Nat) (w : World) (b : Nat) (av : Value) (room : Int) (cl : Bool) (x : Int) (xs ys : List Int) (h : MB B w b av room cl (x :: xs) ys) (hl : xs.length ≤ 100000) (hB : B ≤ w.heap.size) :
    Calls Try.prog 13 #[.pointer (some ⟨b, 0, none⟩)] w fun e w' => e = .returned (.tuple #[.int .i64 x, .bool true]) ∧ MB B w' b av room cl xs ys ∧ Chg (fun k => B ≤ k) w w' := by
  obtain ⟨c, v, h1, h2, h3, h4, h5⟩ := h
  go_enter Try.func13, Try.ntmps13
  go_wp2_with fail
  refine (box_take_some B w b c v room cl x xs true h1 hl hB).mono ?_
  rintro e w' ⟨rfl, v', h', hc, hat⟩
  go_wp2
  go_ret2
  exact ⟨rfl, mb_of h1 h2 h3 h4 h5 h' hc hat⟩
theorem mb_new (B : Nat) (w : World) (room : Int) (h1 : 1 ≤ room) (h2 : room ≤ 1000) (hB : B ≤ w.heap.size) :
    Calls Try.prog 10 #[.int .i64 room] w fun e w' => e = .returned (.tuple #[.pointer (some ⟨w.heap.size, 0, none⟩), .nilIface]) ∧ MB B w' w.heap.size (.slice none 0 0) room false [] [] ∧ Chg (fun k => B ≤ k) w w' := by
  go_enter Try.func10, Try.ntmps10
  go_wp2
  go_ret2
  refine ⟨rfl, ⟨w.heap.size + 1, .slice none 0 0, ⟨blk_alloc _ (blk_new w _), ⟨_, .inl rfl, ?_⟩, World.ownsRow_nil _ _ _ _⟩, hB, by omega, win_nil _ _ _ _, fun k hk => by simp [Value.ownBlock] at hk⟩, ((Chg.refl _ _).alloc _).alloc _⟩
  have k := blk_new (w.alloc (.cells #[.int .i32 0, .int .u32 0, .pointer (some ⟨w.heap.size + 1, 0, none⟩), .int .i64 room, .slice none 0 0, .bool false] 86)) (.cells #[.iface 88 (.pointer (some ⟨w.heap.size, 0, none⟩)), .int .u32 0, .int .u32 0, .int .u64 0, .pointer none, .pointer none, .int .u64 0] 126)
  rw [show (w.alloc (.cells #[.int .i32 0, .int .u32 0, .pointer (some ⟨w.heap.size + 1, 0, none⟩), .int .i64 room, .slice none 0 0, .bool false] 86)).heap.size = w.heap.size + 1 by simp] at k
  exact k
theorem mb_new_no (w : World) (room : Int) (h : room < 1 ∨ 1000 < room) :
    Calls Try.prog 10 #[.int .i64 room] w fun e w' => e = .returned (.tuple #[.pointer none, .iface 32 (.int .i64 1)]) ∧ w = w' := by
  rcases h with h | h
  all_goals
    go_enter Try.func10, Try.ntmps10
    go_wp2
    go_ret2
    exact ⟨rfl, rfl⟩
end Go.Proofs.Ytacjfoghjbhmkaa
