/- The state of the law 'DequePlays': a deque of ints and a slice, apart. -/
import Derived.Test.YtmjgbdmjeadmaaaDequeInt
import Derived.Test.YtmjgbdmjeadmaaaDequeStr
import Derived.Test.YtmjgbdmjeadmaaaWin
namespace Go.Proofs.Ytmjgbdmjeadmaaa
open Go.RowKit
/-- The deque at block g holds xs; the slice av reads as ys; both are newer than block B. -/
def DP (B : Nat) (w : World) (g : Nat) (av : Value) (xs ys : List Int) : Prop :=
  ∃ S cs rv first, DqI.Dq S B w g 0 cs rv first xs ∧ (∀ k, S k → B ≤ k ∧ k < w.heap.size) ∧ B ≤ g ∧ Win w B 3 1 av ys.length (ys.map (.int .i64)) ∧ ∀ k, av.ownBlock = some k → ¬ S k
theorem dp_start (B : Nat) (w : World) (hB : B ≤ w.heap.size) : DP B (w.alloc (.cells #[.slice none 0 0, .int .i64 0, .int .i64 0] 63)) w.heap.size (.slice none 0 0) [] [] :=
  ⟨fun _ => False, _, .slice none 0 0, 0, ⟨⟨blk_new _ _, rfl, rfl, rfl⟩, [], World.ownsRow_nil _ _ _ _, fun k hk => by simp [Value.ownBlock] at hk, ring_nil, by simp⟩, fun k hk => hk.elim, hB, win_nil _ _ _ _, fun k hk => by simp [Value.ownBlock] at hk⟩
theorem DP.win {B : Nat} {w : World} {g : Nat} {av : Value} {xs ys : List Int} (h : DP B w g av xs ys) : Win w B 3 1 av ys.length (ys.map (.int .i64)) := by
  obtain ⟨S, cs, rv, first, h1, h2, h3, h4, h5⟩ := h; exact h4
theorem dp_len (B : Nat) (w : World) (g : Nat) (av : Value) (xs ys : List Int) (h : DP B w g av xs ys) :
    Calls Try.prog 45 #[.pointer (some ⟨g, 0, none⟩)] w fun e w' => e = .returned (.int .i64 (xs.length : Nat)) ∧ w = w' := by
  obtain ⟨S, cs, rv, first, h1, _⟩ := h
  exact DqI.len_any w g 0 cs rv first _ h1.1
/-- What is made of a deque by a call that changes its own blocks alone. -/
theorem DP.of {B : Nat} {w w' : World} {g : Nat} {av : Value} {xs xs' ys : List Int} {S : Nat → Prop} {cs cs' : Array Value} {rv rv' : Value} {first first' : Nat} (h1 : DqI.Dq S B w g 0 cs rv first xs) (h2 : ∀ k, S k → B ≤ k ∧ k < w.heap.size) (h3 : B ≤ g)
    (h4 : Win w B 3 1 av ys.length (ys.map (.int .i64))) (h5 : ∀ k, av.ownBlock = some k → ¬ S k) (hd : DqI.Dq (fun k => S k ∨ w.heap.size ≤ k) B w' g 0 cs' rv' first' xs') (hc : Chg (fun k => k = g ∨ S k) w w') (hB : B ≤ w.heap.size) :
    DP B w' g av xs' ys ∧ Chg (fun k => B ≤ k) w w' := by
  have hsz := hc.size
  refine ⟨⟨_, cs', rv', first', hd.bound, ?_, h3, win_chg h4 hc ?_, ?_⟩, hc.mono fun i _ hi => by rcases hi with hi | hi; omega; exact (h2 i hi).1⟩
  · rintro k ⟨hk | hk, hk2⟩
    · exact ⟨(h2 k hk).1, hk2⟩
    · exact ⟨by omega, hk2⟩
  · rintro k hk (hk2 | hk2)
    · exact win_ne h4 h1.1.1 (by decide) (hk2 ▸ hk)
    · exact h5 k hk hk2
  · rintro k hk ⟨hk2 | hk2, _⟩
    · exact h5 k hk hk2
    · have := (win_lt h4 k hk).2; omega
theorem dp_push (B : Nat) (w : World) (g : Nat) (av : Value) (xs ys : List Int) (x : Int) (h : DP B w g av xs ys) (hl : xs.length ≤ 100000) (hB : B ≤ w.heap.size) :
    Calls Try.prog 42 #[.pointer (some ⟨g, 0, none⟩), .int .i64 x] w fun e w' => e = .returned (.tuple #[]) ∧ DP B w' g av (xs ++ [x]) ys ∧ Chg (fun k => B ≤ k) w w' := by
  obtain ⟨S, cs, rv, first, h1, h2, h3, h4, h5⟩ := h
  refine (DqI.push_any S B w g 0 cs rv first xs x h1 hl hB).mono ?_
  rintro e w' ⟨rfl, ⟨rv', first', hd⟩, hc⟩
  exact ⟨rfl, DP.of h1 h2 h3 h4 h5 hd hc hB⟩
theorem Dq_wide {S S' : Nat → Prop} {B : Nat} {w : World} {d o : Nat} {cs : Array Value} {rv : Value} {first : Nat} {xs : List Int} (h : DqI.Dq S B w d o cs rv first xs) (hS : ∀ k, S k → S' k) : DqI.Dq S' B w d o cs rv first xs := by
  obtain ⟨hA, R, ho, hS1, hr⟩ := h
  exact ⟨hA, R, ho, fun k hk => hS k (hS1 k hk), hr⟩
theorem dp_pop (B : Nat) (w : World) (g : Nat) (av : Value) (xs ys : List Int) (x : Int) (h : DP B w g av (xs ++ [x]) ys) (hB : B ≤ w.heap.size) :
    Calls Try.prog 43 #[.pointer (some ⟨g, 0, none⟩)] w fun e w' => e = .returned (.tuple #[.int .i64 x, .bool true]) ∧ DP B w' g av xs ys ∧ Chg (fun k => B ≤ k) w w' := by
  obtain ⟨S, cs, rv, first, h1, h2, h3, h4, h5⟩ := h
  refine (DqI.pop_any S B w g 0 cs rv first xs x h1).mono ?_
  rintro e w' ⟨rfl, hd, hc⟩
  exact ⟨rfl, DP.of h1 h2 h3 h4 h5 (Dq_wide hd fun k hk => .inl hk) hc hB⟩
theorem dp_pop_none (B : Nat) (w : World) (g : Nat) (av : Value) (ys : List Int) (h : DP B w g av [] ys) :
    Calls Try.prog 43 #[.pointer (some ⟨g, 0, none⟩)] w fun e w' => e = .returned (.tuple #[.int .i64 0, .bool false]) ∧ w = w' := by
  obtain ⟨S, cs, rv, first, h1, _⟩ := h
  exact DqI.pop_none S B w g 0 cs rv first h1
theorem dp_steal (B : Nat) (w : World) (g : Nat) (av : Value) (xs ys : List Int) (x : Int) (h : DP B w g av (x :: xs) ys) (hB : B ≤ w.heap.size) :
    Calls Try.prog 44 #[.pointer (some ⟨g, 0, none⟩)] w fun e w' => e = .returned (.tuple #[.int .i64 x, .bool true]) ∧ DP B w' g av xs ys ∧ Chg (fun k => B ≤ k) w w' := by
  obtain ⟨S, cs, rv, first, h1, h2, h3, h4, h5⟩ := h
  refine (DqI.steal_any S B w g 0 cs rv first xs x h1).mono ?_
  rintro e w' ⟨rfl, ⟨first', hd⟩, hc⟩
  exact ⟨rfl, DP.of h1 h2 h3 h4 h5 (Dq_wide hd fun k hk => .inl hk) hc hB⟩
theorem dp_steal_none (B : Nat) (w : World) (g : Nat) (av : Value) (ys : List Int) (h : DP B w g av [] ys) :
    Calls Try.prog 44 #[.pointer (some ⟨g, 0, none⟩)] w fun e w' => e = .returned (.tuple #[.int .i64 0, .bool false]) ∧ w = w' := by
  obtain ⟨S, cs, rv, first, h1, _⟩ := h
  exact DqI.steal_none S B w g 0 cs rv first h1
/-- want = append(want, x). -/
theorem dp_app {B : Nat} {W w1 : World} {g : Nat} {av v1 : Value} {xs ys : List Int} {x : Int} (h : DP B W g av xs ys) (hw : Win w1 B 3 1 v1 (ys.length + 1) (ys.map (.int .i64) ++ [.int .i64 x])) (hc : Chg (fun k => av.ownBlock = some k) W w1)
    (hat : v1.ownBlock = av.ownBlock ∨ ∃ b, v1.ownBlock = some b ∧ W.heap.size ≤ b) : DP B w1 g v1 xs (ys ++ [x]) ∧ Chg (fun k => B ≤ k) W w1 := by
  obtain ⟨S, cs, rv, first, h1, h2, h3, h4, h5⟩ := h
  have hsz := hc.size
  refine ⟨⟨S, cs, rv, first, h1.keep hc (win_ne h4 h1.1.1 (by decide)) (fun k hk e => h5 k e hk), fun k hk => ⟨(h2 k hk).1, by have := (h2 k hk).2; omega⟩, h3, by simpa using hw, ?_⟩, hc.mono fun i _ hi => (win_lt h4 i hi).1⟩
  intro k hk hs
  rcases hat with hat | ⟨b, hb, hlt⟩
  · exact h5 k (hat ▸ hk) hs
  · rw [hb] at hk; injection hk with hk; have := (h2 k hs).2; omega
/-- want is cut: the same block, or none. -/
theorem DP.cut {B : Nat} {w : World} {g : Nat} {av v1 : Value} {xs ys ys' : List Int} (h : DP B w g av xs ys) (hw : Win w B 3 1 v1 ys'.length (ys'.map (.int .i64))) (hv : ∀ k, v1.ownBlock = some k → av.ownBlock = some k) : DP B w g v1 xs ys' := by
  obtain ⟨S, cs, rv, first, h1, h2, h3, h4, h5⟩ := h
  exact ⟨S, cs, rv, first, h1, h2, h3, hw, fun k hk => h5 k (hv k hk)⟩
end Go.Proofs.Ytmjgbdmjeadmaaa
