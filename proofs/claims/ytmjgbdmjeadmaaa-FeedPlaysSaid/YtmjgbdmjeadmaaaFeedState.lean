/- The state of the law 'FeedPlays': the feed, the row of all entries, the row of where each reader began. -/
import Derived.Test.YtmjgbdmjeadmaaaFeedAll
namespace Go.Proofs.Ytmjgbdmjeadmaaa
open Go.RowKit
/-- A slice of int64 that reads as xs. -/
def IsInts (w : World) (v : Value) (xs : List Int) : Prop :=
  ∃ A cap, v = .slice A xs.length cap ∧ (0 < xs.length → ∃ b off, A = some ⟨b, off, none⟩ ∧ ∀ i (hi : i < xs.length), w.cell? ⟨b, off + i, none⟩ = some (.int .i64 xs[i]))
theorem nums_same (w : World) (v1 v2 : Value) (xs : List Int) (h1 : IsInts w v1 xs) (h2 : IsInts w v2 xs) (hl : xs.length ≤ 1000000) :
    Calls Try.prog 39 #[v1, v2] w fun e w' => e = .returned (.bool true) ∧ ∃ n, w' = w.drewN n := by
  obtain ⟨A1, c1, rfl, hA1⟩ := h1
  obtain ⟨A2, c2, rfl, hA2⟩ := h2
  have HA1 := Lib.hid hA1
  have HA2 := Lib.hid hA2
  clear hA1 hA2
  go_enter Try.func39, Try.ntmps39
  go_wp2_with fail
  go_loopw [5] (fun i wr => ∃ (k : Nat), k ≤ xs.length ∧ i = .int .i64 k ∧ ∃ n, wr = w.drewN n) (fun i _ => xs.length - (intOf i).toNat)
  case atStart => exact ⟨0, Nat.zero_le _, rfl, 0, rfl⟩
  case round =>
    obtain ⟨k, hk, rfl, n, rfl⟩ := hrel
    by_cases hlt : k < xs.length
    · obtain ⟨b1, o1, rfl, e1⟩ := HA1.out (by omega)
      obtain ⟨b2, o2, rfl, e2⟩ := HA2.out (by omega)
      have g1 := e1 k hlt
      have g2 := e2 k hlt
      clear e1 e2
      generalize xs[k] = x at *
      go_wp2_with fail
      go_quiet (fail)
      go_wp2
      go_roundw
      case rel => exact ⟨k + 1, by omega, by go_num, _, rfl⟩
      case measure => simp [intOf]; omega
    · go_wp2
      go_ret
      exact ⟨rfl, _, rfl⟩
def view (room : Nat) (ys : List Int) : List Int × Int := (ys.drop (ys.length - room), ((ys.length - room : Nat) : Int))
theorem view_nil (room : Nat) : view room [] = ([], 0) := by simp [view]
theorem view_add (room : Nat) (n : Int) (ys : List Int) (hr : 1 ≤ room) : feedAdd room n (view room ys) = view room (ys ++ [n]) := by
  unfold feedAdd view
  by_cases h : room ≤ ys.length
  · rw [if_pos (by simp; omega)]
    have e : (ys ++ [n]).length - room = (ys.length - room) + 1 := by simp; omega
    rw [e]
    refine Prod.ext ?_ (by simp)
    show (ys.drop (ys.length - room) ++ [n]).drop 1 = (ys ++ [n]).drop (ys.length - room + 1)
    rw [← List.drop_drop, List.drop_append_of_le_length (l₁ := ys) (by omega)]
  · rw [if_neg (by simp; omega)]
    have e : (ys ++ [n]).length - room = 0 := by simp; omega
    have e2 : ys.length - room = 0 := by omega
    rw [e, e2]
    simp
theorem Feed.bound {S : Nat → Prop} {B : Nat} {w : World} {f : Nat} {room : Int} {m : Nat} {rd : Nat → List Int × Int} (h : Feed S B w f room m rd) : Feed (fun k => S k ∧ k < w.heap.size) B w f room m rd := by
  obtain ⟨sv, P, V, hf, hSf, hBf, ho, hSv, hr, hd⟩ := h
  exact ⟨sv, P, V, hf, ⟨hSf, lt_of_block hf⟩, hBf, ho, fun k hk => ⟨hSv k hk, (own_lt ho k hk).2⟩, fun i hi => ⟨(hr i hi).1, ⟨(hr i hi).2.1, lt_of_block (hr i hi).1⟩, (hr i hi).2.2.1, (hr i hi).2.2.2.1, fun k hk => ⟨(hr i hi).2.2.2.2 k hk, (own_lt (hr i hi).2.2.2.1 k hk).2⟩⟩, hd⟩
theorem Feed.congr {S : Nat → Prop} {B : Nat} {w : World} {f : Nat} {room : Int} {m : Nat} {rd rd' : Nat → List Int × Int} (h : Feed S B w f room m rd) (hr' : ∀ i, i < m → rd i = rd' i) : Feed S B w f room m rd' := by
  obtain ⟨sv, P, V, h⟩ := h; exact ⟨sv, P, V, h.congr hr'⟩
/-- Nothing of a feed's own is touched: it is as it was. -/
theorem Feed.keep {S S' : Nat → Prop} {B : Nat} {w w' : World} {f : Nat} {room : Int} {m : Nat} {rd : Nat → List Int × Int} (h : Feed S B w f room m rd) (hc : Chg S' w w') (hS : ∀ k, S k → ¬ S' k) : Feed S B w' f room m rd := by
  obtain ⟨sv, P, V, hf, hSf, hBf, ho, hSv, hr, hd⟩ := h
  exact ⟨sv, P, V, hc.blk hf (hS _ hSf), hSf, hBf, own_chg ho hc (fun k hk => hS k (hSv k hk)), hSv, fun i hi => ⟨hc.blk (hr i hi).1 (hS _ (hr i hi).2.1), (hr i hi).2.1, (hr i hi).2.2.1, own_chg (hr i hi).2.2.2.1 hc (fun k hk => hS k ((hr i hi).2.2.2.2 k hk)), (hr i hi).2.2.2.2⟩, hd⟩
/-- The feed, the row of all entries, the row of where each reader began. -/
def FP (B : Nat) (wr : World) (f room : Nat) (av fv : Value) (aF aV : List Int) (fF fV : List Nat) : Prop :=
  ∃ S, Feed S B wr f room fF.length (fun i => view room (aF.drop (fF.getD i 0))) ∧ (∀ k, S k → B ≤ k ∧ k < wr.heap.size) ∧
    wr.ownsRow B 2 1 av aV.length (aV.map (.int .i64)) ∧ (∀ k, av.ownBlock = some k → ¬ S k) ∧
    wr.ownsRow B 3 1 fv fV.length (fV.map fun n => .int .i64 (n : Nat)) ∧ (∀ k, fv.ownBlock = some k → ¬ S k) ∧
    (∀ x ∈ fF, x ≤ aF.length) ∧ B ≤ wr.heap.size
theorem getD_mem_le {l : List Nat} {n : Nat} (h : ∀ x ∈ l, x ≤ n) (i : Nat) : l.getD i 0 ≤ n := by
  rw [List.getD_eq_getElem?_getD]
  cases hl : l[i]? with
  | none => simp
  | some x => exact h x (List.mem_of_getElem? hl)
theorem fp_add (B : Nat) (wr : World) (f room : Nat) (av fv : Value) (a : List Int) (fr : List Nat) (n : Int) (h : FP B wr f room av fv a a fr fr) (hr1 : 1 ≤ room) (hr2 : room ≤ 100) (ha : a.length ≤ 1000) (hf : fr.length ≤ 100) :
    Calls Try.prog 36 #[.pointer (some ⟨f, 0, none⟩), .int .i64 n] wr fun e w' => e = .returned (.tuple #[]) ∧ FP B w' f room av fv (a ++ [n]) a fr fr ∧ Chg (fun k => B ≤ k) wr w' := by
  obtain ⟨S, h1, h2, h3, h4, h5, h6, h7, h8⟩ := h
  refine (feed_add _ _ _ _ _ _ _ h1 n (by omega) (by omega) (fun i hi => by simp only [view, List.length_drop]; omega) hf h8).mono ?_
  rintro e w2 ⟨rfl, hf2, hc2⟩
  have hsz := hc2.size
  refine ⟨rfl, ⟨_, (hf2.bound.congr fun i hi => ?_), ?_, own_chg h3 hc2 h4, ?_, own_chg h5 hc2 h6, ?_, fun x hx => by have := h7 x hx; simp; omega, by omega⟩, hc2.mono fun i _ hi => (h2 i hi).1⟩
  · have := getD_mem_le h7 i
    rw [view_add room n _ hr1, List.drop_append_of_le_length this]
  · rintro k ⟨hk | hk, hk2⟩
    · exact ⟨(h2 k hk).1, hk2⟩
    · exact ⟨by omega, hk2⟩
  · rintro k hk ⟨hk1 | hk1, hk2⟩
    · exact h4 k hk hk1
    · have := (own_lt h3 k hk).2; omega
  · rintro k hk ⟨hk1 | hk1, hk2⟩
    · exact h6 k hk hk1
    · have := (own_lt h5 k hk).2; omega
/-- all = append(all, n). -/
theorem fp_app {B : Nat} {W w1 : World} {f room : Nat} {av fv v1 : Value} {a : List Int} {fr : List Nat} {n : Int} (h : FP B W f room av fv (a ++ [n]) a fr fr)
    (hown : w1.ownsRow B 2 1 v1 (a.length + 1) (a.map (.int .i64) ++ [.int .i64 n])) (hc : Chg (fun k => av.ownBlock = some k) W w1) (hat : v1.ownBlock = av.ownBlock ∨ ∃ b, v1.ownBlock = some b ∧ W.heap.size ≤ b) :
    FP B w1 f room v1 fv (a ++ [n]) (a ++ [n]) fr fr ∧ Chg (fun k => B ≤ k) W w1 := by
  obtain ⟨S, h1, h2, h3, h4, h5, h6, h7, h8⟩ := h
  have hsz := hc.size
  refine ⟨⟨S, h1.keep hc (fun k hk e => h4 k e hk), fun k hk => ⟨(h2 k hk).1, by have := (h2 k hk).2; omega⟩, by simpa using hown, ?_, own_chg h5 hc (fun k hk => own_own_ne h5 h3 (by decide) k hk), h6, h7, by omega⟩, hc.mono fun i _ hi => (own_lt h3 i hi).1⟩
  intro k hk hs
  rcases hat with hat | ⟨b, hb, hlt⟩
  · exact h4 k (hat ▸ hk) hs
  · rw [hb] at hk; injection hk with hk; have := (h2 k hs).2; omega
theorem fp_read_full (B : Nat) (wr : World) (f room : Nat) (av fv : Value) (a : List Int) (fr : List Nat) (h : FP B wr f room av fv a a fr fr) (hf : 8 ≤ fr.length) :
    Calls Try.prog 37 #[.pointer (some ⟨f, 0, none⟩)] wr fun e w' => e = .returned (.tuple #[.int .i64 0, .iface 27 (.int .i64 6)]) ∧ wr = w' := by
  obtain ⟨S, h1, _⟩ := h
  exact feed_read_full _ _ _ _ _ _ _ h1 hf
theorem fp_read (B : Nat) (wr : World) (f room : Nat) (av fv : Value) (a : List Int) (fr : List Nat) (h : FP B wr f room av fv a a fr fr) (hf : fr.length < 8) :
    Calls Try.prog 37 #[.pointer (some ⟨f, 0, none⟩)] wr fun e w' => e = .returned (.tuple #[.int .i64 fr.length, .nilIface]) ∧ FP B w' f room av fv a a (fr ++ [a.length]) fr ∧ Chg (fun k => B ≤ k) wr w' := by
  obtain ⟨S, h1, h2, h3, h4, h5, h6, h7, h8⟩ := h
  refine (feed_read _ _ _ _ _ _ _ h1 hf h8).mono ?_
  rintro e w2 ⟨rfl, hf2, hc2⟩
  have hsz := hc2.size
  have hF : Feed (fun k => (S k ∨ wr.heap.size ≤ k) ∧ k < w2.heap.size) B w2 f room (fr ++ [a.length]).length (fun i => view room (a.drop ((fr ++ [a.length]).getD i 0))) := by
    rw [List.length_append]
    refine hf2.bound.congr fun i hi => ?_
    by_cases hif : i < fr.length
    · rw [if_pos hif]
      simp [List.getD_eq_getElem?_getD, List.getElem?_append_left hif]
    · rw [if_neg hif]
      have : i = fr.length := by omega
      subst this
      simp [List.getD_eq_getElem?_getD, view]
  refine ⟨rfl, ⟨_, hF, ?_, own_chg h3 hc2 h4, ?_, own_chg h5 hc2 h6, ?_, fun x hx => by rcases List.mem_append.1 hx with hx | hx; exact h7 x hx; simp at hx; omega, by omega⟩, hc2.mono fun i _ hi => (h2 i hi).1⟩
  · rintro k ⟨hk | hk, hk2⟩
    · exact ⟨(h2 k hk).1, hk2⟩
    · exact ⟨by omega, hk2⟩
  · rintro k hk ⟨hk1 | hk1, hk2⟩
    · exact h4 k hk hk1
    · have := (own_lt h3 k hk).2; omega
  · rintro k hk ⟨hk1 | hk1, hk2⟩
    · exact h6 k hk hk1
    · have := (own_lt h5 k hk).2; omega
theorem fp_from {B : Nat} {W w1 : World} {f room : Nat} {av fv v1 : Value} {a : List Int} {fr : List Nat} {m : Nat} (h : FP B W f room av fv a a (fr ++ [m]) fr)
    (hown : w1.ownsRow B 3 1 v1 (fr.length + 1) ((fr.map fun n => .int .i64 (n : Nat)) ++ [.int .i64 (m : Nat)])) (hc : Chg (fun k => fv.ownBlock = some k) W w1) (hat : v1.ownBlock = fv.ownBlock ∨ ∃ b, v1.ownBlock = some b ∧ W.heap.size ≤ b) :
    FP B w1 f room av v1 a a (fr ++ [m]) (fr ++ [m]) ∧ Chg (fun k => B ≤ k) W w1 := by
  obtain ⟨S, h1, h2, h3, h4, h5, h6, h7, h8⟩ := h
  have hsz := hc.size
  refine ⟨⟨S, h1.keep hc (fun k hk e => h6 k e hk), fun k hk => ⟨(h2 k hk).1, by have := (h2 k hk).2; omega⟩, own_chg h3 hc (fun k hk => own_own_ne h3 h5 (by decide) k hk), h4, by simpa using hown, ?_, h7, by omega⟩, hc.mono fun i _ hi => (own_lt h5 i hi).1⟩
  intro k hk hs
  rcases hat with hat | ⟨b, hb, hlt⟩
  · exact h6 k (hat ▸ hk) hs
  · rw [hb] at hk; injection hk with hk; have := (h2 k hs).2; omega
theorem fp_poll_none (B : Nat) (wr : World) (f room : Nat) (av fv : Value) (a : List Int) (fr : List Nat) (n : Int) (h : FP B wr f room av fv a a fr fr) (hn : n < 0 ∨ (fr.length : Int) ≤ n) :
    Calls Try.prog 38 #[.pointer (some ⟨f, 0, none⟩), .int .i64 n] wr fun e w' => e = .returned (.tuple #[.slice none 0 0, .int .i64 0, .iface 27 (.int .i64 4)]) ∧ wr = w' := by
  obtain ⟨S, h1, _⟩ := h
  exact feed_poll_none _ _ _ _ _ _ _ h1 n hn
theorem fp_poll (B : Nat) (wr : World) (f room : Nat) (av fv : Value) (a : List Int) (fr : List Nat) (j : Nat) (h : FP B wr f room av fv a a fr fr) (hj : j < fr.length) :
    Calls Try.prog 38 #[.pointer (some ⟨f, 0, none⟩), .int .i64 j] wr fun e w' => ∃ v, e = .returned (.tuple #[v, .int .i64 (view room (a.drop (fr.getD j 0))).2, .nilIface]) ∧
      w'.ownsRow B 2 1 v (view room (a.drop (fr.getD j 0))).1.length ((view room (a.drop (fr.getD j 0))).1.map (.int .i64)) ∧ FP B w' f room av fv a a (fr.set j a.length) fr ∧ Chg (fun k => B ≤ k) wr w' := by
  obtain ⟨S, h1, h2, h3, h4, h5, h6, h7, h8⟩ := h
  refine (feed_poll _ _ _ _ _ _ _ h1 j hj h8).mono ?_
  rintro e w2 ⟨v, rfl, ho, hf2, hc2⟩
  have hsz := hc2.size
  have hF : Feed (fun k => ((S k ∧ v.ownBlock ≠ some k) ∨ wr.heap.size ≤ k) ∧ k < w2.heap.size) B w2 f room (fr.set j a.length).length (fun i => view room (a.drop ((fr.set j a.length).getD i 0))) := by
    rw [List.length_set]
    refine hf2.bound.congr fun i hi => ?_
    by_cases hij : i = j
    · subst hij
      simp [List.getD_eq_getElem?_getD, hi, view]
    · rw [if_neg hij]
      simp [List.getD_eq_getElem?_getD, List.getElem?_set_ne (Ne.symm hij)]
  refine ⟨v, rfl, ho, ⟨_, hF, ?_, own_chg h3 hc2 h4, ?_, own_chg h5 hc2 h6, ?_, fun x hx => by rcases List.mem_or_eq_of_mem_set hx with hx | hx; exact h7 x hx; omega, by omega⟩, hc2.mono fun i _ hi => (h2 i hi).1⟩
  · rintro k ⟨hk | hk, hk2⟩
    · exact ⟨(h2 k hk.1).1, hk2⟩
    · exact ⟨by omega, hk2⟩
  · rintro k hk ⟨hk1 | hk1, hk2⟩
    · exact h4 k hk hk1.1
    · have := (own_lt h3 k hk).2; omega
  · rintro k hk ⟨hk1 | hk1, hk2⟩
    · exact h6 k hk hk1.1
    · have := (own_lt h5 k hk).2; omega
theorem feed_pick (c : Int) (w : World) (h1 : -9223372036854775808 ≤ c) (h2 : c ≤ 9223372036854775807) : Calls Try.prog 35 #[.int .i64 c, .int .i64 4] w fun e w' => ∃ r : Int, e = .returned (.int .i64 r) ∧ (r = 0 ∨ r = 1 ∨ r = 2 ∨ r = 3) ∧ w = w' := by
  by_cases h : c < 0
  all_goals
    go_enter Try.func35, Try.ntmps35
    go_wp2
    go_ret
    first
    | exact ⟨_, rfl, by omega, rfl⟩
    | (have k := tmod_neg (c + 1) 4 (by omega)
       exact ⟨_, rfl, by omega, rfl⟩)
def RDeed18 : Rep (Int × Int × Int × Unit) := (Rep.int .i64).pair ((Rep.int .i64).pair ((Rep.int .i64).pair Rep.unit))
theorem RDeed18.reads : Reads Try.prog 52 RDeed18 :=
  reads_struct Try.underlying52 (fields_cons rfl (reads_int Try.underlying3 (by kernel_rfl)) (fields_cons rfl (reads_int Try.underlying2 (by kernel_rfl)) (fields_cons rfl (reads_int Try.underlying3 (by kernel_rfl)) (fields_nil _ _)))) (by kernel_rfl)
theorem deed18_at {w : World} {v : Value} {xs : List (Int × Int × Int × Unit)} (h : RDeed18.slice.ok (fun b => b < w.heap.size) w [v] xs) :
    ∃ A cap, v = .slice A xs.length cap ∧ (0 < xs.length → ∃ b off, A = some ⟨b, off, none⟩ ∧ b < w.heap.size ∧
      ∀ i (hi : i < xs.length), w.cell? ⟨b, off + i * 3, none⟩ = some (.int .i64 xs[i].1) ∧ w.cell? ⟨b, off + i * 3 + 1, none⟩ = some (.int .i64 xs[i].2.1) ∧ w.cell? ⟨b, off + i * 3 + 2, none⟩ = some (.int .i64 xs[i].2.2.1) ∧
        (Lit.int .i64 xs[i].1).wf = true ∧ (Lit.int .i64 xs[i].2.2.1).wf = true) := by
  obtain ⟨A, cap, hv, hA⟩ := Rep.slice_open h
  refine ⟨A, cap, hv, fun h0 => ?_⟩
  obtain ⟨b, off, hA1, hb, hlt, _, _, hel⟩ := hA h0
  refine ⟨b, off, hA1, hlt, fun i hi => ?_⟩
  obtain ⟨c, hc, hcell, hok⟩ := hel i hi
  obtain ⟨c1, d1, rfl, _, ⟨rfl, hw1⟩, c2, d2, rfl, _, ⟨rfl, hw2⟩, c3, d3, rfl, _, ⟨rfl, hw3⟩, rfl⟩ := hok
  exact ⟨hcell 0 (by simp), hcell 1 (by simp), hcell 2 (by simp), hw1, hw3⟩
theorem FP.rowA {B : Nat} {wr : World} {f room : Nat} {av fv : Value} {a : List Int} {fr fr' : List Nat} (h : FP B wr f room av fv a a fr fr') : wr.ownsRow B 2 1 av a.length (a.map (.int .i64)) := by
  obtain ⟨S, h1, h2, h3, _⟩ := h; exact h3
theorem FP.rowA' {B : Nat} {wr : World} {f room : Nat} {av fv : Value} {a a' : List Int} {fr fr' : List Nat} (h : FP B wr f room av fv a' a fr fr') : wr.ownsRow B 2 1 av a.length (a.map (.int .i64)) := by
  obtain ⟨S, h1, h2, h3, _⟩ := h; exact h3
theorem FP.rowF {B : Nat} {wr : World} {f room : Nat} {av fv : Value} {a : List Int} {fr fr' : List Nat} (h : FP B wr f room av fv a a fr fr') : wr.ownsRow B 3 1 fv fr'.length (fr'.map fun n => .int .i64 (n : Nat)) := by
  obtain ⟨S, h1, h2, h3, h4, h5, _⟩ := h; exact h5
theorem FP.le {B : Nat} {wr : World} {f room : Nat} {av fv : Value} {a : List Int} {fr fr' : List Nat} (h : FP B wr f room av fv a a fr fr') : ∀ x ∈ fr, x ≤ a.length := by
  obtain ⟨S, h1, h2, h3, h4, h5, h6, h7, _⟩ := h; exact h7
theorem view_long (R b : Nat) (a : List Int) (h : R + b < a.length) : view R (a.drop b) = (a.drop (a.length - R), ((a.length - R - b : Nat) : Int)) := by
  unfold view
  rw [List.drop_drop, List.length_drop]
  refine Prod.ext ?_ ?_
  · show a.drop _ = a.drop _
    congr 1; omega
  · show ((_ : Nat) : Int) = ((_ : Nat) : Int)
    congr 1; omega
theorem view_short (R b : Nat) (a : List Int) (h : a.length ≤ R + b) : view R (a.drop b) = (a.drop b, 0) := by
  unfold view
  rw [List.length_drop, show a.length - b - R = 0 by omega]
  rfl
theorem own_form {w : World} {B : Nat} {e : TypeId} {size n c : Nat} {A : Option Addr} {xs : List Value} (h : w.ownsRow B e size (.slice A n c) n xs) : (A = none ∧ c = 0 ∧ n = 0) ∨ ∃ g, A = some ⟨g, 0, none⟩ := by
  obtain ⟨_, ⟨hv, h0⟩ | ⟨g, cap, cur, hv, _⟩⟩ := h
  · injection hv with h1 _ h3
    exact .inl ⟨h1, h3, h0⟩
  · injection hv with h1
    exact .inr ⟨g, h1⟩
theorem ints_of_own {w : World} {B : Nat} {v : Value} {xs : List Int} (h : w.ownsRow B 2 1 v xs.length (xs.map (.int .i64))) : IsInts w v xs := by
  obtain ⟨A, c, rfl⟩ := own_slice h
  refine ⟨A, c, rfl, fun h0 => ?_⟩
  obtain ⟨g, cap, hv, _, _, _, _, hc, _⟩ := own_shape h h0
  injection hv with hv
  exact ⟨g, 0, hv, fun i hi => by rw [Nat.zero_add]; exact hc i _ (by simp [hi])⟩
theorem ints_tail {w : World} {B : Nat} {g n cap : Nat} {xs : List Int} (h : w.ownsRow B 2 1 (.slice (some ⟨g, 0, none⟩) n cap) n (xs.map (.int .i64))) (b : Nat) (hb : b < n) : IsInts w (.slice (some ⟨g, b, none⟩) (n - b) (cap - b)) (xs.drop b) := by
  have hl := own_len h
  simp at hl
  refine ⟨_, _, by rw [List.length_drop, hl], fun _ => ⟨g, b, rfl, fun i hi => ?_⟩⟩
  obtain ⟨g', cap', hv, _, _, _, _, hc, _⟩ := own_shape h (by omega)
  injection hv with hv
  injection hv with hv
  injection hv with hv
  subst hv
  refine hc (b + i) _ ?_
  simp at hi
  simp [List.getElem?_eq_getElem (show b + i < xs.length by omega)]
theorem ints_nil (w : World) (A : Option Addr) (c : Nat) : IsInts w (.slice A 0 c) [] := ⟨A, c, rfl, fun h => by simp at h⟩
theorem fp_set {B : Nat} {W : World} {f room : Nat} {av : Value} {a : List Int} {fr : List Nat} {g len cap j m : Nat} (n : Nat) (h : FP B W f room av (.slice (some ⟨g, 0, none⟩) len cap) a a (fr.set j m) fr) (hj : j < fr.length) (hl : len = fr.length) :
    FP B ((W.drewN n).setCell ⟨g, j, none⟩ (.int .i64 m)) f room av (.slice (some ⟨g, 0, none⟩) len cap) a a (fr.set j m) (fr.set j m) ∧ Chg (fun k => B ≤ k) W ((W.drewN n).setCell ⟨g, j, none⟩ (.int .i64 m)) := by
  obtain ⟨S, h1, h2, h3, h4, h5, h6, h7, h8⟩ := h
  have hc : Chg (fun k => k = g) W ((W.drewN n).setCell ⟨g, j, none⟩ (.int .i64 m)) := ((Chg.refl (· = g) W).drewN n).setCell (fun _ => rfl) _
  have hg := own_lt h5 g rfl
  subst hl
  have h5' := own_set (own_drewN h5 n) j (by simpa using hj) (.int .i64 m)
  refine ⟨⟨S, h1.keep hc (fun k hk e => h6 k (by rw [e]; rfl) hk), fun k hk => ⟨(h2 k hk).1, by simpa [World.setCell] using (h2 k hk).2⟩, own_chg h3 hc (fun k hk e => own_own_ne h3 h5 (by decide) k hk (by rw [e]; rfl)), h4, ?_, h6, h7, by simpa [World.setCell] using h8⟩, hc.mono fun i _ hi => hi ▸ hg.1⟩
  rw [List.length_set, List.map_set]
  exact h5'
theorem int_info : (Try.prog.info? 3).map (fun i => (i.zero, i.size, i.bytes)) = some (some (.int .i64 0), 1, 8) := by kernel_rfl
end Go.Proofs.Ytmjgbdmjeadmaaa
