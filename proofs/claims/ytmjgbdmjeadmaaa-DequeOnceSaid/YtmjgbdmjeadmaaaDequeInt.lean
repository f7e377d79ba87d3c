/- What the methods of a deque of ints do: as a plain list. -/
import Derived.Test.YtmjgbdmjeadmaaaRing
import Derived.Test.YtmjgbdmjeadmaaaTail
import Derived.Deep.OwnRows
import Derived.Laws.OwnMore
namespace Go.Proofs.Ytmjgbdmjeadmaaa.DqI
open Go.RowKit
/-- The three cells of a deque at ⟨d, o⟩ in a block cs. -/
def At (w : World) (d o : Nat) (cs : Array Value) (rv : Value) (first many : Nat) : Prop :=
  w.heap[d]? = some (.cells cs 63 (0, 0)) ∧ cs[o]? = some rv ∧ cs[o + 1]? = some (.int .i64 (first : Nat)) ∧ cs[o + 2]? = some (.int .i64 (many : Nat))
theorem put_get (cs : Array Value) (i j : Nat) (v : Value) (hi : i < cs.size) : (cs.setIfInBounds i v)[j]? = if i = j then some v else cs[j]? := by
  rw [Array.getElem?_setIfInBounds]
  split <;> simp_all
theorem At.lt {w : World} {d o : Nat} {cs : Array Value} {rv : Value} {first many : Nat} (h : At w d o cs rv first many) : o + 2 < cs.size := (Array.getElem?_eq_some_iff.1 h.2.2.2).1
theorem At.keep {S : Nat → Prop} {w w' : World} {d o : Nat} {cs : Array Value} {rv : Value} {first many : Nat} (h : At w d o cs rv first many) (hc : Chg S w w') (hs : ¬ S d) : At w' d o cs rv first many := ⟨hc.blk h.1 hs, h.2⟩
theorem at_any (w : World) (d o : Nat) (cs : Array Value) (A : Option Addr) (n c first many i : Nat) (h : At w d o cs (.slice A n c) first many) (hn : 0 < n) (hn2 : n ≤ 1000000) (hf : first ≤ 1000000) (hi : i ≤ 1000000) :
    Calls Try.prog 51 #[.pointer (some ⟨d, o, none⟩), .int .i64 (i : Nat)] w fun e w' => e = .returned (.int .i64 (((first + i) % n : Nat) : Int)) ∧ ∃ m, w' = w.drewN m := by
  obtain ⟨hd, h0, h1, h2⟩ := h
  have c0 := (blk_cell hd o).trans h0
  have c1 := (blk_cell hd (o + 1)).trans h1
  clear hd h0 h1 h2
  go_enter Try.func51, Try.ntmps51
  go_wp2_with fail
  go_quiet (fail)
  go_wp2
  go_ret
  exact ⟨ret_int (by push_cast; rfl), _, rfl⟩
theorem len_any (w : World) (d o : Nat) (cs : Array Value) (rv : Value) (first many : Nat) (h : At w d o cs rv first many) :
    Calls Try.prog 45 #[.pointer (some ⟨d, o, none⟩)] w fun e w' => e = .returned (.int .i64 (many : Nat)) ∧ w = w' := by
  obtain ⟨hd, h0, h1, h2⟩ := h
  have c2 := (blk_cell hd (o + 2)).trans h2
  clear hd h0 h1 h2
  go_enter Try.func45, Try.ntmps45
  go_wp2
  go_ret
  exact ⟨rfl, rfl⟩
theorem out_any (B : Nat) (w : World) (d o : Nat) (cs : Array Value) (g n c first many i : Nat) (R : List Int) (x : Int) (h : At w d o cs (.slice (some ⟨g, 0, none⟩) n c) first many) (hown : w.ownsRow B 3 1 (.slice (some ⟨g, 0, none⟩) n c) n (R.map fun y => .int .i64 y)) (hR : R.length = n) (hx : R[(first + i) % n]? = some x)
    (hn : 0 < n) (hn2 : n ≤ 1000000) (hf : first ≤ 1000000) (hi : i ≤ 1000000) (hm : 1 ≤ many) (hm2 : many ≤ 1000000) :
    Calls Try.prog 52 #[.pointer (some ⟨d, o, none⟩), .int .i64 (i : Nat)] w fun e w' => e = .returned (.int .i64 x) ∧
      At w' d o (cs.setIfInBounds (o + 2) (.int .i64 ((many - 1 : Nat) : Int))) (.slice (some ⟨g, 0, none⟩) n c) first (many - 1) ∧ w'.ownsRow B 3 1 (.slice (some ⟨g, 0, none⟩) n c) n ((R.set ((first + i) % n) 0).map fun y => .int .i64 y) ∧ Chg (fun k => k = d ∨ k = g) w w' := by
  have H := Lib.hid h
  have HO := Lib.hid hown
  obtain ⟨hd, h0, h1, h2⟩ := h
  have hgd : ¬ g = d := fun e => own_ne hown hd (by decide) (by rw [e]; rfl)
  have hdg : ¬ d = g := fun e => hgd e.symm
  obtain ⟨g', cap', hv, _, _, _, _, hcell, hfree⟩ := own_shape hown hn
  injection hv with hv _ hcc
  injection hv with hv
  injection hv with hv
  subst hv hcc
  have hlt : (first + i) % n < n := at_lt hn
  have cx := hcell ((first + i) % n) (.int .i64 x) (by simp [hx])
  have fx := hfree ((first + i) % n)
  have c0 := (blk_cell hd o).trans h0
  have c2 := (blk_cell hd (o + 2)).trans h2
  have f2 := blk_free hd (o + 2)
  have hcs : o + 2 < cs.size := (Array.getElem?_eq_some_iff.1 h2).1
  have HX := Lib.hid hx
  clear hd h0 h1 h2 hcell hfree hown hx
  generalize hk : (first + i) % n = k at *
  have HK := Lib.hid hk
  clear hk
  go_enter Try.func52, Try.ntmps52
  go_wp2_with fail
  refine (at_any w d o cs _ n _ first many i H.out hn hn2 hf hi).mono ?_
  rintro e w1 ⟨rfl, m, rfl⟩
  rw [HK.out]
  go_wp2
  go_ret
  have H1 := H.out
  have hO1 := own_set (own_drewN HO.out m) k (by simp; omega) (.int .i64 0)
  refine ⟨rfl, ⟨?_, ?_, ?_, ?_⟩, ?_, ?_⟩
  · have e : (.int .i64 ((many : Int) - 1) : Value) = .int .i64 ((many - 1 : Nat) : Int) := by congr 1; omega
    rw [← e]
    exact blk_set (blk_far (blk_drewN m H1.1) hdg _) (o + 2) _
  · rw [put_get _ _ _ _ hcs, if_neg (by omega)]; exact H1.2.1
  · rw [put_get _ _ _ _ hcs, if_neg (by omega)]; exact H1.2.2.1
  · rw [put_get _ _ _ _ hcs, if_pos rfl]
  · rw [List.map_set]
    exact own_far hO1 (fun e => hgd (by simpa [Value.ownBlock] using e)) _
  · exact (((Chg.refl (fun k => k = d ∨ k = g) w).drewN m).setCell (fun _ => .inr rfl) _).setCell (fun _ => .inl rfl) _
/-- A deque that holds xs; S: its own blocks. -/
def Dq (S : Nat → Prop) (B : Nat) (w : World) (d o : Nat) (cs : Array Value) (rv : Value) (first : Nat) (xs : List Int) : Prop :=
  At w d o cs rv first xs.length ∧ ∃ R : List Int, w.ownsRow B 3 1 rv R.length (R.map fun y => .int .i64 y) ∧ (∀ k, rv.ownBlock = some k → S k) ∧ Ring R first xs ∧ R.length ≤ 1000000
/-- The block with the three cells anew. -/
def put3 (cs : Array Value) (o : Nat) (rv : Value) (first many : Nat) : Array Value := ((cs.setIfInBounds o rv).setIfInBounds (o + 1) (.int .i64 (first : Nat))).setIfInBounds (o + 2) (.int .i64 (many : Nat))
theorem put3_get {cs : Array Value} {o : Nat} (rv : Value) (first many : Nat) (h : o + 2 < cs.size) : (put3 cs o rv first many)[o]? = some rv ∧ (put3 cs o rv first many)[o + 1]? = some (.int .i64 (first : Nat)) ∧ (put3 cs o rv first many)[o + 2]? = some (.int .i64 (many : Nat)) := by
  unfold put3
  refine ⟨?_, ?_, ?_⟩
  · rw [put_get _ _ _ _ (by simpa using h), if_neg (by omega), put_get _ _ _ _ (by simp; omega), if_neg (by omega), put_get _ _ _ _ (by omega), if_pos rfl]
  · rw [put_get _ _ _ _ (by simpa using h), if_neg (by omega), put_get _ _ _ _ (by simp; omega), if_pos rfl]
  · rw [put_get _ _ _ _ (by simpa using h), if_pos rfl]
theorem put3_size (cs : Array Value) (o : Nat) (rv : Value) (first many : Nat) : (put3 cs o rv first many).size = cs.size := by simp [put3]
theorem put3_far (cs : Array Value) (o : Nat) (rv : Value) (first many j : Nat) (h : j < o ∨ o + 2 < j) : (put3 cs o rv first many)[j]? = cs[j]? := by
  unfold put3
  simp only [Array.getElem?_setIfInBounds]
  rw [if_neg (by omega), if_neg (by omega), if_neg (by omega)]
/-- One field anew is the three anew. -/
theorem put3_many {cs : Array Value} {o : Nat} {rv : Value} {first : Nat} (h0 : cs[o]? = some rv) (h1 : cs[o + 1]? = some (.int .i64 (first : Nat))) (m : Nat) : cs.setIfInBounds (o + 2) (.int .i64 (m : Nat)) = put3 cs o rv first m := by
  apply Array.ext_getElem?
  intro j
  unfold put3
  simp only [Array.getElem?_setIfInBounds, Array.size_setIfInBounds]
  have s0 := (Array.getElem?_eq_some_iff.1 h0).1
  have s1 := (Array.getElem?_eq_some_iff.1 h1).1
  by_cases a : o + 2 = j
  · rw [if_pos a, if_pos a]
  · rw [if_neg a, if_neg a]
    by_cases b : o + 1 = j
    · subst b; rw [if_pos rfl, if_pos s1]; exact h1
    · rw [if_neg b]
      by_cases c : o = j
      · subst c; rw [if_pos rfl, if_pos s0]; exact h0
      · rw [if_neg c]
theorem put3_first {cs : Array Value} {o : Nat} {rv : Value} (h0 : cs[o]? = some rv) (f m : Nat) : (cs.setIfInBounds (o + 2) (.int .i64 (m : Nat))).setIfInBounds (o + 1) (.int .i64 (f : Nat)) = put3 cs o rv f m := by
  apply Array.ext_getElem?
  intro j
  unfold put3
  simp only [Array.getElem?_setIfInBounds, Array.size_setIfInBounds]
  have s0 := (Array.getElem?_eq_some_iff.1 h0).1
  by_cases c : o = j
  · subst c
    rw [if_neg (by omega), if_neg (by omega), if_neg (by omega), if_neg (by omega), if_pos rfl, if_pos s0]; exact h0
  · rw [if_neg c]
    by_cases a : o + 1 = j
    · have b : ¬ (o + 2 = j) := by omega
      simp only [if_pos a, if_neg b]
    · simp only [if_neg a]
theorem pop_none (S : Nat → Prop) (B : Nat) (w : World) (d o : Nat) (cs : Array Value) (rv : Value) (first : Nat) (h : Dq S B w d o cs rv first []) :
    Calls Try.prog 43 #[.pointer (some ⟨d, o, none⟩)] w fun e w' => e = .returned (.tuple #[.int .i64 0, .bool false]) ∧ w = w' := by
  obtain ⟨⟨hd, h0, h1, h2⟩, _⟩ := h
  have c2 := (blk_cell hd (o + 2)).trans h2
  clear hd h0 h1 h2
  go_enter Try.func43, Try.ntmps43
  go_wp2
  go_ret2
  exact ⟨rfl, rfl⟩
theorem steal_none (S : Nat → Prop) (B : Nat) (w : World) (d o : Nat) (cs : Array Value) (rv : Value) (first : Nat) (h : Dq S B w d o cs rv first []) :
    Calls Try.prog 44 #[.pointer (some ⟨d, o, none⟩)] w fun e w' => e = .returned (.tuple #[.int .i64 0, .bool false]) ∧ w = w' := by
  obtain ⟨⟨hd, h0, h1, h2⟩, _⟩ := h
  have c2 := (blk_cell hd (o + 2)).trans h2
  clear hd h0 h1 h2
  go_enter Try.func44, Try.ntmps44
  go_wp2
  go_ret2
  exact ⟨rfl, rfl⟩
theorem Dq.shape {S : Nat → Prop} {B : Nat} {w : World} {d o : Nat} {cs : Array Value} {rv : Value} {first : Nat} {xs : List Int} (h : Dq S B w d o cs rv first xs) (hp : 0 < xs.length) :
    ∃ (R : List Int) (g c : Nat), rv = .slice (some ⟨g, 0, none⟩) R.length c ∧ At w d o cs (.slice (some ⟨g, 0, none⟩) R.length c) first xs.length ∧ w.ownsRow B 3 1 (.slice (some ⟨g, 0, none⟩) R.length c) R.length (R.map fun y => .int .i64 y) ∧ S g ∧ Ring R first xs ∧ xs.length ≤ R.length ∧ first < R.length ∧ R.length ≤ 1000000 := by
  obtain ⟨hA, R, ho, hS, hr, hl⟩ := h
  have hle := hr.1
  obtain ⟨g, c, rfl, _⟩ := own_shape ho (by omega)
  have hf := hr.2.1
  exact ⟨R, g, c, rfl, hA, ho, hS g rfl, hr, hle, by omega, hl⟩
theorem pop_any (S : Nat → Prop) (B : Nat) (w : World) (d o : Nat) (cs : Array Value) (rv : Value) (first : Nat) (xs : List Int) (x : Int) (h : Dq S B w d o cs rv first (xs ++ [x])) :
    Calls Try.prog 43 #[.pointer (some ⟨d, o, none⟩)] w fun e w' => e = .returned (.tuple #[.int .i64 x, .bool true]) ∧ Dq S B w' d o (put3 cs o rv first xs.length) rv first xs ∧ Chg (fun k => k = d ∨ S k) w w' := by
  obtain ⟨R, g, c, rfl, hA, ho, hS, hr, hle, hf, hl⟩ := h.shape (by simp)
  obtain ⟨k1, k2⟩ := ring_pop (z := 0) hr
  simp at hle hA
  have hA' := hA
  have HA := Lib.hid hA
  obtain ⟨hd, h0, h1, h2⟩ := hA
  have c2 := (blk_cell hd (o + 2)).trans h2
  have e2 : ((xs.length + 1 : Nat) : Int) - 1 = (xs.length : Int) := by omega
  have E2 := Lib.hid e2
  have HO := Lib.hid ho
  clear hd h1 h2 hr h e2 ho h0 hA'
  go_enter Try.func43, Try.ntmps43
  go_wp2_with fail
  refine (out_any B w d o cs g R.length c first (xs.length + 1) xs.length R x HA.out HO.out rfl k1 (by omega) hl (by omega) (by omega) (by omega) (by omega)).mono ?_
  rintro e w1 ⟨rfl, hA1, ho1, hc1⟩
  go_wp2
  go_ret2
  have HA' := HA.out
  rw [Nat.add_sub_cancel, put3_many HA'.2.1 HA'.2.2.1] at hA1
  refine ⟨rfl, ⟨hA1, _, by rw [List.length_set]; exact ho1, fun k hk => (Option.some.inj hk : g = k) ▸ hS, k2, by simpa using hl⟩, hc1.mono fun i _ hi => by rcases hi with hi | hi; exact .inl hi; exact .inr (hi ▸ hS)⟩
theorem steal_any (S : Nat → Prop) (B : Nat) (w : World) (d o : Nat) (cs : Array Value) (rv : Value) (first : Nat) (xs : List Int) (x : Int) (h : Dq S B w d o cs rv first (x :: xs)) :
    Calls Try.prog 44 #[.pointer (some ⟨d, o, none⟩)] w fun e w' => e = .returned (.tuple #[.int .i64 x, .bool true]) ∧ (∃ first', Dq S B w' d o (put3 cs o rv first' xs.length) rv first' xs) ∧ Chg (fun k => k = d ∨ S k) w w' := by
  obtain ⟨R, g, c, rfl, hA, ho, hS, hr, hle, hf, hl⟩ := h.shape (by simp)
  obtain ⟨k1, k2⟩ := ring_steal (z := 0) hr
  simp at hle hA
  have HA := Lib.hid hA
  obtain ⟨hd, h0, h1, h2⟩ := hA
  have c2 := (blk_cell hd (o + 2)).trans h2
  have HO := Lib.hid ho
  have hout := out_any B w d o cs g R.length c first (xs.length + 1) 0 R x HA.out HO.out rfl k1 (by omega) hl (by omega) (by omega) (by omega) (by omega)
  rw [show (((0 : Nat) : Int)) = 0 from rfl] at hout
  have HOUT := Lib.hid hout
  clear hd h1 h2 hr h ho h0 hout
  go_enter Try.func44, Try.ntmps44
  go_wp2_with fail
  refine HOUT.out.mono ?_
  rintro e w1 ⟨rfl, hA1, ho1, hc1⟩
  have hat := at_any w1 d o _ _ R.length _ first _ 1 hA1 (by omega) hl (by omega) (by omega)
  rw [show (((1 : Nat) : Int)) = 1 from rfl] at hat
  have HAT := Lib.hid hat
  have HA1 := Lib.hid hA1
  clear hat hA1
  go_wp2_with fail
  refine HAT.out.mono ?_
  rintro e w2 ⟨rfl, m, rfl⟩
  have k3 := HA1.out
  have f1 := blk_free k3.1 (o + 1)
  have c1 := (blk_cell k3.1 (o + 1)).trans k3.2.2.1
  clear k3
  go_wp2
  go_ret2
  have HA' := HA.out
  have k3 := HA1.out
  have hgd : ¬ g = d := fun e => own_ne ho1 k3.1 (by decide) (by rw [e]; rfl)
  refine ⟨rfl, ⟨(first + 1) % R.length, ⟨?_, put3_get _ _ _ HA'.lt⟩, _, ?_, fun k hk => (Option.some.inj hk : g = k) ▸ hS, k2, by simpa using hl⟩, ?_⟩
  · rw [← put3_first HA'.2.1]
    exact blk_set (blk_drewN m k3.1) (o + 1) _
  · rw [List.length_set]
    exact own_far (own_drewN ho1 m) (fun e => hgd (by simpa [Value.ownBlock] using e)) _
  · exact ((hc1.mono fun i _ hi => by rcases hi with hi | hi; exact .inl hi; exact .inr (hi ▸ hS)).drewN m).setCell (fun _ => .inl rfl) _
theorem info : (Try.prog.info? 3).map (fun i => (i.zero, i.size, i.bytes)) = some (some (.int .i64 0), 1, 8) := by kernel_rfl
/-- There is room: one more. -/
theorem push_room (S : Nat → Prop) (B : Nat) (w : World) (d o : Nat) (cs : Array Value) (g c first : Nat) (R : List Int) (xs : List Int) (x : Int) (h : At w d o cs (.slice (some ⟨g, 0, none⟩) R.length c) first xs.length)
    (ho : w.ownsRow B 3 1 (.slice (some ⟨g, 0, none⟩) R.length c) R.length (R.map fun y => .int .i64 y)) (hS : S g) (hr : Ring R first xs) (hlt : xs.length < R.length) (hl : R.length ≤ 1000000) :
    Calls Try.prog 42 #[.pointer (some ⟨d, o, none⟩), .int .i64 x] w fun e w' => e = .returned (.tuple #[]) ∧ Dq S B w' d o (put3 cs o (.slice (some ⟨g, 0, none⟩) R.length c) first (xs.length + 1)) (.slice (some ⟨g, 0, none⟩) R.length c) first (xs ++ [x]) ∧ Chg (fun k => k = d ∨ S k) w w' := by
  have H := Lib.hid h
  have HO := Lib.hid ho
  have HR := Lib.hid hr
  have hf : first < R.length := by have := hr.2.1; omega
  obtain ⟨hd, h0, h1, h2⟩ := h
  have hgd : ¬ g = d := fun e => own_ne ho hd (by decide) (by rw [e]; rfl)
  have hdg : ¬ d = g := fun e => hgd e.symm
  have hk : (first + xs.length) % R.length < R.length := at_lt (by omega)
  obtain ⟨g', cap', hv, _, _, _, _, hcell, hfree⟩ := own_shape ho (by omega)
  injection hv with hv _ hcc
  injection hv with hv
  injection hv with hv
  subst hv hcc
  have cx := hcell ((first + xs.length) % R.length) (.int .i64 R[(first + xs.length) % R.length]) (by simp [hk])
  have fx := hfree ((first + xs.length) % R.length)
  have c0 := (blk_cell hd o).trans h0
  have c2 := (blk_cell hd (o + 2)).trans h2
  have f2 := blk_free hd (o + 2)
  generalize hkk : (first + xs.length) % R.length = k at *
  have HK := Lib.hid hkk
  have HAT := Lib.hid (fun (W : World) (h : At W d o cs (.slice (some ⟨g, 0, none⟩) R.length c) first xs.length) => hkk ▸ at_any W d o cs _ R.length _ first _ xs.length h (by omega) hl (by omega) (by omega))
  clear hd h0 h1 h2 hcell hfree ho hkk hr
  go_enter Try.func42, Try.ntmps42
  go_wp2_with fail
  go_quiet (fail)
  go_wp2_with fail
  refine region_quiet_tail 12 (by kernel_rfl) (by kernel_rfl) ?_
  simp only [List.take_succ_cons, List.take_zero, List.drop_succ_cons, List.drop_zero]
  repeat (go_big_quiet_step ((go_at_call 51; exact quiet_of2 (HAT.out _ H.out))))
  refine wpQuiet_nil ?_
  intro w' hw'
  obtain ⟨nq, rfl⟩ := hw'
  go_wp2
  go_end0
  have H1 := H.out
  have HR1 := ring_push HR.out hlt x
  rw [HK.out] at HR1
  refine ⟨rfl, ⟨⟨?_, by have := put3_get (.slice (some ⟨g, 0, none⟩) R.length c) first (xs.length + 1) H1.lt; simpa using this⟩, R.set k x, ?_, fun k hk => (Option.some.inj hk : g = k) ▸ hS, HR1, by simpa using hl⟩, ?_⟩
  · rw [← put3_many H1.2.1 H1.2.2.1]
    exact blk_set (blk_far (blk_drewN _ H1.1) hdg _) (o + 2) _
  · rw [List.length_set, List.map_set]
    exact own_far (own_set (own_drewN HO.out _) k (by simpa using hk) (.int .i64 x)) (fun e => hgd (by simpa [Value.ownBlock] using e)) _
  · exact (((Chg.refl (fun k => k = d ∨ S k) w).drewN _).setCell (fun _ => .inr hS) _).setCell (fun _ => .inl rfl) _
theorem made_own (W : World) (B : Nat) (n : Nat) (hB : B ≤ W.heap.size) (hn : n ≤ 3000000) : (W.alloc (.cells (madeCells #[.int .i64 0] n) 3)).ownsRow B 3 1 (.slice (some ⟨W.heap.size, 0, none⟩) n n) n ((List.replicate n (0 : Int)).map fun y => .int .i64 y) := by
  refine ⟨by simp, .inr ⟨_, n, _, rfl, hB, blk_new _ _, Nat.le_refl _, by unfold maxLen; omega, by simp [size_madeCells], ?_⟩⟩
  rw [toList_madeCells_one]
  simp
theorem copy_step (xs : List Int) (z : Int) (N k : Nat) (hk : k < xs.length) (hN : xs.length < N) : (xs.take k ++ List.replicate (N - k) z).set k xs[k] = xs.take (k + 1) ++ List.replicate (N - (k + 1)) z := by
  have hl : (xs.take k).length = k := by simp; omega
  rw [List.set_append_right _ _ (by omega), hl, Nat.sub_self, show N - k = (N - (k + 1)) + 1 by omega, List.replicate_succ, List.set_cons_zero, List.take_succ_eq_append_getElem hk, List.append_assoc]
  rfl
set_option maxHeartbeats 4000000 in
theorem push_grow (B : Nat) (w : World) (d o : Nat) (cs : Array Value) (A : Option Addr) (c first : Nat) (R : List Int) (xs : List Int) (x : Int) (h : At w d o cs (.slice A R.length c) first xs.length)
    (ho : w.ownsRow B 3 1 (.slice A R.length c) R.length (R.map fun y => .int .i64 y)) (hr : Ring R first xs) (heq : xs.length = R.length) (hl : R.length ≤ 100000) (hB : B ≤ w.heap.size) :
    Calls Try.prog 42 #[.pointer (some ⟨d, o, none⟩), .int .i64 x] w fun e w' => e = .returned (.tuple #[]) ∧ Dq (fun k => k = w.heap.size) B w' d o (put3 cs o (.slice (some ⟨w.heap.size, 0, none⟩) (2 * xs.length + 1) (2 * xs.length + 1)) 0 (xs.length + 1)) (.slice (some ⟨w.heap.size, 0, none⟩) (2 * xs.length + 1) (2 * xs.length + 1)) 0 (xs ++ [x]) ∧ Chg (fun k => k = d) w w' := by
  have H := Lib.hid h
  have HO := Lib.hid ho
  have HR := Lib.hid hr
  have hmk := fun W : World => run_make_row' (P := Try.prog) 50 3 (.int .i64 0) 8 Try.underlying50 info rfl .i64 .i64 (2 * xs.length + 1) (by omega) (by omega) W
  rw [show (((2 * xs.length + 1 : Nat)) : Int) = 2 * (xs.length : Int) + 1 by push_cast; rfl] at hmk
  obtain ⟨hd, h0, h1, h2⟩ := h
  have hdlt := lt_of_block hd
  have c0 := (blk_cell hd o).trans h0
  have c2 := (blk_cell hd (o + 2)).trans h2
  rw [← heq] at c0
  have HEQ := Lib.hid heq
  have hl2 : xs.length ≤ 100000 := by omega
  clear hd h0 h1 h2 ho hr heq
  go_enter Try.func42, Try.ntmps42
  go_wp2_with fail
  go_quiet (fail)
  have cc2 := (cell_agree (w' := (w.drewN nq).alloc (.cells (madeCells #[.int .i64 0] (2 * xs.length + 1)) 3)) (fun h => Below.heap_alloc (w.drewN nq) _ d h) c2)
  go_wp2_with fail
  go_loopw [27] (fun i wr => ∃ k : Nat, k ≤ xs.length ∧ i = .int .i64 k ∧ wr.ownsRow B 3 1 (.slice (some ⟨w.heap.size, 0, none⟩) (2 * xs.length + 1) (2 * xs.length + 1)) (2 * xs.length + 1) ((xs.take k ++ List.replicate (2 * xs.length + 1 - k) (0 : Int)).map fun y => .int .i64 y) ∧ Chg (fun _ => False) w wr) (fun i _ => xs.length - (intOf i).toNat)
  case atStart => exact ⟨0, Nat.zero_le _, rfl, by simpa using made_own (w.drewN nq) B (2 * xs.length + 1) hB (by omega), ((Chg.refl (fun _ => False) w).drewN nq).alloc _⟩
  case round =>
    obtain ⟨k, hk, rfl, hn, hc⟩ := hrel
    have HN := Lib.hid hn
    have HC := Lib.hid hc
    have HW := Lib.hid (H.out.keep hc (fun h => h))
    have HOW := Lib.hid (own_chg HO.out hc (fun _ _ h => h))
    obtain ⟨gn, cn, hvn, _, _, _, _, hcn, hfn⟩ := own_shape hn (by omega)
    injection hvn with hvn _ hcc
    injection hvn with hvn
    injection hvn with hvn
    subst hvn hcc
    have e0 := (blk_cell HW.out.1 o).trans HW.out.2.1
    have e1 := (blk_cell HW.out.1 (o + 1)).trans HW.out.2.2.1
    have e2 := (blk_cell HW.out.1 (o + 2)).trans HW.out.2.2.2
    have fe0 := blk_free HW.out.1 o
    have fe1 := blk_free HW.out.1 (o + 1)
    have fe2 := blk_free HW.out.1 (o + 2)
    have hgd : ¬ w.heap.size = d := by omega
    have hdg : ¬ d = w.heap.size := by omega
    rw [← HEQ.out] at e0
    by_cases hlt : k < xs.length
    · have ho2 := HOW.out
      rw [← HEQ.out] at ho2
      obtain ⟨g, cg, hvg, _, hg2, _, _, hcg, hfg⟩ := own_shape ho2 (by omega)
      injection hvg with hvg _ hcc
      subst hvg hcc
      have hq : (first + k) % R.length < xs.length := by rw [HEQ.out]; exact at_lt (by rw [← HEQ.out]; omega)
      have hrk := HR.out.2.2 k hlt
      have cx := hcg ((first + k) % R.length) (.int .i64 xs[k]) (by simp [hrk])
      have HAT := Lib.hid (fun (W : World) (h : At W d o cs (.slice (some ⟨g, 0, none⟩) R.length c) first xs.length) => at_any W d o cs _ R.length _ first _ k h (by rw [← HEQ.out]; omega) (by omega) (by have := HR.out.2.1; omega) (by omega))
      have cn := hcn k (.int .i64 0) (by simp [show min k xs.length = k by omega, show 0 < 2 * xs.length + 1 - k by omega])
      have fn := hfn k
      have HSTEP := Lib.hid (copy_step xs (0 : Int) (2 * xs.length + 1) k hlt (by omega))
      clear hn hc ho2 hcg hfg hrk hcn hfn
      generalize hx : xs[k] = xk at *
      generalize hqq : (first + k) % R.length = q at *
      clear hx hqq
      go_wp2_with fail
      refine region_quiet_tail 12 (by kernel_rfl) (by kernel_rfl) ?_
      simp only [List.take_succ_cons, List.take_zero, List.drop_succ_cons, List.drop_zero]
      repeat (go_big_quiet_step ((go_at_call 51; exact Calls.quiet_of (HAT.out _ HW.out))))
      refine wpQuiet_nil ?_
      intro w' hw'
      obtain ⟨nq, rfl⟩ := hw'
      go_wp2
      go_roundw
      case rel =>
        refine ⟨k + 1, by omega, by go_num, ?_, ?_⟩
        · have := own_set (own_drewN HN.out nq) k (by simp; omega) (.int .i64 xk)
          rw [← List.map_set, HSTEP.out] at this
          exact this
        · exact (HC.out.drewN _).setCell (fun h => absurd h (Nat.lt_irrefl _)) _
      case measure => simp [intOf]; omega
    · have hkm : k = xs.length := by omega
      subst hkm
      have cn := hcn xs.length (.int .i64 0) (by simp [show 0 < 2 * xs.length + 1 - xs.length by omega])
      have fn := hfn xs.length
      have HW2 := Lib.hid (show At ((wr.setCell ⟨d, o, none⟩ (.slice (some ⟨w.heap.size, 0, none⟩) (2 * xs.length + 1) (2 * xs.length + 1))).setCell ⟨d, o + 1, none⟩ (.int .i64 0)) d o ((cs.setIfInBounds o (.slice (some ⟨w.heap.size, 0, none⟩) (2 * xs.length + 1) (2 * xs.length + 1))).setIfInBounds (o + 1) (.int .i64 0)) (.slice (some ⟨w.heap.size, 0, none⟩) (2 * xs.length + 1) (2 * xs.length + 1)) 0 xs.length from
        ⟨blk_set (blk_set HW.out.1 o _) (o + 1) _, by have := HW.out.lt; rw [put_get _ _ _ _ (by simp; omega), if_neg (by omega), put_get _ _ _ _ (by omega), if_pos rfl], by have := HW.out.lt; rw [put_get _ _ _ _ (by simp; omega), if_pos rfl]; rfl, by have := HW.out.lt; rw [put_get _ _ _ _ (by simp; omega), if_neg (by omega), put_get _ _ _ _ (by omega), if_neg (by omega)]; exact HW.out.2.2.2⟩)
      have hat := fun (W : World) (h : At W d o ((cs.setIfInBounds o (.slice (some ⟨w.heap.size, 0, none⟩) (2 * xs.length + 1) (2 * xs.length + 1))).setIfInBounds (o + 1) (.int .i64 0)) (.slice (some ⟨w.heap.size, 0, none⟩) (2 * xs.length + 1) (2 * xs.length + 1)) 0 xs.length) => at_any W d o _ _ (2 * xs.length + 1) _ 0 _ xs.length h (by omega) (by omega) (by omega) (by omega)
      rw [show (0 + xs.length) % (2 * xs.length + 1) = xs.length by rw [Nat.zero_add]; exact Nat.mod_eq_of_lt (by omega)] at hat
      have HAT := Lib.hid hat
      clear hn hc hcn hfn hat
      go_wp2_with fail
      refine region_quiet_tail 12 (by kernel_rfl) (by kernel_rfl) ?_
      simp only [List.take_succ_cons, List.take_zero, List.drop_succ_cons, List.drop_zero]
      repeat (go_big_quiet_step ((go_at_call 51; exact Calls.quiet_of (HAT.out _ HW2.out))))
      refine wpQuiet_nil ?_
      intro w' hw'
      obtain ⟨nq, rfl⟩ := hw'
      go_wp2
      go_end0
      have H1 := HW.out
      have hcs := H1.lt
      refine ⟨rfl, ⟨⟨?_, by have := put3_get (.slice (some ⟨w.heap.size, 0, none⟩) (2 * xs.length + 1) (2 * xs.length + 1)) 0 (xs.length + 1) hcs; simpa using this⟩, (xs ++ List.replicate (xs.length + 1) (0 : Int)).set xs.length x, ?_, fun k hk => (Option.some.inj hk).symm, ?_, ?_⟩, ?_⟩
      · exact blk_set (blk_far (blk_drewN _ (blk_set (blk_set H1.1 o _) (o + 1) _)) hdg _) (o + 2) _
      · have := own_set (own_drewN (own_far (p := ⟨d, o + 1, none⟩) (own_far (p := ⟨d, o, none⟩) HN.out (fun e => hgd (by simpa [Value.ownBlock] using e)) (.slice (some ⟨w.heap.size, 0, none⟩) (2 * xs.length + 1) (2 * xs.length + 1))) (fun e => hgd (by simpa [Value.ownBlock] using e)) (.int .i64 0)) nq) xs.length (by simp; omega) (.int .i64 x)
        rw [← List.map_set, List.take_length, show 2 * xs.length + 1 - xs.length = xs.length + 1 by omega] at this
        rw [List.length_set, List.length_append, List.length_replicate, show xs.length + (xs.length + 1) = 2 * xs.length + 1 by omega]
        exact own_far this (fun e => hgd (by simpa [Value.ownBlock] using e)) _
      · have := ring_push (ring_grow (xs := xs) (0 : Int) (xs.length + 1)) (by simp) x
        rw [Nat.zero_add, Nat.mod_eq_of_lt (by simp)] at this
        exact this
      · simp; omega
      · exact ((((((HC.out.mono (S' := fun k => k = d) (fun _ _ h => h.elim)).setCell (p := ⟨d, o, none⟩) (fun _ => rfl) _).setCell (p := ⟨d, o + 1, none⟩) (fun _ => rfl) _).drewN nq).setCell (p := ⟨w.heap.size, xs.length, none⟩) (fun h => absurd h (Nat.lt_irrefl _)) _).setCell (p := ⟨d, o + 2, none⟩) (fun _ => rfl) _ : Chg (fun k => k = d) w _)
theorem push_any (S : Nat → Prop) (B : Nat) (w : World) (d o : Nat) (cs : Array Value) (rv : Value) (first : Nat) (xs : List Int) (x : Int) (h : Dq S B w d o cs rv first xs) (hl : xs.length ≤ 100000) (hB : B ≤ w.heap.size) :
    Calls Try.prog 42 #[.pointer (some ⟨d, o, none⟩), .int .i64 x] w fun e w' => e = .returned (.tuple #[]) ∧ (∃ rv' first', Dq (fun k => S k ∨ w.heap.size ≤ k) B w' d o (put3 cs o rv' first' (xs.length + 1)) rv' first' (xs ++ [x])) ∧ Chg (fun k => k = d ∨ S k) w w' := by
  obtain ⟨hA, R, ho, hS, hr, hRl⟩ := h
  by_cases hlt : xs.length < R.length
  · obtain ⟨g, c, rfl, _⟩ := own_shape ho (by omega)
    refine (push_room S B w d o cs g c first R xs x hA ho (hS g rfl) hr hlt hRl).mono ?_
    rintro e w' ⟨rfl, ⟨hA1, R1, ho1, hS1, hr1⟩, hc⟩
    exact ⟨rfl, ⟨_, _, hA1, R1, ho1, fun k hk => .inl (hS1 k hk), hr1⟩, hc⟩
  · have heq : xs.length = R.length := by have := hr.1; omega
    obtain ⟨A, c, rfl⟩ := own_slice ho
    refine (push_grow B w d o cs A c first R xs x hA ho hr heq (by omega) hB).mono ?_
    rintro e w' ⟨rfl, ⟨hA1, R1, ho1, hS1, hr1⟩, hc⟩
    exact ⟨rfl, ⟨_, _, hA1, R1, ho1, fun k hk => .inr (Nat.le_of_eq (hS1 k hk).symm), hr1⟩, hc.mono fun i _ hi => .inl hi⟩
theorem Dq.keep {S S' : Nat → Prop} {B : Nat} {w w' : World} {d o : Nat} {cs : Array Value} {rv : Value} {first : Nat} {xs : List Int} (h : Dq S B w d o cs rv first xs) (hc : Chg S' w w') (hd : ¬ S' d) (hS : ∀ k, S k → ¬ S' k) : Dq S B w' d o cs rv first xs := by
  obtain ⟨hA, R, ho, hS1, hr⟩ := h
  exact ⟨hA.keep hc hd, R, own_chg ho hc (fun k hk => hS k (hS1 k hk)), hS1, hr⟩
theorem Dq.bound {S : Nat → Prop} {B : Nat} {w : World} {d o : Nat} {cs : Array Value} {rv : Value} {first : Nat} {xs : List Int} (h : Dq S B w d o cs rv first xs) : Dq (fun k => S k ∧ k < w.heap.size) B w d o cs rv first xs := by
  obtain ⟨hA, R, ho, hS1, hr⟩ := h
  exact ⟨hA, R, ho, fun k hk => ⟨hS1 k hk, (own_lt ho k hk).2⟩, hr⟩
end Go.Proofs.Ytmjgbdmjeadmaaa.DqI
