/- What the methods of a feed do: a reader's list and how many it lost, as plain lists and numbers. -/
import Derived.Test.YtmjgbdmjeadmaaaGate
namespace Go.Proofs.Ytmjgbdmjeadmaaa
open Go.RowKit
def feedAdd (room : Int) (n : Int) (r : List Int × Int) : List Int × Int :=
  if ((r.1 ++ [n]).length : Int) > room then ((r.1 ++ [n]).drop 1, r.2 + 1) else (r.1 ++ [n], r.2)
/-- A feed at block f: each of its m readers has its list and its number. S: the blocks that are its own. -/
def IsFeed (S : Nat → Prop) (B : Nat) (w : World) (f : Nat) (room : Int) (m : Nat) (rd : Nat → List Int × Int) (sv : Value) (P : Nat → Nat) (V : Nat → Value) : Prop :=
  w.heap[f]? = some (.cells #[.int .i64 room, sv] 82 (0, 0)) ∧ S f ∧ B ≤ f ∧
  w.ownsRow B 83 1 sv m ((List.range m).map fun i => .pointer (some ⟨P i, 0, none⟩)) ∧ (∀ k, sv.ownBlock = some k → S k) ∧
  (∀ i, i < m → w.heap[P i]? = some (.cells #[V i, .int .i64 (rd i).2] 85 (0, 0)) ∧ S (P i) ∧ B ≤ P i ∧
    w.ownsRow B 2 1 (V i) (rd i).1.length ((rd i).1.map (.int .i64)) ∧ (∀ k, (V i).ownBlock = some k → S k)) ∧
  ∀ i j, i < m → j < m → i ≠ j → P i ≠ P j ∧ ∀ k, (V i).ownBlock = some k → (V j).ownBlock ≠ some k
def Feed (S : Nat → Prop) (B : Nat) (w : World) (f : Nat) (room : Int) (m : Nat) (rd : Nat → List Int × Int) : Prop := ∃ sv P V, IsFeed S B w f room m rd sv P V
theorem feed_new_bad (w : World) (room : Int) (h : room < 1 ∨ 100 < room) :
    Calls Try.prog 34 #[.int .i64 room] w fun e w' => e = .returned (.tuple #[.pointer none, .iface 27 (.int .i64 1)]) ∧ w = w' := by
  by_cases h1 : room < 1
  · go_enter Try.func34, Try.ntmps34
    go_wp2
    go_ret2
    exact ⟨rfl, rfl⟩
  · have h2 : 100 < room := by omega
    clear h
    go_enter Try.func34, Try.ntmps34
    go_wp2
    go_ret2
    exact ⟨rfl, rfl⟩
theorem feed_new (w : World) (room : Int) (h1 : 1 ≤ room) (h2 : room ≤ 100) (B : Nat) (hB : B ≤ w.heap.size) :
    Calls Try.prog 34 #[.int .i64 room] w fun e w' => ∃ f, e = .returned (.tuple #[.pointer (some ⟨f, 0, none⟩), .nilIface]) ∧ Feed (fun k => w.heap.size ≤ k) B w' f room 0 (fun _ => ([], 0)) ∧ Below w.heap.size w w' := by
  go_enter Try.func34, Try.ntmps34
  go_wp2
  go_ret2
  refine ⟨w.heap.size, rfl, ⟨.slice none 0 0, fun _ => 0, fun _ => .nilIface, blk_new _ _, Nat.le_refl _, hB, World.ownsRow_nil _ _ _ _, fun k hk => by simp [Value.ownBlock] at hk, fun i hi => by omega, fun i j hi => by omega⟩, (Below.refl _ _).alloc (Nat.le_refl _) _⟩
theorem feed_read_full (S : Nat → Prop) (B : Nat) (w : World) (f : Nat) (room : Int) (m : Nat) (rd : Nat → List Int × Int) (h : Feed S B w f room m rd) (hm : 8 ≤ m) :
    Calls Try.prog 37 #[.pointer (some ⟨f, 0, none⟩)] w fun e w' => e = .returned (.tuple #[.int .i64 0, .iface 27 (.int .i64 6)]) ∧ w = w' := by
  obtain ⟨sv, P, V, hf, _, _, ho, _⟩ := h
  obtain ⟨g, cap, rfl, _⟩ := own_shape ho (by omega)
  have hc := blk_cell hf 1
  clear hf ho
  go_enter Try.func37, Try.ntmps37
  go_wp2
  go_ret2
  exact ⟨rfl, rfl⟩
theorem ptr_info : (Try.prog.info? 83).map (fun i => (i.zero, i.size, i.bytes)) = some (some (.pointer none), 1, 8) := by kernel_rfl
theorem i64_info : (Try.prog.info? 2).map (fun i => (i.zero, i.size, i.bytes)) = some (some (.int .i64 0), 1, 8) := by kernel_rfl
theorem feed_read_end {S : Nat → Prop} {B : Nat} {w w1 : World} {f : Nat} {room : Int} {m : Nat} {rd : Nat → List Int × Int} {sv v1 : Value} {P : Nat → Nat} {V : Nat → Value} (h : IsFeed S B w f room m rd sv P V) (hBw : B ≤ w.heap.size)
    (hown : w1.ownsRow B 83 1 v1 (m + 1) (((List.range m).map fun i => .pointer (some ⟨P i, 0, none⟩)) ++ [.pointer (some ⟨w.heap.size, 0, none⟩)]))
    (hchg : Chg (fun k => sv.ownBlock = some k) (w.alloc (.cells #[.slice none 0 0, .int .i64 0] 85)) w1)
    (hat : v1.ownBlock = sv.ownBlock ∨ ∃ b, v1.ownBlock = some b ∧ (w.alloc (.cells #[.slice none 0 0, .int .i64 0] 85)).heap.size ≤ b) :
    Feed (fun k => S k ∨ w.heap.size ≤ k) B (w1.setCell ⟨f, 1, none⟩ v1) f room (m + 1) (fun i => if i < m then rd i else ([], 0)) ∧ Chg S w (w1.setCell ⟨f, 1, none⟩ v1) := by
  obtain ⟨hf, hSf, hBf, ho, hSv, hr, hd⟩ := h
  have hF1 := hchg.blk (blk_alloc _ hf) (own_ne ho hf (by decide))
  have hflt := lt_of_block hf
  have hC : Chg S w (w1.setCell ⟨f, 1, none⟩ v1) := (((Chg.refl S w).alloc _).trans' hchg (fun i _ e => hSv i e)).setCell (fun _ => hSf) _
  refine ⟨⟨v1, fun i => if i < m then P i else w.heap.size, fun i => if i < m then V i else .slice none 0 0, blk_set hF1 1 v1, .inl hSf, hBf, ?_, ?_, ?_, ?_⟩, hC⟩
  · have e : ((List.range (m + 1)).map fun i => Value.pointer (some ⟨if i < m then P i else w.heap.size, 0, none⟩)) = ((List.range m).map fun i => .pointer (some ⟨P i, 0, none⟩)) ++ [.pointer (some ⟨w.heap.size, 0, none⟩)] := by
      rw [List.range_succ, List.map_append]
      congr 1
      · refine List.map_congr_left fun i hi => ?_
        rw [if_pos (List.mem_range.1 hi)]
      · simp
    rw [e]
    exact own_far hown (own_ne hown hF1 (by decide)) _
  · intro k hk
    rcases hat with hat | ⟨b, hb, hlt⟩
    · exact .inl (hSv k (hat ▸ hk))
    · rw [hb] at hk
      injection hk with hk
      simp at hlt
      exact .inr (by omega)
  · intro i hi
    by_cases him : i < m
    · obtain ⟨h1, h2, h3, h4, h5⟩ := hr i him
      simp only [if_pos him]
      refine ⟨blk_far (hchg.blk (blk_alloc _ h1) (own_ne ho h1 (by decide))) (blk_ne h1 hf (by decide)) _, .inl h2, h3, ?_, fun k hk => .inl (h5 k hk)⟩
      exact own_far (own_chg (own_alloc h4 _) hchg (fun k hk => own_own_ne h4 ho (by decide) k hk)) (own_ne h4 hf (by decide)) _
    · simp only [if_neg him]
      refine ⟨blk_far (hchg.blk (blk_new _ _) (fun e => ?_)) (by simp; omega) _, .inr (Nat.le_refl _), hBw, World.ownsRow_nil _ _ _ _, fun k hk => by simp [Value.ownBlock] at hk⟩
      have := (own_lt ho _ e).2
      omega
  · intro i j hi hj hij
    by_cases him : i < m <;> by_cases hjm : j < m
    · simp only [if_pos him, if_pos hjm]; exact hd i j him hjm hij
    · simp only [if_pos him, if_neg hjm]
      have := lt_of_block (hr i him).1
      exact ⟨by omega, fun k hk => by simp [Value.ownBlock]⟩
    · simp only [if_neg him, if_pos hjm]
      have := lt_of_block (hr j hjm).1
      exact ⟨by omega, fun k hk => by simp [Value.ownBlock] at hk⟩
    · omega
theorem feed_read (S : Nat → Prop) (B : Nat) (w : World) (f : Nat) (room : Int) (m : Nat) (rd : Nat → List Int × Int) (h : Feed S B w f room m rd) (hm : m < 8) (hBw : B ≤ w.heap.size) :
    Calls Try.prog 37 #[.pointer (some ⟨f, 0, none⟩)] w fun e w' => e = .returned (.tuple #[.int .i64 m, .nilIface]) ∧ Feed (fun k => S k ∨ w.heap.size ≤ k) B w' f room (m + 1) (fun i => if i < m then rd i else ([], 0)) ∧ Chg S w w' := by
  obtain ⟨sv, P, V, h⟩ := h
  have HI := Lib.hid h
  obtain ⟨hf, hSf, hBf, ho, hSv, hr, hd⟩ := h
  have HF := Lib.hid hf
  have HO := Lib.hid ho
  obtain ⟨A, cap, rfl⟩ := own_slice ho
  have hc := blk_cell hf 1
  have hfr := blk_free hf 1
  clear hf ho hr hd
  go_enter Try.func37, Try.ntmps37
  go_wp2_with (at_builtin; refine app_one rfl _ _ 80 83 (.pointer none) 1 8 rfl Try.underlying80 ptr_info rfl (by decide) (by decide) B (.slice A m cap) m _ _ _ rfl rfl (by simp) rfl (by simp [Value.oneCell']) (own_alloc HO.out _) (by simp; omega) (by omega) ?_; intro v1 w1 hown hchg hat; obtain ⟨g1, cap1, rfl, hg1⟩ := own_shape hown (by omega); have HF1 := Lib.hid (hchg.blk (blk_alloc _ HF.out) (own_ne HO.out HF.out (by decide))); have hc1 := blk_cell HF1.out 1; have hfr1 := blk_free HF1.out 1; have HAT := Lib.hid hat; have HOWN := Lib.hid hown; have HG1 := Lib.hid hg1; clear hat hown hg1)
  go_ret2
  exact ⟨rfl, feed_read_end HI.out hBw HOWN.out hchg HAT.out⟩
theorem feed_poll_none (S : Nat → Prop) (B : Nat) (w : World) (f : Nat) (room : Int) (m : Nat) (rd : Nat → List Int × Int) (h : Feed S B w f room m rd) (n : Int) (hn : n < 0 ∨ (m : Int) ≤ n) :
    Calls Try.prog 38 #[.pointer (some ⟨f, 0, none⟩), .int .i64 n] w fun e w' => e = .returned (.tuple #[.slice none 0 0, .int .i64 0, .iface 27 (.int .i64 4)]) ∧ w = w' := by
  obtain ⟨sv, P, V, hf, _, _, ho, _⟩ := h
  obtain ⟨A, cap, rfl⟩ := own_slice ho
  have hc := blk_cell hf 1
  clear hf ho
  by_cases h1 : n < 0
  · go_enter Try.func38, Try.ntmps38
    go_wp2
    go_ret3
    exact ⟨rfl, rfl⟩
  · have h2 : (m : Int) ≤ n := by omega
    have h3 : 0 ≤ n := by omega
    clear hn h1
    go_enter Try.func38, Try.ntmps38
    go_wp2
    go_ret3
    exact ⟨rfl, rfl⟩
theorem feed_poll_end {S : Nat → Prop} {B : Nat} {w : World} {f : Nat} {room : Int} {m : Nat} {rd : Nat → List Int × Int} {P : Nat → Nat} {V : Nat → Value} {g cap : Nat} {j : Nat} (d : Nat)
    (h : IsFeed S B w f room m rd (.slice (some ⟨g, 0, none⟩) m cap) P V) (hBw : B ≤ w.heap.size) (hj : j < m) :
    ((((w.alloc (.cells #[.slice none 0 0, .int .i64 0] 85)).setCell ⟨g, j, none⟩ (.pointer (some ⟨w.heap.size, 0, none⟩))).drewN d).ownsRow B 2 1 (V j) (rd j).1.length ((rd j).1.map (.int .i64))) ∧
    Feed (fun k => (S k ∧ (V j).ownBlock ≠ some k) ∨ w.heap.size ≤ k) B (((w.alloc (.cells #[.slice none 0 0, .int .i64 0] 85)).setCell ⟨g, j, none⟩ (.pointer (some ⟨w.heap.size, 0, none⟩))).drewN d) f room m (fun i => if i = j then ([], 0) else rd i) ∧
    Chg S w (((w.alloc (.cells #[.slice none 0 0, .int .i64 0] 85)).setCell ⟨g, j, none⟩ (.pointer (some ⟨w.heap.size, 0, none⟩))).drewN d) := by
  obtain ⟨hf, hSf, hBf, ho, hSv, hr, hd⟩ := h
  have hflt := lt_of_block hf
  have hgf : g ≠ f := fun e => own_ne ho hf (by decide) (by rw [e]; rfl)
  obtain ⟨j1, j2, j3, j4, j5⟩ := hr j hj
  have rows : ∀ {v : Value} {n : Nat} {xs : List Value}, w.ownsRow B 2 1 v n xs → (((w.alloc (.cells #[.slice none 0 0, .int .i64 0] 85)).setCell ⟨g, j, none⟩ (.pointer (some ⟨w.heap.size, 0, none⟩))).drewN d).ownsRow B 2 1 v n xs := by
    intro v n xs hv
    refine own_drewN (own_far (own_alloc hv _) (fun e => own_own_ne hv ho (by decide) g e rfl) _) d
  refine ⟨rows j4, ⟨.slice (some ⟨g, 0, none⟩) m cap, fun i => if i = j then w.heap.size else P i, fun i => if i = j then .slice none 0 0 else V i, blk_drewN d (blk_far (blk_alloc _ hf) (Ne.symm hgf) _), .inl ⟨hSf, own_ne j4 hf (by decide)⟩, hBf, ?_, ?_, ?_, ?_⟩, (((Chg.refl S w).alloc _).setCell (fun _ => hSv g rfl) _).drewN d⟩
  · have := own_set (own_alloc ho (.cells #[.slice none 0 0, .int .i64 0] 85)) j (by simpa using hj) (.pointer (some ⟨w.heap.size, 0, none⟩))
    have e : ((List.range m).map fun i => Value.pointer (some ⟨P i, 0, none⟩)).set j (.pointer (some ⟨w.heap.size, 0, none⟩)) = (List.range m).map fun i => .pointer (some ⟨if i = j then w.heap.size else P i, 0, none⟩) := by
      refine List.ext_getElem (by simp) fun i h1 h2 => ?_
      rw [List.getElem_set]
      simp only [List.getElem_map, List.getElem_range]
      by_cases hij : j = i
      · subst hij; simp
      · rw [if_neg hij, if_neg (fun e => hij e.symm)]
    rw [← e]
    exact own_drewN this d
  · intro k hk
    exact .inl ⟨hSv k hk, fun e => own_own_ne j4 ho (by decide) k e hk⟩
  · intro i hi
    by_cases hij : i = j
    · simp only [if_pos hij]
      refine ⟨blk_drewN d (blk_far (blk_new _ _) (fun e => ?_) _), .inr (Nat.le_refl _), hBw, World.ownsRow_nil _ _ _ _, fun k hk => by simp [Value.ownBlock] at hk⟩
      have := (own_lt ho g rfl).2
      have e' : w.heap.size = g := e
      omega
    · obtain ⟨h1, h2, h3, h4, h5⟩ := hr i hi
      simp only [if_neg hij]
      exact ⟨blk_drewN d (blk_far (blk_alloc _ h1) (fun e => own_ne ho h1 (by decide) (by rw [e]; rfl)) _), .inl ⟨h2, own_ne j4 h1 (by decide)⟩, h3, rows h4, fun k hk => .inl ⟨h5 k hk, fun e => (hd j i hj hi (Ne.symm hij)).2 k e hk⟩⟩
  · intro i i' hi hi' hii
    by_cases h1 : i = j <;> by_cases h2 : i' = j
    · omega
    · simp only [if_pos h1, if_neg h2]
      have := lt_of_block (hr i' hi').1
      exact ⟨by omega, fun k hk => by simp [Value.ownBlock] at hk⟩
    · simp only [if_neg h1, if_pos h2]
      have := lt_of_block (hr i hi).1
      exact ⟨by omega, fun k hk => by simp [Value.ownBlock]⟩
    · simp only [if_neg h1, if_neg h2]; exact hd i i' hi hi' hii
theorem feed_poll (S : Nat → Prop) (B : Nat) (w : World) (f : Nat) (room : Int) (m : Nat) (rd : Nat → List Int × Int) (h : Feed S B w f room m rd) (j : Nat) (hj : j < m) (hBw : B ≤ w.heap.size) :
    Calls Try.prog 38 #[.pointer (some ⟨f, 0, none⟩), .int .i64 j] w fun e w' => ∃ v, e = .returned (.tuple #[v, .int .i64 (rd j).2, .nilIface]) ∧ w'.ownsRow B 2 1 v (rd j).1.length ((rd j).1.map (.int .i64)) ∧
      Feed (fun k => (S k ∧ v.ownBlock ≠ some k) ∨ w.heap.size ≤ k) B w' f room m (fun i => if i = j then ([], 0) else rd i) ∧ Chg S w w' := by
  obtain ⟨sv, P, V, h⟩ := h
  obtain ⟨g, cap, rfl, hg1, hg2, hg3, hg4, hg5, hg6⟩ := own_shape h.2.2.2.1 (by omega)
  have HI := Lib.hid h
  obtain ⟨hf, hSf, hBf, ho, hSv, hr, hd⟩ := h
  have hgf : g ≠ f := fun e => own_ne ho hf (by decide) (by rw [e]; rfl)
  obtain ⟨j1, j2, j3, j4, j5⟩ := hr j hj
  have hgp : g ≠ P j := fun e => own_ne ho j1 (by decide) (by rw [e]; rfl)
  have hplt := lt_of_block j1
  have hc := blk_cell hf 1
  have hfr := blk_free hf 1
  have hcj := hg5 j (.pointer (some ⟨P j, 0, none⟩)) (by simp [hj])
  have hfj := hg6 j
  have hp0 := blk_cell j1 0
  have hp1 := blk_cell j1 1
  clear hf ho hr hd hg5 hg6 j1 j4 j5 hSv
  generalize P j = p at hcj hp0 hp1 hgp hplt
  go_enter Try.func38, Try.ntmps38
  go_wp2_with fail
  go_quiet (fail)
  go_wp2
  go_ret3
  obtain ⟨k1, k2, k3⟩ := feed_poll_end nq HI.out hBw hj
  rw [World.setCell_alloc_past _ _ _ _ hg2] at k1 k2 k3
  exact ⟨_, rfl, k1, k2, k3⟩
/-- One reader turned: its struct and its row are new, all else is as it was. -/
theorem feed_turn {S : Nat → Prop} {B : Nat} {w w' : World} {f : Nat} {room : Int} {m : Nat} {rd : Nat → List Int × Int} {sv : Value} {P : Nat → Nat} {V : Nat → Value} (h : IsFeed S B w f room m rd sv P V) {k : Nat} (hk : k < m) {v' : Value} {xs : List Int} {lost : Int}
    (hc : Chg (fun b => b = P k ∨ (V k).ownBlock = some b) w w') (hp : w'.heap[P k]? = some (.cells #[v', .int .i64 lost] 85 (0, 0)))
    (hown : w'.ownsRow B 2 1 v' xs.length (xs.map (.int .i64))) (hat : v'.ownBlock = (V k).ownBlock ∨ ∃ b, v'.ownBlock = some b ∧ w.heap.size ≤ b) :
    IsFeed (fun b => S b ∨ w.heap.size ≤ b) B w' f room m (fun i => if i = k then (xs, lost) else rd i) sv P (fun i => if i = k then v' else V i) ∧ Chg S w w' := by
  obtain ⟨hf, hSf, hBf, ho, hSv, hr, hd⟩ := h
  obtain ⟨k1, k2, k3, k4, k5⟩ := hr k hk
  have other : ∀ {g : Nat} {o : Obj}, w.heap[g]? = some o → g ≠ P k → (V k).ownBlock ≠ some g → w'.heap[g]? = some o := fun hg h1 h2 => hc.blk hg (by rintro (h | h); exact h1 h; exact h2 h)
  refine ⟨⟨other hf (blk_ne hf k1 (by decide)) (own_ne k4 hf (by decide)), .inl hSf, hBf, ?_, fun b hb => .inl (hSv b hb), ?_, ?_⟩, hc.mono (by rintro i _ (h | h); exact h ▸ k2; exact k5 i h)⟩
  · refine own_chg ho hc (fun b hb => ?_)
    rintro (h | h)
    · exact own_ne ho k1 (by decide) (h ▸ hb)
    · exact own_own_ne ho k4 (by decide) b hb h
  · intro i hi
    by_cases hik : i = k
    · subst hik
      simp only [if_true]
      refine ⟨hp, .inl k2, k3, hown, fun b hb => ?_⟩
      rcases hat with hat | ⟨b', hb', hlt⟩
      · exact .inl (k5 b (hat ▸ hb))
      · rw [hb'] at hb
        injection hb with hb
        exact .inr (hb ▸ hlt)
    · obtain ⟨h1, h2, h3, h4, h5⟩ := hr i hi
      simp only [if_neg hik]
      refine ⟨other h1 (hd i k hi hk hik).1 (own_ne k4 h1 (by decide)), .inl h2, h3, own_chg h4 hc (fun b hb => ?_), fun b hb => .inl (h5 b hb)⟩
      rintro (h | h)
      · exact own_ne h4 k1 (by decide) (h ▸ hb)
      · exact (hd i k hi hk hik).2 b hb h
  · intro i j hi hj hij
    refine ⟨(hd i j hi hj hij).1, ?_⟩
    by_cases h1 : i = k <;> by_cases h2 : j = k
    · omega
    · subst h1
      simp only [if_true, if_neg h2]
      intro b hb
      rcases hat with hat | ⟨b', hb', hlt⟩
      · exact (hd i j hi hj hij).2 b (hat ▸ hb)
      · intro e
        have := (own_lt (hr j hj).2.2.2.1 b e).2
        rw [hb'] at hb
        injection hb with hb
        omega
    · subst h2
      simp only [if_true, if_neg h1]
      intro b hb e
      rcases hat with hat | ⟨b', hb', hlt⟩
      · exact (hd i j hi hj hij).2 b hb (hat ▸ e)
      · have := (own_lt (hr i hi).2.2.2.1 b hb).2
        rw [hb'] at e
        injection e with e
        omega
    · simp only [if_neg h1, if_neg h2]; exact (hd i j hi hj hij).2
theorem IsFeed.mono {S S' : Nat → Prop} {B : Nat} {w : World} {f : Nat} {room : Int} {m : Nat} {rd : Nat → List Int × Int} {sv : Value} {P : Nat → Nat} {V : Nat → Value} (h : IsFeed S B w f room m rd sv P V) (hS : ∀ b, S b → S' b) : IsFeed S' B w f room m rd sv P V := by
  obtain ⟨hf, hSf, hBf, ho, hSv, hr, hd⟩ := h
  exact ⟨hf, hS _ hSf, hBf, ho, fun k hk => hS k (hSv k hk), fun i hi => ⟨(hr i hi).1, hS _ (hr i hi).2.1, (hr i hi).2.2.1, (hr i hi).2.2.2.1, fun k hk => hS k ((hr i hi).2.2.2.2 k hk)⟩, hd⟩
theorem IsFeed.congr {S : Nat → Prop} {B : Nat} {w : World} {f : Nat} {room : Int} {m : Nat} {rd rd' : Nat → List Int × Int} {sv : Value} {P : Nat → Nat} {V : Nat → Value} (h : IsFeed S B w f room m rd sv P V) (hr' : ∀ i, i < m → rd i = rd' i) : IsFeed S B w f room m rd' sv P V := by
  obtain ⟨hf, hSf, hBf, ho, hSv, hr, hd⟩ := h
  exact ⟨hf, hSf, hBf, ho, hSv, fun i hi => by rw [← hr' i hi]; exact hr i hi, hd⟩
def rdTo (room n : Int) (rd : Nat → List Int × Int) (k : Nat) : Nat → List Int × Int := fun i => if i < k then feedAdd room n (rd i) else rd i
theorem rdTo_succ (room n : Int) (rd : Nat → List Int × Int) (k : Nat) : (fun i => if i = k then feedAdd room n (rd k) else rdTo room n rd k i) = rdTo room n rd (k + 1) := by
  funext i
  unfold rdTo
  by_cases h : i = k
  · subst h; simp
  · rw [if_neg h]
    by_cases h2 : i < k
    · rw [if_pos h2, if_pos (by omega)]
    · rw [if_neg h2, if_neg (by omega)]
set_option maxHeartbeats 4000000 in
theorem feed_add (S : Nat → Prop) (B : Nat) (w : World) (f : Nat) (room : Int) (m : Nat) (rd : Nat → List Int × Int) (h : Feed S B w f room m rd) (n : Int) (hr1 : 1 ≤ room) (hr2 : room ≤ 100)
    (hb : ∀ i, i < m → ((rd i).1.length : Int) ≤ room ∧ 0 ≤ (rd i).2 ∧ (rd i).2 ≤ 1000000) (hm : m ≤ 100) (hBw : B ≤ w.heap.size) :
    Calls Try.prog 36 #[.pointer (some ⟨f, 0, none⟩), .int .i64 n] w fun e w' => e = .returned (.tuple #[]) ∧ Feed (fun k => S k ∨ w.heap.size ≤ k) B w' f room m (fun i => feedAdd room n (rd i)) ∧ Chg S w w' := by
  obtain ⟨sv, P, V, h⟩ := h
  have HI := Lib.hid h
  obtain ⟨hf, hSf, hBf, ho, hSv, hr, hd⟩ := h
  obtain ⟨A, cap, rfl⟩ := own_slice ho
  have hc := blk_cell hf 1
  have HB := Lib.hid hb
  clear hf ho hSv hr hd hb
  go_enter Try.func36, Try.ntmps36
  go_wp2_with fail
  go_loopw [11] (fun i wr => ∃ (k : Nat) (V' : Nat → Value), k ≤ m ∧ i = .int .i64 k ∧ IsFeed (fun b => S b ∨ w.heap.size ≤ b) B wr f room m (rdTo room n rd k) (.slice A m cap) P V' ∧ Chg S w wr) (fun i _ => m - (intOf i).toNat)
  case atStart => exact ⟨0, V, Nat.zero_le _, rfl, (HI.out.mono fun b hb => .inl hb).congr (fun i _ => by simp [rdTo]), Chg.refl _ _⟩
  case round =>
    obtain ⟨k, V', hk, rfl, hI, hC⟩ := hrel
    have HI2 := Lib.hid hI
    have hws := hC.size
    by_cases hlt : k < m
    · obtain ⟨hf, hSf, hBf, ho, hSv, hr, hd⟩ := hI
      obtain ⟨g, cap', hA, hg1, hg2, hg3, hg4, hg5, hg6⟩ := own_shape ho (by omega)
      injection hA with hA _ hA2
      subst hA hA2
      obtain ⟨k1, k2, k3, k4, k5⟩ := hr k hlt
      have hcj := hg5 k (.pointer (some ⟨P k, 0, none⟩)) (by simp [hlt])
      have hrk : rdTo room n rd k k = rd k := by simp [rdTo]
      obtain ⟨A2, cap2, hV⟩ := own_slice k4
      rw [hV] at k1 k4
      rw [hrk] at k1 k4 hV
      have HV := Lib.hid hV
      have hp0 := blk_cell k1 0
      have hp1 := blk_cell k1 1
      have hq0 := blk_free k1 0
      have hf0 := blk_cell hf 0
      have hpf : ¬ P k = f := blk_ne k1 hf (by decide)
      have hfp : ¬ f = P k := fun e => hpf e.symm
      have HK4 := Lib.hid k4
      have HK1 := Lib.hid k1
      have HF := Lib.hid hf
      clear ho hSv hr hd hg5 hg6 k1 k4 k5 hf hV hrk
      obtain ⟨hb1, hb2, hb3⟩ := HB.out k hlt
      generalize hPk : P k = p at *
      have HPk := Lib.hid hPk
      clear hPk
      by_cases hov : room < (rd k).1.length + 1
      · have hlen : 1 ≤ (rd k).1.length := by omega
        go_wp2_with (at_builtin; refine app_one rfl _ _ 49 2 (.int .i64 0) 1 8 rfl Try.underlying49 i64_info rfl (by decide) (by decide) B (.slice A2 (rd k).1.length cap2) (rd k).1.length _ _ _ rfl rfl (by simp) rfl (by simp [Value.oneCell']) HK4.out (by omega) (by omega) ?_; intro v1 w1 hown hchg hat; obtain ⟨g1, cap1, rfl, q1, q2, q3, q4, q5, q6⟩ := own_shape hown (by omega); have HP1 := Lib.hid (hchg.blk HK1.out (own_ne HK4.out HK1.out (by decide))); have HF1 := Lib.hid (hchg.blk HF.out (own_ne HK4.out HF.out (by decide))); have h2 := blk_free HP1.out 0; have h4 := blk_cell HP1.out 0; have h3 := blk_cell HF1.out 0; have HAT := Lib.hid hat; have HOWN := Lib.hid hown; have Q5 := Lib.hid q5; have hgp : ¬ g1 = p := fun e => own_ne hown HP1.out (by decide) (by rw [e]; rfl); clear hat hown q5 q6)
        go_quiet (fail)
        have HP2 := Lib.hid (blk_drewN nq (blk_set HP1.out 0 (.slice (some ⟨g1, 0, none⟩) ((rd k).1.length + 1) cap1)))
        have hcap : ¬ cap1 = 1 := by omega
        have hplt := lt_of_block HP1.out
        have HY := Lib.hid (show (((rd k).1 ++ [n]).drop 1 |>.map (Value.int .i64)).length = (rd k).1.length * 1 by simp)
        have HY1 : ∀ u ∈ (((rd k).1 ++ [n]).drop 1 |>.map (Value.int .i64)), u.oneCell' = true := by
          intro u hu; obtain ⟨x, _, rfl⟩ := List.mem_map.1 hu; rfl
        have HC : Hid (∀ j u, (((rd k).1 ++ [n]).drop 1 |>.map (Value.int .i64))[j]? = some u → (((w1.setCell ⟨p, 0, none⟩ (.slice (some ⟨g1, 0, none⟩) ((rd k).1.length + 1) cap1)).drewN nq).alloc (.cells #[] 2)).cell? ((⟨g1, 1, none⟩ : Addr).add j) = some u) := by
          intro j u hu
          rw [add_at]
          have c := Q5.out (1 + j) u (by rw [List.map_drop, List.getElem?_drop] at hu; simpa using hu)
          refine cell_agree (fun _ => ?_) c
          exact (Below.heap_alloc _ _ _ (by simpa using q2)).trans (Below.heap_setCell _ _ _ _ hgp)
        have HE := Lib.hid (show (((w1.setCell ⟨p, 0, none⟩ (.slice (some ⟨g1, 0, none⟩) ((rd k).1.length + 1) cap1)).drewN nq).alloc (.cells #[] 2)).ownsRow B 2 1 (.slice (some ⟨w1.heap.size, 0, none⟩) 0 0) 0 [] from
          ⟨rfl, .inr ⟨w1.heap.size, 0, #[], rfl, Nat.le_of_lt (Nat.lt_of_le_of_lt k3 hplt), by simpa using blk_new ((w1.setCell ⟨p, 0, none⟩ (.slice (some ⟨g1, 0, none⟩) ((rd k).1.length + 1) cap1)).drewN nq) (.cells #[] 2), Nat.le_refl _, Nat.zero_le _, rfl, rfl⟩⟩)
        have HY1' := Lib.hid HY1
        clear HY1
        go_wp2_with (at_builtin; refine app_from rfl _ _ 49 2 (.int .i64 0) 1 8 rfl Try.underlying49 i64_info rfl (by decide) (by decide) B (.slice (some ⟨w1.heap.size, 0, none⟩) 0 0) 0 [] _ ⟨g1, 1, none⟩ (rd k).1.length (cap1 - 1) rfl rfl HY.out HY1'.out HC.out HE.out (by simp; omega) (by omega) ?_; intro v2 w2 hown2 hchg2 hat2; obtain ⟨g2, cap2', rfl, _⟩ := own_shape hown2 (by omega); have HP3 := Lib.hid (hchg2.blk (blk_alloc _ HP2.out) (fun e => by simp [Value.ownBlock] at e; omega)); have r1 := blk_free HP3.out 0; have r2 := blk_cell HP3.out 0; have r3 := blk_free HP3.out 1; have r4 := blk_cell HP3.out 1; have HOWN2 := Lib.hid hown2; have HAT2 := Lib.hid hat2; clear hown2 hat2)
        go_roundw
        case rel =>
          have hsz := hchg.size
          have hown3 : w2.ownsRow B 2 1 (.slice (some ⟨g2, 0, none⟩) (rd k).1.length cap2') (((rd k).1 ++ [n]).drop 1).length ((((rd k).1 ++ [n]).drop 1).map (.int .i64)) := by
            have := HOWN2.out
            simp only [Nat.zero_add, List.nil_append] at this
            rw [show (((rd k).1 ++ [n]).drop 1).length = (rd k).1.length by simp]
            exact this
          have HT := feed_turn (w' := (w2.setCell ⟨p, 0, none⟩ (.slice (some ⟨g2, 0, none⟩) (rd k).1.length cap2')).setCell ⟨p, 1, none⟩ (.int .i64 ((rd k).2 + 1))) HI2.out hlt (v' := .slice (some ⟨g2, 0, none⟩) (rd k).1.length cap2') (xs := ((rd k).1 ++ [n]).drop 1) (lost := (rd k).2 + 1)
            (by
              rw [HPk.out, HV.out]
              refine ((((((hchg.mono (fun _ _ h => .inr h)).setCell (p := ⟨p, 0, none⟩) (fun _ => .inl rfl) _).drewN nq).alloc _).trans' hchg2 (fun i hi e => ?_)).setCell (fun _ => .inl rfl) _).setCell (fun _ => .inl rfl) _
              simp [Value.ownBlock] at e
              omega)
            (by rw [HPk.out]; exact blk_set (blk_set HP3.out 0 _) 1 _)
            (own_far (own_far hown3 (own_ne hown3 HP3.out (by decide)) _) (own_ne hown3 HP3.out (by decide)) _)
            (by
              refine .inr ⟨g2, rfl, ?_⟩
              have := HAT2.out
              simp [Value.ownBlock] at this
              omega)
          have e : feedAdd room n (rd k) = (((rd k).1 ++ [n]).drop 1, (rd k).2 + 1) := by unfold feedAdd; rw [if_pos (by simp; omega)]
          rw [← e, rdTo_succ] at HT
          exact ⟨k + 1, _, by omega, by go_num, HT.1.mono (fun b hb => by rcases hb with hb | hb; exact hb; exact .inr (by omega)), hC.trans' HT.2 (fun i hi h => h.resolve_right (by omega))⟩
        case measure => simp [intOf]; omega
      · go_wp2_with (at_builtin; refine app_one rfl _ _ 49 2 (.int .i64 0) 1 8 rfl Try.underlying49 i64_info rfl (by decide) (by decide) B (.slice A2 (rd k).1.length cap2) (rd k).1.length _ _ _ rfl rfl (by simp) rfl (by simp [Value.oneCell']) HK4.out (by omega) (by omega) ?_; intro v1 w1 hown hchg hat; obtain ⟨g1, cap1, rfl, hg1'⟩ := own_shape hown (by omega); have HP1 := Lib.hid (hchg.blk HK1.out (own_ne HK4.out HK1.out (by decide))); have HF1 := Lib.hid (hchg.blk HF.out (own_ne HK4.out HF.out (by decide))); have h2 := blk_free HP1.out 0; have h4 := blk_cell HP1.out 0; have h3 := blk_cell HF1.out 0; have HAT := Lib.hid hat; have HOWN := Lib.hid hown; clear hat hown hg1')
        go_quiet (fail)
        go_wp2
        go_roundw
        case rel =>
          have HT := feed_turn (w' := (w1.setCell ⟨p, 0, none⟩ (.slice (some ⟨g1, 0, none⟩) ((rd k).1.length + 1) cap1)).drewN nq) HI2.out hlt (v' := .slice (some ⟨g1, 0, none⟩) ((rd k).1.length + 1) cap1) (xs := (rd k).1 ++ [n]) (lost := (rd k).2)
            (by rw [HPk.out, HV.out]; exact ((hchg.mono (fun _ _ h => .inr h)).setCell (fun _ => .inl rfl) _).drewN _) (by rw [HPk.out]; exact blk_drewN _ (blk_set HP1.out 0 _))
            (own_drewN (own_far (by simpa using HOWN.out) (own_ne HOWN.out HP1.out (by decide)) _) _) (by rw [HV.out]; exact HAT.out)
          have e : feedAdd room n (rd k) = ((rd k).1 ++ [n], (rd k).2) := by unfold feedAdd; rw [if_neg (by simp; omega)]
          rw [← e, rdTo_succ] at HT
          exact ⟨k + 1, _, by omega, by go_num, HT.1.mono (fun b hb => by rcases hb with hb | hb; exact hb; exact .inr (by omega)), hC.trans' HT.2 (fun i hi h => h.resolve_right (by omega))⟩
        case measure => simp [intOf]; omega
    · have hkm : k = m := by omega
      subst hkm
      go_wp2
      go_end0
      exact ⟨rfl, ⟨_, P, V', hI.congr (fun i hi => by simp [rdTo, hi])⟩, hC⟩
end Go.Proofs.Ytmjgbdmjeadmaaa
