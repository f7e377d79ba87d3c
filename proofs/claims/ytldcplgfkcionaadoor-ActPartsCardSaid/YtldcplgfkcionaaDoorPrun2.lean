/- What the parser's 'not' and 'signed' do; all levels. -/
import Derived.Test.YtldcplgfkcionaaDoorPrun
set_option linter.unusedVariables false
set_option linter.unusedSimpArgs false
namespace Go.Proofs.YtldcplgfkcionaaDoor
open Go.RowKit PX Go.Proofs.YtldcplgfkcionaaDoorW.PrintWords
section
variable {g : Nat} {A : Option Addr} {cap : Nat} {l : List T} {B : Nat} {w : World} {s : St} {v : Value}
theorem kinds_new (w : World) (K : List Int) : Kinds (w.alloc (.cells (K.map (Value.int .i64)).toArray 3)) w.heap.size K := by
  intro j hj
  have := blk_cell (blk_new w (.cells (K.map (Value.int .i64)).toArray 3)) j
  rw [this]
  simp [hj]
/-- 'is' over a row that was just laid: nothing is passed. -/
theorem pis_miss_new (hR : RdrP g A cap l B w s v) (K : List Int) (n : Nat) (hn : n = K.length) (cs : Array Value) (hcs : cs = (K.map (Value.int .i64)).toArray) (hl : l.length ≤ 1000000) (hat : s.at_ ≤ l.length) (hKl : K.length ≤ 100) (h : s.see l ∉ K) :
    Calls Tryd.prog 101 #[.pointer (some ⟨g, 0, none⟩), .slice (some ⟨w.heap.size, 0, none⟩) n n] (w.alloc (.cells cs 3)) fun e w' => e = .returned (.tuple #[.int .i64 0, .bool false]) ∧ RdrP g A cap l B w' s v ∧ ChgR g v w w' := by
  subst hn; subst hcs
  have hR' := hR.below ((Below.refl _ _).alloc (Nat.le_refl _) (.cells (K.map (Value.int .i64)).toArray 3))
  refine (pis_miss hR' w.heap.size K (kinds_new w K) hl hat hKl h).mono ?_
  rintro e w' ⟨rfl, m, rfl⟩
  exact ⟨rfl, hR'.drewN m, ((Chg.refl _ w).alloc _).drewN m⟩
/-- The next one is passed. -/
theorem pis_hit_new (hR : RdrP g A cap l B w s v) (K : List Int) (n : Nat) (hn : n = K.length) (cs : Array Value) (hcs : cs = (K.map (Value.int .i64)).toArray) (hl : l.length ≤ 1000000) (hKl : K.length ≤ 100) (h : s.see l ∈ K) (h0 : (0 : Int) ∉ K) :
    Calls Tryd.prog 101 #[.pointer (some ⟨g, 0, none⟩), .slice (some ⟨w.heap.size, 0, none⟩) n n] (w.alloc (.cells cs 3)) fun e w' => e = .returned (.tuple #[.int .i64 (s.see l), .bool true]) ∧ RdrP g A cap l B w' s.adv v ∧ ChgR g v w w' := by
  subst hn; subst hcs
  have hR' := hR.below ((Below.refl _ _).alloc (Nat.le_refl _) (.cells (K.map (Value.int .i64)).toArray 3))
  refine (pis_hit hR' w.heap.size K (kinds_new w K) hl hKl h h0).mono ?_
  rintro e w' ⟨rfl, h1, h2⟩
  exact ⟨rfl, h1, ((Chg.refl _ w).alloc _).trans h2⟩
end
set_option maxHeartbeats 8000000 in
set_option maxRecDepth 100000 in
theorem not_any (l : List T) (hl : l.length ≤ 100000) (N : Nat) (hn : ReadsP 103 l 3 N) (hs : ReadsP 122 l 4 N) : ReadsP 103 l 3 (N + 1) := by
  intro g A cap B w s v s' hR hat hout hN hp
  have HR := Lib.hid hR
  clear hR
  by_cases h14 : s.see l = 14
  · obtain ⟨s1, h1, rfl⟩ : ∃ s1, Pr l false 3 s.adv s1 ∧ s' = s1.put 14 0 := by
      cases hp with
      | row hv => omega
      | not_ _ h1 => exact ⟨_, h1, rfl⟩
      | sum h => exact absurd h14 h
      | cmp h => exact absurd h14 h
    have H1 := Lib.hid h1
    clear hp h1
    have hlt := see_lt (l := l) (s := s) (by omega)
    have hle := H1.out.le (by omega) (by rw [adv_at]; omega)
    simp only [adv_at, adv_out] at hle
    go_enter Tryd.func103, Tryd.ntmps103
    go_wp2_with fail
    refine (pis_hit_new HR.out [14] 1 rfl _ rfl (by omega) (by decide) (by rw [h14]; simp) (by decide)).mono ?_
    rintro e w1 ⟨rfl, hR1, hc1⟩
    have HR1 := Lib.hid hR1
    have HC1 := Lib.hid hc1
    clear hR1 hc1
    go_wp2_with fail
    refine (hn g A cap B w1 s.adv v s1 HR1.out (by rw [adv_at]; omega) (by rw [adv_at, adv_out]; omega) (by rw [adv_at]; omega) H1.out).mono ?_
    rintro e w2 ⟨⟨u, rfl⟩, v2, hR2, hc2, ho2⟩
    have HR2 := Lib.hid hR2
    have HC2 := Lib.hid (HC1.out.then (Own.refl _ _) hc2)
    have HO2 := Lib.hid ((Own.refl w v).trans HC1.out.size ho2)
    clear hR2 hc2 ho2
    go_wp2_with fail
    refine (put_any HR2.out 14 0 (by omega)).mono ?_
    rintro e w3 ⟨⟨u3, rfl⟩, v3, hR3, hc3, ho3⟩
    have hd : RdrP g A cap l B w3 (s1.put 14 0) v3 ∧ ChgR g v w w3 ∧ Own w v v3 := ⟨hR3, HC2.out.then HO2.out hc3, HO2.out.trans HC2.out.size ho3⟩
    clear hR3 hc3 ho3
    go_wp2_with fail
    refine bodyPost_ret (results_none rfl _ _ _) rfl ?_
    exact ⟨⟨_, rfl⟩, v3, hd⟩
  · obtain ⟨s1, h1, hcase⟩ : ∃ s1, Pr l false 4 s s1 ∧ ((level (s1.see l) ≠ 3 ∧ s' = s1) ∨ (level (s1.see l) = 3 ∧ ∃ s2, Pr l false 4 s1.adv s2 ∧ s' = s2.put (s1.see l) 0)) := by
      cases hp with
      | row hv => omega
      | not_ h _ => exact absurd h h14
      | sum _ h1 h2 => exact ⟨_, h1, .inl ⟨h2, rfl⟩⟩
      | cmp _ h1 h2 h3 => exact ⟨_, h1, .inr ⟨h2, _, h3, rfl⟩⟩
    have H1 := Lib.hid h1
    clear hp h1
    have hle := H1.out.le (by omega) hat
    have hmem : ∀ x : Int, x ∈ [8, 9, 10, 11] ↔ level x = 3 := by intro x; simp only [level, List.mem_cons, List.not_mem_nil, or_false]; (repeat' split) <;> omega
    have HM := Lib.hid hmem
    clear hmem
    rcases hcase with ⟨h3, rfl⟩ | ⟨h3, s2, h2, rfl⟩
    · go_enter Tryd.func103, Tryd.ntmps103
      go_wp2_with fail
      refine (pis_miss_new HR.out [14] 1 rfl _ rfl (by omega) hat (by decide) (by simp; exact h14)).mono ?_
      rintro e w1 ⟨rfl, hR1, hc1⟩
      have HR1 := Lib.hid hR1
      have HC1 := Lib.hid hc1
      clear hR1 hc1
      go_wp2_with fail
      refine (hs g A cap B w1 s v s' HR1.out hat hout (by omega) H1.out).mono ?_
      rintro e w2 ⟨⟨u, rfl⟩, v2, hR2, hc2, ho2⟩
      have HR2 := Lib.hid hR2
      have HC2 := Lib.hid (HC1.out.then (Own.refl _ _) hc2)
      have HO2 := Lib.hid ((Own.refl w v).trans HC1.out.size ho2)
      clear hR2 hc2 ho2
      go_wp2_with fail
      refine (pis_miss_new HR2.out [8, 9, 10, 11] 4 rfl _ rfl (by omega) (by omega) (by decide) (fun e => h3 ((HM.out _).1 e))).mono ?_
      rintro e w3 ⟨rfl, hR3, hc3⟩
      have hd : RdrP g A cap l B w3 s' v2 ∧ ChgR g v w w3 ∧ Own w v v2 := ⟨hR3, HC2.out.then HO2.out hc3, HO2.out⟩
      clear hR3 hc3
      go_wp2_with fail
      go_end0
      exact ⟨⟨_, rfl⟩, v2, hd⟩
    · have H2 := Lib.hid h2
      clear h2
      have hz := level_see h3 (by omega)
      have hlt := see_lt hz
      have hle2 := H2.out.le (by omega) (by rw [adv_at]; omega)
      simp only [adv_at, adv_out] at hle2
      go_enter Tryd.func103, Tryd.ntmps103
      go_wp2_with fail
      refine (pis_miss_new HR.out [14] 1 rfl _ rfl (by omega) hat (by decide) (by simp; exact h14)).mono ?_
      rintro e w1 ⟨rfl, hR1, hc1⟩
      have HR1 := Lib.hid hR1
      have HC1 := Lib.hid hc1
      clear hR1 hc1
      go_wp2_with fail
      refine (hs g A cap B w1 s v s1 HR1.out hat hout (by omega) H1.out).mono ?_
      rintro e w2 ⟨⟨u, rfl⟩, v2, hR2, hc2, ho2⟩
      have HR2 := Lib.hid hR2
      have HC2 := Lib.hid (HC1.out.then (Own.refl _ _) hc2)
      have HO2 := Lib.hid ((Own.refl w v).trans HC1.out.size ho2)
      clear hR2 hc2 ho2
      go_wp2_with fail
      refine (pis_hit_new HR2.out [8, 9, 10, 11] 4 rfl _ rfl (by omega) (by decide) ((HM.out _).2 h3) (by decide)).mono ?_
      rintro e w3 ⟨rfl, hR3, hc3⟩
      have HR3 := Lib.hid hR3
      have HC3 := Lib.hid (HC2.out.then HO2.out hc3)
      have HO3 := Lib.hid (Nat.le_trans HC2.out.size hc3.size)
      clear hR3 hc3
      go_wp2_with fail
      refine (hs g A cap B w3 s1.adv v2 s2 HR3.out (by rw [adv_at]; omega) (by rw [adv_at, adv_out]; omega) (by rw [adv_at]; omega) H2.out).mono ?_
      rintro e w4 ⟨⟨u4, rfl⟩, v4, hR4, hc4, ho4⟩
      have HR4 := Lib.hid hR4
      have HC4 := Lib.hid (HC3.out.then HO2.out hc4)
      have HO4 := Lib.hid (HO2.out.trans HO3.out ho4)
      clear hR4 hc4 ho4
      go_wp2_with fail
      refine (put_any HR4.out (s1.see l) 0 (by omega)).mono ?_
      rintro e w5 ⟨⟨u5, rfl⟩, v5, hR5, hc5, ho5⟩
      have hd : RdrP g A cap l B w5 (s2.put (s1.see l) 0) v5 ∧ ChgR g v w w5 ∧ Own w v v5 := ⟨hR5, HC4.out.then HO4.out hc5, HO4.out.trans HC4.out.size ho5⟩
      clear hR5 hc5 ho5
      go_wp2_with fail
      go_end0
      exact ⟨⟨_, rfl⟩, v5, hd⟩
end Go.Proofs.YtldcplgfkcionaaDoor
