/- What the parser's 'signed' does; all levels. -/
import Derived.Test.YtldcplgfkcionaaDoorPrun2
import Derived.Test.YtldcplgfkcionaaDoorTail
set_option linter.unusedVariables false
set_option linter.unusedSimpArgs false
namespace Go.Proofs.YtldcplgfkcionaaDoor
open Go.RowKit PX Go.Proofs.YtldcplgfkcionaaDoorW.PrintWords
set_option maxHeartbeats 8000000 in
set_option maxRecDepth 100000 in
theorem signed_any (l : List T) (hl : l.length ≤ 100000) (N : Nat) (hs : ReadsP 145 l 6 N) (ho : ReadsP 50 l 1 N) : ReadsP 145 l 6 (N + 1) := by
  intro g A cap B w s v s' hR hat hout hN hp
  have HR := Lib.hid hR
  clear hR
  by_cases h4 : s.see l = 4
  · obtain ⟨s1, h1, rfl⟩ : ∃ s1, Pr l false 6 s.adv s1 ∧ s' = s1.put 19 0 := by
      cases hp with
      | row hv => omega
      | neg _ h1 => exact ⟨_, h1, rfl⟩
      | _ => omega
    have H1 := Lib.hid h1
    clear hp h1
    have hlt := see_lt (l := l) (s := s) (by omega)
    have hle := H1.out.le (by omega) (by rw [adv_at]; omega)
    simp only [adv_at, adv_out] at hle
    go_enter Tryd.func145, Tryd.ntmps145
    go_wp2_with fail
    refine (pis_hit_new HR.out [4] 1 rfl _ rfl (by omega) (by decide) (by rw [h4]; simp) (by decide)).mono ?_
    rintro e w1 ⟨rfl, hR1, hc1⟩
    have HR1 := Lib.hid hR1
    have HC1 := Lib.hid hc1
    clear hR1 hc1
    go_wp2_with fail
    refine (hs g A cap B w1 s.adv v s1 HR1.out (by rw [adv_at]; omega) (by rw [adv_at, adv_out]; omega) (by rw [adv_at]; omega) H1.out).mono ?_
    rintro e w2 ⟨⟨u, rfl⟩, v2, hR2, hc2, ho2⟩
    have HR2 := Lib.hid hR2
    have HC2 := Lib.hid (HC1.out.then (Own.refl _ _) hc2)
    have HO2 := Lib.hid ((Own.refl w v).trans HC1.out.size ho2)
    clear hR2 hc2 ho2
    go_wp2_with fail
    refine (put_any HR2.out 19 0 (by omega)).mono ?_
    rintro e w3 ⟨⟨u3, rfl⟩, v3, hR3, hc3, ho3⟩
    have hd : RdrP g A cap l B w3 (s1.put 19 0) v3 ∧ ChgR g v w w3 ∧ Own w v v3 := ⟨hR3, HC2.out.then HO2.out hc3, HO2.out.trans HC2.out.size ho3⟩
    clear hR3 hc3 ho3
    go_wp2_with fail
    refine bodyPost_ret (results_none rfl _ _ _) rfl ?_
    exact ⟨⟨_, rfl⟩, v3, hd⟩
  have n4 : s.see l ∉ [(4 : Int)] := by simp; exact h4
  by_cases hleaf : s.see l = 1 ∨ s.see l = 2 ∨ s.see l = 15 ∨ s.see l = 16
  · obtain rfl : s' = s.adv.put (s.see l) (s.num l) := by
      cases hp with
      | row hv => omega
      | leaf _ => rfl
      | _ => omega
    clear hp
    have hlt := see_lt (l := l) (s := s) (by omega)
    have h17 : (s.see l == 17) = false := beq_eq_false_iff_ne.mpr (by omega)
    have hm : s.see l ∈ [(1 : Int), 2, 15, 16, 17] := by simp; omega
    have hnum : s.num l = (PAll.rd_T40 l s.at_).f1 := by
      unfold St.num
      simp [PAll.rd_T40, List.getD_eq_getElem?_getD]
      rfl
    have HN := Lib.hid hnum
    clear hnum
    generalize hsee : s.see l = sk at *
    have HS := Lib.hid hsee
    clear hsee
    go_enter Tryd.func145, Tryd.ntmps145
    go_wp2_with fail
    refine (pis_miss_new HR.out [4] 1 rfl _ rfl (by omega) hat (by decide) (by rw [HS.out]; exact n4)).mono ?_
    rintro e w1 ⟨rfl, hR1, hc1⟩
    have HR1 := Lib.hid hR1
    have HC1 := Lib.hid hc1
    clear hR1 hc1
    go_wp2_with fail
    refine (pis_hit_new HR1.out [1, 2, 15, 16, 17] 5 rfl _ rfl (by omega) (by decide) (by rw [HS.out]; exact hm) (by decide)).mono ?_
    rw [HS.out]
    rintro e w2 ⟨rfl, hR2, hc2⟩
    obtain ⟨c0, c1, c2, c3, f1, f2, f3⟩ := hR2.cells
    obtain ⟨ad, hA, x0, x1, x2⟩ := PAll.at_T40 hR2.row s.at_ (by omega) (by omega)
    subst hA
    rw [← HN.out] at x1
    simp only [Int.toNat_natCast] at x0 x1 x2
    rw [adv_at] at c1
    have p1 : (0 ≤ (s.at_ : Int)) = True := eq_true (by omega)
    have p2 : ((s.at_ : Int) < (l.length : Int)) = True := eq_true (by omega)
    have p3 : ((s.at_ + 1 : Nat) : Int) - 1 = (s.at_ : Int) := by omega
    have HR2 := Lib.hid hR2
    have HC2 := Lib.hid (HC1.out.then (Own.refl _ _) hc2)
    clear hR2 hc2 x0 x2
    go_wp2_with fail
    refine region_quiet_tail 14 (by kernel_rfl) (by kernel_rfl) ?_
    simp only [List.take_succ_cons, List.take_zero, List.drop_succ_cons, List.drop_zero]
    repeat (go_big_quiet_step (fail))
    refine wpQuiet_nil ?_
    intro w' hw'
    obtain ⟨nq, rfl⟩ := hw'
    go_wp2_with fail
    refine (put_any (HR2.out.drewN nq) sk (s.num l) (by rw [adv_out]; omega)).mono ?_
    rintro e w3 ⟨⟨u3, rfl⟩, v3, hR3, hc3, ho3⟩
    have hd : RdrP g (some ad) cap l B w3 (s.adv.put sk (s.num l)) v3 ∧ ChgR g v w w3 ∧ Own w v v3 := ⟨hR3, ChgR.then (HC2.out.drewN nq) (Own.refl _ _) hc3, (Own.refl w v).trans HC2.out.size ho3⟩
    clear hR3 hc3 ho3
    go_wp2_with fail
    go_end0
    exact ⟨⟨_, rfl⟩, v3, hd⟩
  by_cases h17 : s.see l = 17
  · obtain ⟨s1, h1, hcase⟩ : ∃ s1, Pr l false 1 s.adv s1 ∧ ((s1.see l = 18 ∧ s' = s1.adv) ∨ (s1.see l ≠ 18 ∧ s' = s1.fail)) := by
      cases hp with
      | row hv => omega
      | open_ _ h1 h2 => exact ⟨_, h1, .inl ⟨h2, rfl⟩⟩
      | openBad _ h1 h2 => exact ⟨_, h1, .inr ⟨h2, rfl⟩⟩
      | _ => omega
    have H1 := Lib.hid h1
    clear hp h1
    have hlt := see_lt (l := l) (s := s) (by omega)
    have hle := H1.out.le (by omega) (by rw [adv_at]; omega)
    simp only [adv_at, adv_out] at hle
    rcases hcase with ⟨h18, rfl⟩ | ⟨h18, rfl⟩
    · go_enter Tryd.func145, Tryd.ntmps145
      go_wp2_with fail
      refine (pis_miss_new HR.out [4] 1 rfl _ rfl (by omega) hat (by decide) n4).mono ?_
      rintro e w1 ⟨rfl, hR1, hc1⟩
      have HR1 := Lib.hid hR1
      have HC1 := Lib.hid hc1
      clear hR1 hc1
      go_wp2_with fail
      refine (pis_hit_new HR1.out [1, 2, 15, 16, 17] 5 rfl _ rfl (by omega) (by decide) (by rw [h17]; simp) (by decide)).mono ?_
      rw [h17]
      rintro e w2 ⟨rfl, hR2, hc2⟩
      have HR2 := Lib.hid hR2
      have HC2 := Lib.hid (HC1.out.then (Own.refl _ _) hc2)
      clear hR2 hc2
      go_wp2_with fail
      refine (ho g A cap B w2 s.adv v s1 HR2.out (by rw [adv_at]; omega) (by rw [adv_at, adv_out]; omega) (by rw [adv_at]; omega) H1.out).mono ?_
      rintro e w3 ⟨⟨u3, rfl⟩, v3, hR3, hc3, ho3⟩
      have HR3 := Lib.hid hR3
      have HC3 := Lib.hid (HC2.out.then (Own.refl _ _) hc3)
      have HO3 := Lib.hid ((Own.refl w v).trans HC2.out.size ho3)
      clear hR3 hc3 ho3
      go_wp2_with fail
      refine (pis_hit_new HR3.out [18] 1 rfl _ rfl (by omega) (by decide) (by rw [h18]; simp) (by decide)).mono ?_
      rintro e w4 ⟨rfl, hR4, hc4⟩
      have hd : RdrP g A cap l B w4 s1.adv v3 ∧ ChgR g v w w4 ∧ Own w v v3 := ⟨hR4, HC3.out.then HO3.out hc4, HO3.out⟩
      clear hR4 hc4
      go_wp2_with fail
      go_end0
      exact ⟨⟨_, rfl⟩, v3, hd⟩
    · go_enter Tryd.func145, Tryd.ntmps145
      go_wp2_with fail
      refine (pis_miss_new HR.out [4] 1 rfl _ rfl (by omega) hat (by decide) n4).mono ?_
      rintro e w1 ⟨rfl, hR1, hc1⟩
      have HR1 := Lib.hid hR1
      have HC1 := Lib.hid hc1
      clear hR1 hc1
      go_wp2_with fail
      refine (pis_hit_new HR1.out [1, 2, 15, 16, 17] 5 rfl _ rfl (by omega) (by decide) (by rw [h17]; simp) (by decide)).mono ?_
      rw [h17]
      rintro e w2 ⟨rfl, hR2, hc2⟩
      have HR2 := Lib.hid hR2
      have HC2 := Lib.hid (HC1.out.then (Own.refl _ _) hc2)
      clear hR2 hc2
      go_wp2_with fail
      refine (ho g A cap B w2 s.adv v s1 HR2.out (by rw [adv_at]; omega) (by rw [adv_at, adv_out]; omega) (by rw [adv_at]; omega) H1.out).mono ?_
      rintro e w3 ⟨⟨u3, rfl⟩, v3, hR3, hc3, ho3⟩
      have HR3 := Lib.hid hR3
      have HC3 := Lib.hid (HC2.out.then (Own.refl _ _) hc3)
      have HO3 := Lib.hid ((Own.refl w v).trans HC2.out.size ho3)
      clear hR3 hc3 ho3
      go_wp2_with fail
      refine (pis_miss_new HR3.out [18] 1 rfl _ rfl (by omega) (by omega) (by decide) (by simp; exact h18)).mono ?_
      rintro e w4 ⟨rfl, hR4, hc4⟩
      obtain ⟨c0, c1, c2, c3, f1, f2, f3⟩ := hR4.cells
      have hd : RdrP g A cap l B (w4.setCell ⟨g, 3, none⟩ (.bool true)) s1.fail v3 ∧ ChgR g v w (w4.setCell ⟨g, 3, none⟩ (.bool true)) ∧ Own w v v3 := ⟨hR4.setBad (by decide) true, (HC3.out.then HO3.out hc4).trans (chg_setG v _ 3 _), HO3.out⟩
      clear hR4 hc4
      go_wp2_with fail
      go_end0
      exact ⟨⟨_, rfl⟩, v3, hd⟩
  · obtain rfl : s' = s.fail := by
      cases hp with
      | row hv => omega
      | none_ _ => rfl
      | _ => omega
    clear hp
    go_enter Tryd.func145, Tryd.ntmps145
    go_wp2_with fail
    refine (pis_miss_new HR.out [4] 1 rfl _ rfl (by omega) hat (by decide) n4).mono ?_
    rintro e w1 ⟨rfl, hR1, hc1⟩
    have HR1 := Lib.hid hR1
    have HC1 := Lib.hid hc1
    clear hR1 hc1
    go_wp2_with fail
    refine (pis_miss_new HR1.out [1, 2, 15, 16, 17] 5 rfl _ rfl (by omega) hat (by decide) (by simp; omega)).mono ?_
    rintro e w2 ⟨rfl, hR2, hc2⟩
    obtain ⟨c0, c1, c2, c3, f1, f2, f3⟩ := hR2.cells
    have hd : RdrP g A cap l B (w2.setCell ⟨g, 3, none⟩ (.bool true)) s.fail v ∧ ChgR g v w (w2.setCell ⟨g, 3, none⟩ (.bool true)) ∧ Own w v v := ⟨hR2.setBad (by decide) true, (HC1.out.then (Own.refl _ _) hc2).trans (chg_setG v _ 3 _), Own.refl _ _⟩
    clear hR2 hc2
    go_wp2_with fail
    go_end0
    exact ⟨⟨_, rfl⟩, v, hd⟩
/-- All levels. -/
theorem reads_all (l : List T) (hl : l.length ≤ 100000) : ∀ N, ReadsP 50 l 1 N ∧ ReadsP 79 l 2 N ∧ ReadsP 103 l 3 N ∧ ReadsP 122 l 4 N ∧ ReadsP 141 l 5 N ∧ ReadsP 145 l 6 N
  | 0 => by refine ⟨?_, ?_, ?_, ?_, ?_, ?_⟩ <;> (intro g A cap B w s v s' _ _ _ h; omega)
  | N + 1 => by
    obtain ⟨h1, h2, h3, h4, h5, h6⟩ := reads_all l hl N
    exact ⟨or_any l hl N h2, and_any l hl N h3, not_any l hl N h3 h4, sum_any l hl N h5, product_any l hl N h6, signed_any l hl N h6 h1⟩
end Go.Proofs.YtldcplgfkcionaaDoor
