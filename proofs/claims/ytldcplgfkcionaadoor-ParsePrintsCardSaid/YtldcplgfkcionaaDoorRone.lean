/- What the reference's reader does with a signed one; all levels. -/
import Derived.Test.YtldcplgfkcionaaDoorRrun
set_option linter.unusedVariables false
set_option linter.unusedSimpArgs false
namespace Go.Proofs.YtldcplgfkcionaaDoor
open Go.RowKit PX Go.Proofs.YtldcplgfkcionaaDoorW.PrintWords
section
variable {g : Nat} {A : Option Addr} {cap : Nat} {l : List T} {B : Nat} {w : World} {s : St} {v : Value}
/-- The place goes on by one. -/
theorem Rdr.step (h : RdrR g A cap l B w s v) (n : Nat) : RdrR g A cap l B ((w.drewN n).setCell ⟨g, 1, none⟩ (.int .i64 (s.at_ + 1))) s.adv v ∧ ChgR g v w ((w.drewN n).setCell ⟨g, 1, none⟩ (.int .i64 (s.at_ + 1))) := by
  rw [show ((s.at_ : Int) + 1) = ((s.at_ + 1 : Nat) : Int) by omega]
  exact ⟨(h.drewN n).setAt (by decide) (s.at_ + 1), ((Chg.refl _ w).drewN n).trans (chg_setG v _ 1 _)⟩
theorem Rdr.step0 (h : RdrR g A cap l B w s v) : RdrR g A cap l B (w.setCell ⟨g, 1, none⟩ (.int .i64 (s.at_ + 1))) s.adv v ∧ ChgR g v w (w.setCell ⟨g, 1, none⟩ (.int .i64 (s.at_ + 1))) := by
  rw [show ((s.at_ : Int) + 1) = ((s.at_ + 1 : Nat) : Int) by omega]
  exact ⟨h.setAt (by decide) (s.at_ + 1), (Chg.refl _ w).trans (chg_setG v _ 1 _)⟩
theorem Rdr.fail (h : RdrR g A cap l B w s v) (n : Nat) : RdrR g A cap l B ((w.drewN n).setCell ⟨g, 3, none⟩ (.bool true)) s.fail v ∧ ChgR g v w ((w.drewN n).setCell ⟨g, 3, none⟩ (.bool true)) :=
  ⟨(h.drewN n).setBad (by decide) true, ((Chg.refl _ w).drewN n).trans (chg_setG v _ 3 _)⟩
end
set_option maxHeartbeats 8000000 in
set_option maxRecDepth 100000 in
theorem rone_any (l : List T) (hl : l.length ≤ 100000) (N : Nat) (h6 : OneR l N) (h1 : ReadsR l 1 N) : OneR l (N + 1) := by
  intro g A cap B w s v s' hR hat hout hN hp
  obtain ⟨c0, c1, c2, c3, f1, f2, f3⟩ := hR.cells
  have HR := Lib.hid hR
  clear hR
  cases hp with
  | row hv => omega
  | neg h4 hp1 =>
    rename_i s1
    have H1 := Lib.hid hp1
    clear hp1
    have hlt := see_lt (l := l) (s := s) (by omega)
    have hle := H1.out.le (by omega) (by rw [adv_at]; omega)
    simp only [adv_at, adv_out] at hle
    go_enter Tryd.func80, Tryd.ntmps80
    go_wp2_with fail
    refine (see_any HR.out (by omega) hat).mono ?_
    rw [h4]
    rintro e w1 ⟨rfl, n1, rfl⟩
    go_wp2_with fail
    have HRa := Lib.hid (HR.out.step n1)
    refine (h6 g A cap B _ s.adv v s1 HRa.out.1 (by rw [adv_at]; omega) (by rw [adv_at, adv_out]; omega) (by rw [adv_at]; omega) H1.out).mono ?_
    rintro e w2 ⟨⟨u, rfl⟩, v2, hR2, hc2, ho2⟩
    have HR2 := Lib.hid hR2
    have HO2 := Lib.hid ((Own.refl w v).trans HRa.out.2.size ho2)
    have HC2 := Lib.hid (HRa.out.2.then (Own.refl _ _) hc2)
    clear hR2 hc2 ho2 HRa
    go_wp2_with fail
    refine (rput_any HR2.out 19 0 (by omega)).mono ?_
    rintro e w3 ⟨⟨u3, rfl⟩, v3, hR3, hc3, ho3⟩
    have hd : RdrR g A cap l B w3 (s1.put 19 0) v3 ∧ ChgR g v w w3 ∧ Own w v v3 := ⟨hR3, HC2.out.then HO2.out hc3, HO2.out.trans HC2.out.size ho3⟩
    clear hR3 hc3 ho3
    go_wp2_with fail
    go_end0
    exact ⟨⟨_, rfl⟩, v3, hd⟩
  | leaf hk =>
    have hlt := see_lt (l := l) (s := s) (by omega)
    have hnum : s.num l = (PAll.rd_T40 l s.at_).f1 := by
      unfold St.num
      simp [PAll.rd_T40, List.getD_eq_getElem?_getD]
      rfl
    have HN := Lib.hid hnum
    clear hnum
    have n4 : (s.see l == 4) = false := beq_eq_false_iff_ne.mpr (by omega)
    generalize hsee : s.see l = sk at *
    have HS := Lib.hid hsee
    clear hsee
    obtain ⟨ad, hA, x0, x1, x2⟩ := PAll.at_T40 HR.out.row s.at_ (by omega) (by omega)
    subst hA
    rw [← HN.out] at x1
    simp only [Int.toNat_natCast] at x0 x1 x2
    clear x0 x2
    have p1 : (0 ≤ (s.at_ : Int)) = True := eq_true (by omega)
    have p2 : ((s.at_ : Int) < (l.length : Int)) = True := eq_true (by omega)
    have fin : ∀ (w1 : World) (v1 : Value) (n1 n2 : Nat), RdrR g (some ad) cap l B w1 (s.put sk (s.num l)) v1 → ChgR g v (w.drewN n1) w1 → Own (w.drewN n1) v v1 →
        RdrR g (some ad) cap l B (w1.setCell ⟨g, 1, none⟩ (.int .i64 (s.at_ + 1))) (s.adv.put sk (s.num l)) v1 ∧ ChgR g v w (w1.setCell ⟨g, 1, none⟩ (.int .i64 (s.at_ + 1))) ∧ Own w v v1 := by
      intro w1 v1 n1 n2 hR1 hc1 ho1
      have h := hR1.step0
      refine ⟨h.1, ?_, ho1⟩
      have hc : ChgR g v w w1 := ((Chg.refl _ w).drewN n1).trans hc1
      exact hc.trans (chg_setG v _ 1 _)
    have FIN := Lib.hid fin
    clear fin
    rcases hk with rfl | rfl | rfl | rfl
    all_goals
      go_enter Tryd.func80, Tryd.ntmps80
      go_wp2_with fail
      refine (see_any HR.out (by omega) hat).mono ?_
      rw [HS.out]
      rintro e w1 ⟨rfl, n1, rfl⟩
      go_wp2_with fail
      refine region_quiet_tail 13 (by kernel_rfl) (by kernel_rfl) ?_
      simp only [List.take_succ_cons, List.take_zero, List.drop_succ_cons, List.drop_zero]
      repeat (go_big_quiet_step (fail))
      refine wpQuiet_nil ?_
      intro w' hw'
      obtain ⟨nq, rfl⟩ := hw'
      go_wp2_with fail
      refine (rput_any (HR.out.drewN (n1 + nq)) _ (s.num l) (by omega)).mono ?_
      rintro e w3 ⟨⟨u3, rfl⟩, v3, hR3, hc3, ho3⟩
      have m1 : w3.cell? ⟨g, 1, none⟩ = some (.int .i64 s.at_) := hR3.cells.2.1
      have m2 : w3.frozen? ⟨g, 1, none⟩ = false := hR3.cells.2.2.2.2.1
      have hd := FIN.out w3 v3 (n1 + nq) 0 hR3 hc3 ho3
      clear hR3 hc3 ho3 FIN
      go_wp2_with fail
      go_end0
      exact ⟨⟨_, rfl⟩, v3, hd⟩
  | open_ h17 hp1 h18 =>
    rename_i s1
    have H1 := Lib.hid hp1
    clear hp1
    have hlt := see_lt (l := l) (s := s) (by omega)
    have hle := H1.out.le (by omega) (by rw [adv_at]; omega)
    simp only [adv_at, adv_out] at hle
    go_enter Tryd.func80, Tryd.ntmps80
    go_wp2_with fail
    refine (see_any HR.out (by omega) hat).mono ?_
    rw [h17]
    rintro e w1 ⟨rfl, n1, rfl⟩
    go_wp2_with fail
    have HRa := Lib.hid (HR.out.step n1)
    refine (h1 g A cap B _ s.adv v s1 HRa.out.1 (by rw [adv_at]; omega) (by rw [adv_at, adv_out]; omega) (by rw [adv_at]; omega) H1.out).mono ?_
    rintro e w2 ⟨⟨u, rfl⟩, v2, hR2, hc2, ho2⟩
    have HR2 := Lib.hid hR2
    have HO2 := Lib.hid ((Own.refl w v).trans HRa.out.2.size ho2)
    have HC2 := Lib.hid (HRa.out.2.then (Own.refl _ _) hc2)
    clear hR2 hc2 ho2 HRa
    go_wp2_with fail
    refine (see_any HR2.out (by omega) (by omega)).mono ?_
    rw [h18]
    rintro e w3 ⟨rfl, n3, rfl⟩
    have m1 : w2.cell? ⟨g, 1, none⟩ = some (.int .i64 s1.at_) := HR2.out.cells.2.1
    have m2 : w2.frozen? ⟨g, 1, none⟩ = false := HR2.out.cells.2.2.2.2.1
    have HRb := Lib.hid (HR2.out.step n3)
    go_wp2_with fail
    go_end0
    exact ⟨⟨_, rfl⟩, v2, HRb.out.1, HC2.out.then HO2.out HRb.out.2, HO2.out⟩
  | openBad h17 hp1 h18 =>
    rename_i s1
    have H1 := Lib.hid hp1
    clear hp1
    have hlt := see_lt (l := l) (s := s) (by omega)
    have hle := H1.out.le (by omega) (by rw [adv_at]; omega)
    simp only [adv_at, adv_out] at hle
    have n18 : (s1.see l == 18) = false := beq_eq_false_iff_ne.mpr h18
    generalize hsee : s1.see l = sk at *
    have HS := Lib.hid hsee
    clear hsee h18
    go_enter Tryd.func80, Tryd.ntmps80
    go_wp2_with fail
    refine (see_any HR.out (by omega) hat).mono ?_
    rw [h17]
    rintro e w1 ⟨rfl, n1, rfl⟩
    go_wp2_with fail
    have HRa := Lib.hid (HR.out.step n1)
    refine (h1 g A cap B _ s.adv v s1 HRa.out.1 (by rw [adv_at]; omega) (by rw [adv_at, adv_out]; omega) (by rw [adv_at]; omega) H1.out).mono ?_
    rintro e w2 ⟨⟨u, rfl⟩, v2, hR2, hc2, ho2⟩
    have HR2 := Lib.hid hR2
    have HO2 := Lib.hid ((Own.refl w v).trans HRa.out.2.size ho2)
    have HC2 := Lib.hid (HRa.out.2.then (Own.refl _ _) hc2)
    clear hR2 hc2 ho2 HRa
    go_wp2_with fail
    refine (see_any HR2.out (by omega) (by omega)).mono ?_
    rw [HS.out]
    rintro e w3 ⟨rfl, n3, rfl⟩
    have m1 : w2.cell? ⟨g, 3, none⟩ = some (.bool s1.bad) := HR2.out.cells.2.2.2.1
    have m2 : w2.frozen? ⟨g, 3, none⟩ = false := HR2.out.cells.2.2.2.2.2.2
    have HRb := Lib.hid (HR2.out.fail n3)
    go_wp2_with fail
    go_end0
    exact ⟨⟨_, rfl⟩, v2, HRb.out.1, HC2.out.then HO2.out HRb.out.2, HO2.out⟩
  | none_ hk =>
    have n4 : (s.see l == 4) = false := beq_eq_false_iff_ne.mpr (by omega)
    have n1 : (s.see l == 1) = false := beq_eq_false_iff_ne.mpr (by omega)
    have n2 : (s.see l == 2) = false := beq_eq_false_iff_ne.mpr (by omega)
    have n15 : (s.see l == 15) = false := beq_eq_false_iff_ne.mpr (by omega)
    have n16 : (s.see l == 16) = false := beq_eq_false_iff_ne.mpr (by omega)
    have n17 : (s.see l == 17) = false := beq_eq_false_iff_ne.mpr (by omega)
    generalize hsee : s.see l = sk at *
    have HS := Lib.hid hsee
    clear hsee hk
    go_enter Tryd.func80, Tryd.ntmps80
    go_wp2_with fail
    refine (see_any HR.out (by omega) hat).mono ?_
    rw [HS.out]
    rintro e w3 ⟨rfl, n3, rfl⟩
    have HRb := Lib.hid (HR.out.fail n3)
    go_wp2_with fail
    go_end0
    exact ⟨⟨_, rfl⟩, v, HRb.out.1, HRb.out.2, Own.refl _ _⟩
theorem rreads_all (l : List T) (hl : l.length ≤ 100000) (N : Nat) : (∀ lv, 1 ≤ lv → lv ≤ 6 → ReadsR l lv N) ∧ OneR l N := by
  induction N with
  | zero => exact ⟨fun lv _ _ g A cap B w s v s' _ _ _ h => by omega, fun g A cap B w s v s' _ _ _ h => by omega⟩
  | succ N ih =>
    refine ⟨fun lv h1 h6 => ?_, rone_any l hl N ih.2 (ih.1 1 (by omega) (by omega))⟩
    by_cases h : lv = 6
    · subst h; exact read6_any l N ih.2
    · exact read_any l hl lv N h1 (by omega) (ih.1 _ (by omega) (by omega)) (ih.1 3 (by omega) (by omega))
end Go.Proofs.YtldcplgfkcionaaDoor
