/- Texts of this claim, merged (Rone, RefLex, Rparse, Rof, As, Is, Told, LaidE, ExprArg, ExprTextsLaw, Laid). -/
import Derived.LaidEql
import Derived.Stop.Asserts
import Derived.RowKitTokens
import Derived.OpenShut
import Derived.Test.YtemoonhnncopoaaGreatDoorRows
import Derived.LaidSub
import Derived.LaidHandle
import Derived.LaidLaws
import Derived.Lib.LaidU8
import Derived.Deep.DeepLaidRun
import Derived.Test.YtemoonhnncopoaaGreatDoorZExprTexts14
import Derived.Test.YtemoonhnncopoaaGreatDoorZExprTexts11
import Derived.Test.YtemoonhnncopoaaGreatDoorZExprTexts12
import Derived.Test.YtemoonhnncopoaaGreatDoorZExprTexts13
section
set_option linter.unusedVariables false
set_option linter.unusedSimpArgs false
namespace Go.Proofs.YtemoonhnncopoaaGreatDoor
open Go.RowKit PX Go.Proofs.YtemoonhnncopoaaGreatDoorW.PrintWords
section
variable {g : Nat} {A : Option Addr} {cap : Nat} {l : List T} {B : Nat} {w : World} {s : St} {v : Value}
theorem Rdr.step (h : RdrR g A cap l B w s v) (n : Nat) : RdrR g A cap l B ((w.drewN n).setCell ⟨g, 1, none⟩ (.int .i64 (s.at_ + 1))) s.adv v ∧ ChgR g v w ((w.drewN n).setCell ⟨g, 1, none⟩ (.int .i64 (s.at_ + 1))) := by
  rw [show ((s.at_ : Int) + 1) = ((s.at_ + 1 : Nat) : Int) by omega]
  exact ⟨(h.drewN n).setAt (by decide) (s.at_ + 1), ((Chg.refl _ w).drewN n).trans (chg_setG v _ 1 _)⟩
theorem Rdr.step0 (h : RdrR g A cap l B w s v) : RdrR g A cap l B (w.setCell ⟨g, 1, none⟩ (.int .i64 (s.at_ + 1))) s.adv v ∧ ChgR g v w (w.setCell ⟨g, 1, none⟩ (.int .i64 (s.at_ + 1))) := by
  rw [show ((s.at_ : Int) + 1) = ((s.at_ + 1 : Nat) : Int) by omega]
  exact ⟨h.setAt (by decide) (s.at_ + 1), (Chg.refl _ w).trans (chg_setG v _ 1 _)⟩
theorem Rdr.fail (h : RdrR g A cap l B w s v) (n : Nat) : RdrR g A cap l B ((w.drewN n).setCell ⟨g, 3, none⟩ (.bool true)) s.fail v ∧ ChgR g v w ((w.drewN n).setCell ⟨g, 3, none⟩ (.bool true)) :=
  ⟨(h.drewN n).setBad (by decide) true, ((Chg.refl _ w).drewN n).trans (chg_setG v _ 3 _)⟩
end
set_option maxHeartbeats 8000000 in
set_option maxRecDepth 100000 in
theorem rone_any (l : List T) (hl : l.length ≤ 100000) (N : Nat) (h6 : OneR l N) (h1 : ReadsR l 1 N) : OneR l (N + 1) := by
  intro g A cap B w s v s' hR hat hout hN hp
  obtain ⟨c0, c1, c2, c3, f1, f2, f3⟩ := hR.cells
  have HR := Lib.hid hR
  clear hR
  cases hp with
  | row hv => omega
  | neg h4 hp1 =>
    rename_i s1
    have H1 := Lib.hid hp1
    clear hp1
    have hlt := see_lt (l := l) (s := s) (by omega)
    have hle := H1.out.le (by omega) (by rw [adv_at]; omega)
    simp only [adv_at, adv_out] at hle
    go_enter Tryz.func118, Tryz.ntmps118
    go_wp2_with fail
    refine (see_any HR.out (by omega) hat).mono ?_
    rw [h4]
    rintro e w1 ⟨rfl, n1, rfl⟩
    go_wp2_with fail
    have HRa := Lib.hid (HR.out.step n1)
    refine (h6 g A cap B _ s.adv v s1 HRa.out.1 (by rw [adv_at]; omega) (by rw [adv_at, adv_out]; omega) (by rw [adv_at]; omega) H1.out).mono ?_
    rintro e w2 ⟨⟨u, rfl⟩, v2, hR2, hc2, ho2⟩
    have HR2 := Lib.hid hR2
    have HO2 := Lib.hid ((Own.refl w v).trans HRa.out.2.size ho2)
    have HC2 := Lib.hid (HRa.out.2.then (Own.refl _ _) hc2)
    clear hR2 hc2 ho2 HRa
    go_wp2_with fail
    refine (rput_any HR2.out 19 0 (by omega)).mono ?_
    rintro e w3 ⟨⟨u3, rfl⟩, v3, hR3, hc3, ho3⟩
    have hd : RdrR g A cap l B w3 (s1.put 19 0) v3 ∧ ChgR g v w w3 ∧ Own w v v3 := ⟨hR3, HC2.out.then HO2.out hc3, HO2.out.trans HC2.out.size ho3⟩
    clear hR3 hc3 ho3
    go_wp2_with fail
    go_end0
    exact ⟨⟨_, rfl⟩, v3, hd⟩
  | leaf hk =>
    have hlt := see_lt (l := l) (s := s) (by omega)
    have hnum : s.num l = (PAll.rd_T91 l s.at_).f1 := by
      unfold St.num
      simp [PAll.rd_T91, List.getD_eq_getElem?_getD]
      rfl
    have HN := Lib.hid hnum
    clear hnum
    have n4 : (s.see l == 4) = false := beq_eq_false_iff_ne.mpr (by omega)
    generalize hsee : s.see l = sk at *
    have HS := Lib.hid hsee
    clear hsee
    obtain ⟨ad, hA, x0, x1, x2⟩ := PAll.at_T91 HR.out.row s.at_ (by omega) (by omega)
    subst hA
    rw [← HN.out] at x1
    simp only [Int.toNat_natCast] at x0 x1 x2
    clear x0 x2
    have p1 : (0 ≤ (s.at_ : Int)) = True := eq_true (by omega)
    have p2 : ((s.at_ : Int) < (l.length : Int)) = True := eq_true (by omega)
    have fin : ∀ (w1 : World) (v1 : Value) (n1 n2 : Nat), RdrR g (some ad) cap l B w1 (s.put sk (s.num l)) v1 → ChgR g v (w.drewN n1) w1 → Own (w.drewN n1) v v1 →
        RdrR g (some ad) cap l B (w1.setCell ⟨g, 1, none⟩ (.int .i64 (s.at_ + 1))) (s.adv.put sk (s.num l)) v1 ∧ ChgR g v w (w1.setCell ⟨g, 1, none⟩ (.int .i64 (s.at_ + 1))) ∧ Own w v v1 := by
      intro w1 v1 n1 n2 hR1 hc1 ho1
      have h := hR1.step0
      refine ⟨h.1, ?_, ho1⟩
      have hc : ChgR g v w w1 := ((Chg.refl _ w).drewN n1).trans hc1
      exact hc.trans (chg_setG v _ 1 _)
    have FIN := Lib.hid fin
    clear fin
    rcases hk with rfl | rfl | rfl | rfl
    all_goals
      go_enter Tryz.func118, Tryz.ntmps118
      go_wp2_with fail
      refine (see_any HR.out (by omega) hat).mono ?_
      rw [HS.out]
      rintro e w1 ⟨rfl, n1, rfl⟩
      go_wp2_with fail
      refine region_quiet_tail 13 (by kernel_rfl) (by kernel_rfl) ?_
      simp only [List.take_succ_cons, List.take_zero, List.drop_succ_cons, List.drop_zero]
      repeat (go_big_quiet_step (fail))
      refine wpQuiet_nil ?_
      intro w' hw'
      obtain ⟨nq, rfl⟩ := hw'
      go_wp2_with fail
      refine (rput_any (HR.out.drewN (n1 + nq)) _ (s.num l) (by omega)).mono ?_
      rintro e w3 ⟨⟨u3, rfl⟩, v3, hR3, hc3, ho3⟩
      have m1 : w3.cell? ⟨g, 1, none⟩ = some (.int .i64 s.at_) := hR3.cells.2.1
      have m2 : w3.frozen? ⟨g, 1, none⟩ = false := hR3.cells.2.2.2.2.1
      have hd := FIN.out w3 v3 (n1 + nq) 0 hR3 hc3 ho3
      clear hR3 hc3 ho3 FIN
      go_wp2_with fail
      go_end0
      exact ⟨⟨_, rfl⟩, v3, hd⟩
  | open_ h17 hp1 h18 =>
    rename_i s1
    have H1 := Lib.hid hp1
    clear hp1
    have hlt := see_lt (l := l) (s := s) (by omega)
    have hle := H1.out.le (by omega) (by rw [adv_at]; omega)
    simp only [adv_at, adv_out] at hle
    go_enter Tryz.func118, Tryz.ntmps118
    go_wp2_with fail
    refine (see_any HR.out (by omega) hat).mono ?_
    rw [h17]
    rintro e w1 ⟨rfl, n1, rfl⟩
    go_wp2_with fail
    have HRa := Lib.hid (HR.out.step n1)
    refine (h1 g A cap B _ s.adv v s1 HRa.out.1 (by rw [adv_at]; omega) (by rw [adv_at, adv_out]; omega) (by rw [adv_at]; omega) H1.out).mono ?_
    rintro e w2 ⟨⟨u, rfl⟩, v2, hR2, hc2, ho2⟩
    have HR2 := Lib.hid hR2
    have HO2 := Lib.hid ((Own.refl w v).trans HRa.out.2.size ho2)
    have HC2 := Lib.hid (HRa.out.2.then (Own.refl _ _) hc2)
    clear hR2 hc2 ho2 HRa
    go_wp2_with fail
    refine (see_any HR2.out (by omega) (by omega)).mono ?_
    rw [h18]
    rintro e w3 ⟨rfl, n3, rfl⟩
    have m1 : w2.cell? ⟨g, 1, none⟩ = some (.int .i64 s1.at_) := HR2.out.cells.2.1
    have m2 : w2.frozen? ⟨g, 1, none⟩ = false := HR2.out.cells.2.2.2.2.1
    have HRb := Lib.hid (HR2.out.step n3)
    go_wp2_with fail
    go_end0
    exact ⟨⟨_, rfl⟩, v2, HRb.out.1, HC2.out.then HO2.out HRb.out.2, HO2.out⟩
  | openBad h17 hp1 h18 =>
    rename_i s1
    have H1 := Lib.hid hp1
    clear hp1
    have hlt := see_lt (l := l) (s := s) (by omega)
    have hle := H1.out.le (by omega) (by rw [adv_at]; omega)
    simp only [adv_at, adv_out] at hle
    have n18 : (s1.see l == 18) = false := beq_eq_false_iff_ne.mpr h18
    generalize hsee : s1.see l = sk at *
    have HS := Lib.hid hsee
    clear hsee h18
    go_enter Tryz.func118, Tryz.ntmps118
    go_wp2_with fail
    refine (see_any HR.out (by omega) hat).mono ?_
    rw [h17]
    rintro e w1 ⟨rfl, n1, rfl⟩
    go_wp2_with fail
    have HRa := Lib.hid (HR.out.step n1)
    refine (h1 g A cap B _ s.adv v s1 HRa.out.1 (by rw [adv_at]; omega) (by rw [adv_at, adv_out]; omega) (by rw [adv_at]; omega) H1.out).mono ?_
    rintro e w2 ⟨⟨u, rfl⟩, v2, hR2, hc2, ho2⟩
    have HR2 := Lib.hid hR2
    have HO2 := Lib.hid ((Own.refl w v).trans HRa.out.2.size ho2)
    have HC2 := Lib.hid (HRa.out.2.then (Own.refl _ _) hc2)
    clear hR2 hc2 ho2 HRa
    go_wp2_with fail
    refine (see_any HR2.out (by omega) (by omega)).mono ?_
    rw [HS.out]
    rintro e w3 ⟨rfl, n3, rfl⟩
    have m1 : w2.cell? ⟨g, 3, none⟩ = some (.bool s1.bad) := HR2.out.cells.2.2.2.1
    have m2 : w2.frozen? ⟨g, 3, none⟩ = false := HR2.out.cells.2.2.2.2.2.2
    have HRb := Lib.hid (HR2.out.fail n3)
    go_wp2_with fail
    go_end0
    exact ⟨⟨_, rfl⟩, v2, HRb.out.1, HC2.out.then HO2.out HRb.out.2, HO2.out⟩
  | none_ hk =>
    have n4 : (s.see l == 4) = false := beq_eq_false_iff_ne.mpr (by omega)
    have n1 : (s.see l == 1) = false := beq_eq_false_iff_ne.mpr (by omega)
    have n2 : (s.see l == 2) = false := beq_eq_false_iff_ne.mpr (by omega)
    have n15 : (s.see l == 15) = false := beq_eq_false_iff_ne.mpr (by omega)
    have n16 : (s.see l == 16) = false := beq_eq_false_iff_ne.mpr (by omega)
    have n17 : (s.see l == 17) = false := beq_eq_false_iff_ne.mpr (by omega)
    generalize hsee : s.see l = sk at *
    have HS := Lib.hid hsee
    clear hsee hk
    go_enter Tryz.func118, Tryz.ntmps118
    go_wp2_with fail
    refine (see_any HR.out (by omega) hat).mono ?_
    rw [HS.out]
    rintro e w3 ⟨rfl, n3, rfl⟩
    have HRb := Lib.hid (HR.out.fail n3)
    go_wp2_with fail
    go_end0
    exact ⟨⟨_, rfl⟩, v, HRb.out.1, HRb.out.2, Own.refl _ _⟩
theorem rreads_all (l : List T) (hl : l.length ≤ 100000) (N : Nat) : (∀ lv, 1 ≤ lv → lv ≤ 6 → ReadsR l lv N) ∧ OneR l N := by
  induction N with
  | zero => exact ⟨fun lv _ _ g A cap B w s v s' _ _ _ h => by omega, fun g A cap B w s v s' _ _ _ h => by omega⟩
  | succ N ih =>
    refine ⟨fun lv h1 h6 => ?_, rone_any l hl N ih.2 (ih.1 1 (by omega) (by omega))⟩
    by_cases h : lv = 6
    · subst h; exact read6_any l N ih.2
    · exact read_any l hl lv N h1 (by omega) (ih.1 _ (by omega) (by omega)) (ih.1 3 (by omega) (by omega))
end Go.Proofs.YtemoonhnncopoaaGreatDoor
end
section
set_option linter.unusedVariables false
set_option linter.unusedSimpArgs false
namespace Go.Proofs.YtemoonhnncopoaaGreatDoor
open Go.RowKit PX Go.Proofs.YtemoonhnncopoaaGreatDoorW.PrintWords
theorem bt_at' (s : ByteArray) (i : Nat) (h : i < s.data.toList.length) : bt s (i : Int) = ((s.data.toList[i]).toNat : Int) := by
  have h' : i < s.size := by simpa using h
  unfold bt
  rw [dif_pos (by simpa using h')]
  rfl
theorem u8_eq (c d : UInt8) : ((c.toNat : Int) = (d.toNat : Int)) ↔ c = d := by
  constructor
  · intro h; exact UInt8.toNat_inj.1 (by omega)
  · rintro rfl; rfl
theorem u8_ne {c d : UInt8} (h : c ≠ d) : ¬ ((c.toNat : Int) = (d.toNat : Int)) := fun e => h ((u8_eq c d).1 e)
theorem sign_j1 (s : ByteArray) (c : UInt8) (r : List UInt8) (hs : s.data.toList = c :: r) : Ev (fun k => PAll.spinetref02_sign.j1 k s) (signOf.oneSign c, if signOf.oneSign c = 0 then 0 else 1) := by
  have hz : (0 : Int) < (s.size : Int) := by
    have : s.data.toList.length = s.size := by simp
    rw [hs] at this; simp at this; omega
  have hb : bt s 0 = (c.toNat : Int) := by
    have := bt_at' s 0 (by rw [hs]; simp)
    simp only [hs] at this
    simpa using this
  refine Ev.step (fun k => rfl) ?_
  simp only [PAll.spinetref02_sign.j1]
  simp only [if_pos hz, hb]
  by_cases e1 : c = 43
  · subst e1; exact Ev.now _
  by_cases e2 : c = 45
  · subst e2; exact Ev.now _
  by_cases e3 : c = 42
  · subst e3; exact Ev.now _
  by_cases e4 : c = 47
  · subst e4; exact Ev.now _
  by_cases e5 : c = 37
  · subst e5; exact Ev.now _
  by_cases e6 : c = 60
  · subst e6; exact Ev.now _
  by_cases e7 : c = 40
  · subst e7; exact Ev.now _
  by_cases e8 : c = 41
  · subst e8; exact Ev.now _
  have f1 : ¬ (c.toNat : Int) = 43 := u8_ne e1
  have f2 : ¬ (c.toNat : Int) = 45 := u8_ne e2
  have f3 : ¬ (c.toNat : Int) = 42 := u8_ne e3
  have f4 : ¬ (c.toNat : Int) = 47 := u8_ne e4
  have f5 : ¬ (c.toNat : Int) = 37 := u8_ne e5
  have f6 : ¬ (c.toNat : Int) = 60 := u8_ne e6
  have f7 : ¬ (c.toNat : Int) = 40 := u8_ne e7
  have f8 : ¬ (c.toNat : Int) = 41 := u8_ne e8
  simp only [if_neg f1, if_neg f2, if_neg f3, if_neg f4, if_neg f5, if_neg f6, if_neg f7, if_neg f8]
  simp only [signOf.oneSign, if_neg e1, if_neg e2, if_neg e3, if_neg e4, if_neg e5, if_neg e6, if_neg e7, if_neg e8]
  exact Ev.now _
theorem sign_ev (s : ByteArray) (h : 0 < s.size) : Ev (fun k => PAll.spinetref02_sign.f k s) ((signOf s.data.toList).1, ((signOf s.data.toList).2 : Int)) := by
  have hl : s.data.toList.length = s.size := by simp
  obtain ⟨c, r, hs⟩ : ∃ c r, s.data.toList = c :: r := by
    cases hh : s.data.toList with
    | nil => rw [hh] at hl; simp at hl; omega
    | cons c r => exact ⟨c, r, rfl⟩
  have hb : bt s 0 = (c.toNat : Int) := by
    have := bt_at' s 0 (by rw [hs]; simp)
    simp only [hs] at this
    simpa using this
  have hz : (0 : Int) < (s.size : Int) := by omega
  have j1 := sign_j1 s c r hs
  cases r with
  | nil =>
    have h1 : ¬ (s.size : Int) > 1 := by rw [hs] at hl; simp at hl; omega
    rw [hs]
    unfold PAll.spinetref02_sign.f
    simp only [if_neg h1]
    refine Ev.step (fun k => rfl) ?_
    simp only [PAll.spinetref02_sign.j0]
    simp only [Bool.false_eq_true, if_false]
    simp only [signOf]
    have e : (((if signOf.oneSign c = 0 then 0 else 1 : Nat)) : Int) = if signOf.oneSign c = 0 then 0 else 1 := by split <;> rfl
    rw [e]
    exact j1
  | cons d r =>
    have h1 : (s.size : Int) > 1 := by rw [hs] at hl; simp at hl; omega
    have hb1 : bt s 1 = (d.toNat : Int) := by
      have := bt_at' s 1 (by rw [hs]; simp)
      simp only [hs] at this
      simpa using this
    have e : (((if signOf.oneSign c = 0 then 0 else 1 : Nat)) : Int) = if signOf.oneSign c = 0 then 0 else 1 := by split <;> rfl
    rw [hs]
    unfold PAll.spinetref02_sign.f
    simp only [if_pos h1, hb1]
    refine Ev.step (fun k => rfl) ?_
    simp only [PAll.spinetref02_sign.j0]
    by_cases hd : d = 61
    · subst hd
      have q : (((61 : UInt8).toNat : Int) == 61) = true := rfl
      simp only [q, if_true, if_pos hz, hb]
      by_cases e1 : c = 60
      · subst e1; exact Ev.now _
      by_cases e2 : c = 61
      · subst e2; exact Ev.now _
      by_cases e3 : c = 33
      · subst e3; exact Ev.now _
      have f1 : ¬ (c.toNat : Int) = 60 := u8_ne e1
      have f2 : ¬ (c.toNat : Int) = 61 := u8_ne e2
      have f3 : ¬ (c.toNat : Int) = 33 := u8_ne e3
      simp only [if_neg f1, if_neg f2, if_neg f3]
      simp only [signOf]
      rw [if_neg (fun h => e1 h.2), if_neg (fun h => e2 h.2), if_neg (fun h => e3 h.2), e]
      exact j1
    · have q : ((d.toNat : Int) == 61) = false := beq_eq_false_iff_ne.mpr (u8_ne hd)
      simp only [q, Bool.false_eq_true, if_false]
      simp only [signOf]
      rw [if_neg (fun h => hd h.1), if_neg (fun h => hd h.1), if_neg (fun h => hd h.1), e]
      exact j1
theorem word_f (s : ByteArray) : PAll.spinetref02_Word.f s = some (wordOf s.data.toList) := by
  unfold PAll.spinetref02_Word.f wordOf
  rw [ByteArray.toList_eq]
  split <;> (try split) <;> (try split) <;> (try split) <;> (try split) <;> rfl
theorem drop_cons (s : ByteArray) (k : Nat) (h : k < s.size) : s.data.toList.drop k = s[k] :: s.data.toList.drop (k + 1) := List.drop_eq_getElem_cons (by simpa using h)
theorem bt_get (s : ByteArray) (k : Nat) (h : k < s.size) : bt s (k : Int) = ((s[k]).toNat : Int) := bt_at' s k (by simpa using h)
theorem over_iff (n d : Int) (_hn : 0 ≤ n) (hd : 0 ≤ d) (hd9 : d ≤ 9) : (n > IntKind.u64.wrap (Int.tdiv (IntKind.u64.wrap (9223372036854775807 - d)) 10)) ↔ 9223372036854775807 < 10 * n + d := by
  rw [IntKind.wrap_u64, IntKind.wrap_u64]
  rw [Int.emod_eq_of_lt (by omega : (0 : Int) ≤ 9223372036854775807 - d) (by omega)]
  rw [Int.tdiv_eq_ediv_of_nonneg (by omega)]
  rw [Int.emod_eq_of_lt (by omega) (by omega)]
  omega
theorem digit_ge (c : UInt8) : isDigit c = true ↔ (48 : Int) ≤ c.toNat ∧ (c.toNat : Int) ≤ 57 := by
  simp only [isDigit, Bool.and_eq_true, decide_eq_true_eq]; omega
theorem letter_ge (c : UInt8) : isLetter c = true ↔ (97 : Int) ≤ c.toNat ∧ (c.toNat : Int) ≤ 122 := by
  simp only [isLetter, Bool.and_eq_true, decide_eq_true_eq]; omega
abbrev dfold (m : Nat) (l : List UInt8) : Nat := l.foldl (fun n c => 10 * n + (c.toNat - 48)) m
theorem l1_ev (s : ByteArray) (hs : s.size ≤ 100000) (xs : List T) (a : Nat) (hx : xs.length ≤ 100000) (R : List T × Int) (d : Nat) : ∀ (tq m : Nat) (n : Int) (big : Bool), tq ≤ s.size → s.size - tq = d → (big = false → n = (m : Int) ∧ m ≤ 9223372036854775807) → (big = true → 9223372036854775807 < m ∧ 0 ≤ n) →
    Ev (fun k => if dfold m ((s.data.toList.drop tq).takeWhile isDigit) ≤ 9223372036854775807 then PAll.spinetref02_Tokens.l0 k s (xs ++ [⟨1, (dfold m ((s.data.toList.drop tq).takeWhile isDigit) : Nat), a⟩]) ((tq + ((s.data.toList.drop tq).takeWhile isDigit).length : Nat) : Int) else some ([], (a : Int))) R →
    Ev (fun k => PAll.spinetref02_Tokens.l1 k s xs a tq n big) R := by
  induction d with
  | zero =>
    intro tq m n big ht hd hf hb h
    obtain rfl : tq = s.size := by omega
    have e : s.data.toList.drop s.size = [] := List.drop_of_length_le (by simp)
    simp only [e, List.takeWhile_nil, List.length_nil, Nat.add_zero, dfold, List.foldl_nil] at h
    refine Ev.step (fun k => rfl) ?_
    simp only [PAll.spinetref02_Tokens.l1, if_neg (Int.lt_irrefl _)]
    refine Ev.step (fun k => rfl) ?_
    simp only [PAll.spinetref02_Tokens.j3, Bool.false_eq_true, if_false]
    cases big with
    | true =>
      obtain ⟨h1, _⟩ := hb rfl
      simp only [show ¬ m ≤ 9223372036854775807 by omega, if_false] at h
      simpa using h
    | false =>
      obtain ⟨rfl, h1⟩ := hf rfl
      simp only [h1, if_true] at h
      simp only [Bool.false_eq_true, if_false]
      rw [w64 (by omega) (by omega)]
      simp only [if_pos (show xs.length < 5864062014805 by omega)]
      exact h
  | succ d ih =>
    intro tq m n big ht hd hf hb h
    have hlt : tq < s.size := by omega
    rw [drop_cons s tq hlt] at h
    have hi : ((tq : Nat) : Int) < (s.size : Int) := by omega
    have h0 : (0 : Int) ≤ (tq : Int) := by omega
    have hbt := bt_get s tq hlt
    have he : wrap64 ((tq : Int) + 1) = ((tq + 1 : Nat) : Int) := by rw [w64 (by omega) (by omega)]; omega
    refine Ev.step (fun k => rfl) ?_
    simp only [PAll.spinetref02_Tokens.l1, if_pos hi, if_pos h0, hbt]
    cases hdig : isDigit s[tq] with
    | true =>
      rw [List.takeWhile_cons, if_pos hdig] at h
      have hg := (digit_ge _).1 hdig
      simp only [if_pos (show ((s[tq].toNat : Nat) : Int) ≥ 48 from hg.1), decide_eq_true hg.2]
      refine Ev.step (fun k => rfl) ?_
      simp only [PAll.spinetref02_Tokens.j3, if_true, if_pos hi, if_pos h0, hbt]
      have ew : IntKind.u64.wrap (IntKind.u64.wrap ((s[tq].toNat : Nat) : Int) - 48) = ((s[tq].toNat : Nat) : Int) - 48 := by rw [IntKind.wrap_u64, IntKind.wrap_u64]; omega
      rw [ew, he]
      have hfold : ∀ l, dfold m (s[tq] :: l) = dfold (10 * m + (s[tq].toNat - 48)) l := fun l => rfl
      simp only [hfold, List.length_cons] at h
      rw [show tq + (((s.data.toList.drop (tq + 1)).takeWhile isDigit).length + 1) = tq + 1 + ((s.data.toList.drop (tq + 1)).takeWhile isDigit).length by omega] at h
      by_cases hov : n > IntKind.u64.wrap (Int.tdiv (IntKind.u64.wrap (9223372036854775807 - (((s[tq].toNat : Nat) : Int) - 48))) 10)
      · simp only [if_pos hov]
        have h10 := (over_iff n _ (by cases big with | true => exact (hb rfl).2 | false => (have := (hf rfl).1; omega)) (by omega) (by omega)).1 hov
        refine ih (tq + 1) (10 * m + (s[tq].toNat - 48)) n true (by omega) (by omega) (by simp) (fun _ => ?_) h
        cases big with
        | false => obtain ⟨rfl, _⟩ := hf rfl; omega
        | true => obtain ⟨q1, q2⟩ := hb rfl; omega
      · simp only [if_neg hov]
        cases big with
        | true =>
          simp only [if_true]
          obtain ⟨q1, q2⟩ := hb rfl
          exact ih (tq + 1) (10 * m + (s[tq].toNat - 48)) n true (by omega) (by omega) (by simp) (fun _ => ⟨by omega, q2⟩) h
        | false =>
          simp only [Bool.false_eq_true, if_false]
          obtain ⟨rfl, q1⟩ := hf rfl
          have hov' : ¬ (9223372036854775807 : Int) < 10 * (m : Int) + (((s[tq].toNat : Nat) : Int) - 48) := fun e => hov ((over_iff (m : Int) _ (by omega) (by omega) (by omega)).2 e)
          refine ih (tq + 1) (10 * m + (s[tq].toNat - 48)) _ false (by omega) (by omega) (fun _ => ⟨?_, by omega⟩) (by simp) h
          rw [IntKind.wrap_u64, IntKind.wrap_u64]; omega
    | false =>
      rw [List.takeWhile_cons, if_neg (by simp [hdig])] at h
      simp only [List.length_nil, Nat.add_zero, dfold, List.foldl_nil] at h
      have hnd : (if ((s[tq].toNat : Nat) : Int) ≥ 48 then (decide (((s[tq].toNat : Nat) : Int) ≤ 57)) else false) = false := by
        by_cases hg : ((s[tq].toNat : Nat) : Int) ≥ 48
        · rw [if_pos hg]
          exact decide_eq_false (fun e => by have := (digit_ge s[tq]).2 ⟨hg, e⟩; rw [hdig] at this; cases this)
        · rw [if_neg hg]
      have hsw : ∀ k, (if ((s[tq].toNat : Nat) : Int) ≥ 48 then PAll.spinetref02_Tokens.j3 k s xs a tq n big (decide (((s[tq].toNat : Nat) : Int) ≤ 57)) else PAll.spinetref02_Tokens.j3 k s xs a tq n big false) = PAll.spinetref02_Tokens.j3 k s xs a tq n big false := by
        intro k
        by_cases hg : ((s[tq].toNat : Nat) : Int) ≥ 48
        · rw [if_pos hg] at hnd ⊢; rw [hnd]
        · rw [if_neg hg]
      simp only [hsw]
      refine Ev.step (fun k => rfl) ?_
      simp only [PAll.spinetref02_Tokens.j3, Bool.false_eq_true, if_false]
      cases big with
      | true =>
        obtain ⟨h1, _⟩ := hb rfl
        simp only [show ¬ m ≤ 9223372036854775807 by omega, if_false] at h
        simpa using h
      | false =>
        obtain ⟨rfl, h1⟩ := hf rfl
        simp only [h1, if_true] at h
        simp only [Bool.false_eq_true, if_false]
        rw [w64 (by omega) (by omega)]
        simp only [if_pos (show xs.length < 5864062014805 by omega)]
        exact h
theorem l2_ev (s : ByteArray) (hs : s.size ≤ 100000) (xs : List T) (a : Nat) (c : Int) (R : List T × Int) (d : Nat) : ∀ (tq : Nat), tq ≤ s.size → s.size - tq = d →
    Ev (fun k => PAll.spinetref02_Tokens.j6 k s xs a c ((tq + ((s.data.toList.drop tq).takeWhile isLetter).length : Nat) : Int)) R →
    Ev (fun k => PAll.spinetref02_Tokens.l2 k s xs a c tq) R := by
  induction d with
  | zero =>
    intro tq ht hd h
    obtain rfl : tq = s.size := by omega
    have e : s.data.toList.drop s.size = [] := List.drop_of_length_le (by simp)
    simp only [e, List.takeWhile_nil, List.length_nil, Nat.add_zero] at h
    refine Ev.step (fun k => rfl) ?_
    simp only [PAll.spinetref02_Tokens.l2, if_neg (Int.lt_irrefl _)]
    exact h
  | succ d ih =>
    intro tq ht hd h
    have hlt : tq < s.size := by omega
    rw [drop_cons s tq hlt] at h
    have hi : ((tq : Nat) : Int) < (s.size : Int) := by omega
    have h0 : (0 : Int) ≤ (tq : Int) := by omega
    have hbt := bt_get s tq hlt
    have he : wrap64 ((tq : Int) + 1) = ((tq + 1 : Nat) : Int) := by rw [w64 (by omega) (by omega)]; omega
    refine Ev.step (fun k => rfl) ?_
    simp only [PAll.spinetref02_Tokens.l2, if_pos hi, if_pos h0, hbt]
    cases hdig : isLetter s[tq] with
    | true =>
      rw [List.takeWhile_cons, if_pos hdig] at h
      have hg := (letter_ge _).1 hdig
      simp only [if_pos (show ((s[tq].toNat : Nat) : Int) ≥ 97 from hg.1), if_pos hg.2, he]
      simp only [List.length_cons] at h
      rw [show tq + (((s.data.toList.drop (tq + 1)).takeWhile isLetter).length + 1) = tq + 1 + ((s.data.toList.drop (tq + 1)).takeWhile isLetter).length by omega] at h
      exact ih (tq + 1) (by omega) (by omega) h
    | false =>
      rw [List.takeWhile_cons, if_neg (by simp [hdig])] at h
      simp only [List.length_nil, Nat.add_zero] at h
      by_cases hg : ((s[tq].toNat : Nat) : Int) ≥ 97
      · simp only [if_pos hg, if_neg (show ¬ ((s[tq].toNat : Nat) : Int) ≤ 122 from fun e => by have := (letter_ge s[tq]).2 ⟨hg, e⟩; rw [hdig] at this; cases this)]
        exact h
      · simp only [if_neg hg]
        exact h
def toldFrom (xs : List T) (r : List T × Option Nat) : List T × Int := match r.2 with
  | none => (xs ++ r.1, -1)
  | some a => ([], (a : Int))
theorem toldFrom_cons (xs : List T) (t : T) (r : List T × Option Nat) : toldFrom (xs ++ [t]) r = toldFrom xs (t :: r.1, r.2) := by
  obtain ⟨ts, o⟩ := r
  cases o <;> simp [toldFrom]
theorem extract_at (s : ByteArray) (a b : Nat) : (s.extract a b).data.toList = (s.data.toList.drop a).take (b - a) := by
  simp [ByteArray.data_extract, Array.toList_extract, List.extract_eq_take_drop]
set_option maxHeartbeats 2000000 in
theorem l0_ev (s : ByteArray) (hs : s.size ≤ 10000) (d : Nat) : ∀ (a : Nat) (xs : List T), a ≤ s.size → s.size - a = d → xs.length ≤ a →
    Ev (fun k => PAll.spinetref02_Tokens.l0 k s xs a) (toldFrom xs (lexAt (s.data.toList.drop a) a)) := by
  induction d using Nat.strongRecOn with
  | _ d ih =>
    intro a xs ha hd hx
    by_cases hlt : a < s.size
    · have hi : ((a : Nat) : Int) < (s.size : Int) := by omega
      have h0 : (0 : Int) ≤ (a : Int) := by omega
      have hbt := bt_get s a hlt
      have hdc := drop_cons s a hlt
      have hsz : s.data.toList.length = s.size := by simp
      refine Ev.step (fun k => rfl) ?_
      simp only [PAll.spinetref02_Tokens.l0, if_pos hi, if_pos h0, hbt]
      by_cases h32 : s[a] = 32
      · have q : ((s[a].toNat : Nat) : Int) = 32 := (u8_eq s[a] 32).2 h32
        simp only [if_pos q]
        rw [w64 (by omega) (by omega), hdc, h32, lexAt_space]
        exact ih (s.size - (a + 1)) (by omega) (a + 1) xs (by omega) rfl (by omega)
      · have q : ¬ ((s[a].toNat : Nat) : Int) = 32 := u8_ne h32
        simp only [if_neg q]
        have hdig : (if ((s[a].toNat : Nat) : Int) ≥ 48 then (decide (((s[a].toNat : Nat) : Int) ≤ 57)) else false) = isDigit s[a] := by
          rw [Bool.eq_iff_iff, digit_ge]
          by_cases hg : ((s[a].toNat : Nat) : Int) ≥ 48
          · rw [if_pos hg]; simp; omega
          · rw [if_neg hg]; simp; omega
        have hsw : ∀ k, (if ((s[a].toNat : Nat) : Int) ≥ 48 then PAll.spinetref02_Tokens.j1 k s xs a s[a].toNat a (decide (((s[a].toNat : Nat) : Int) ≤ 57)) else PAll.spinetref02_Tokens.j1 k s xs a s[a].toNat a false) = PAll.spinetref02_Tokens.j1 k s xs a s[a].toNat a (isDigit s[a]) := by
          intro k
          rw [← hdig]
          by_cases hg : ((s[a].toNat : Nat) : Int) ≥ 48
          · rw [if_pos hg, if_pos hg]
          · rw [if_neg hg, if_neg hg]
        simp only [hsw]
        refine Ev.step (fun k => rfl) ?_
        simp only [PAll.spinetref02_Tokens.j1]
        cases hD : isDigit s[a] with
        | true =>
          simp only [if_true]
          have hpos : 0 < ((s.data.toList.drop a).takeWhile isDigit).length := by rw [hdc, List.takeWhile_cons, if_pos hD]; simp
          have hle := takeWhile_le isDigit (s.data.toList.drop a)
          rw [List.length_drop, hsz] at hle
          refine l1_ev s (by omega) xs a (by omega) _ (s.size - a) a 0 0 false ha rfl (fun _ => ⟨rfl, by omega⟩) (by simp) ?_
          have hn : dfold 0 ((s.data.toList.drop a).takeWhile isDigit) = numOf ((s.data.toList.drop a).takeWhile isDigit) := rfl
          rw [hn]
          have hf : first (s.data.toList.drop a) = if numOf ((s.data.toList.drop a).takeWhile isDigit) ≤ 9223372036854775807 then some (1, (numOf ((s.data.toList.drop a).takeWhile isDigit) : Int), ((s.data.toList.drop a).takeWhile isDigit).length) else none := by
            rw [first, if_pos hpos]
          by_cases hm : numOf ((s.data.toList.drop a).takeWhile isDigit) ≤ 9223372036854775807
          · rw [if_pos hm] at hf
            simp only [if_pos hm]
            rw [hdc] at hf
            rw [hdc, lexAt_tok h32 hf, ← hdc, List.drop_drop, ← toldFrom_cons]
            exact ih (s.size - (a + ((s.data.toList.drop a).takeWhile isDigit).length)) (by omega) _ _ (by omega) rfl (by simp; omega)
          · rw [if_neg hm] at hf
            simp only [if_neg hm]
            rw [hdc] at hf
            rw [hdc, lexAt_bad h32 hf]
            exact Ev.now _
        | false =>
          simp only [Bool.false_eq_true, if_false]
          have hd0 : ¬ 0 < ((s.data.toList.drop a).takeWhile isDigit).length := by rw [hdc, List.takeWhile_cons, if_neg (by simp [hD])]; simp
          have hlet : (if ((s[a].toNat : Nat) : Int) ≥ 97 then (decide (((s[a].toNat : Nat) : Int) ≤ 122)) else false) = isLetter s[a] := by
            rw [Bool.eq_iff_iff, letter_ge]
            by_cases hg : ((s[a].toNat : Nat) : Int) ≥ 97
            · rw [if_pos hg]; simp; omega
            · rw [if_neg hg]; simp; omega
          have hsw : ∀ k, (if ((s[a].toNat : Nat) : Int) ≥ 97 then PAll.spinetref02_Tokens.j4 k s xs a s[a].toNat a (decide (((s[a].toNat : Nat) : Int) ≤ 122)) else PAll.spinetref02_Tokens.j4 k s xs a s[a].toNat a false) = PAll.spinetref02_Tokens.j4 k s xs a s[a].toNat a (isLetter s[a]) := by
            intro k
            rw [← hlet]
            by_cases hg : ((s[a].toNat : Nat) : Int) ≥ 97
            · rw [if_pos hg, if_pos hg]
            · rw [if_neg hg, if_neg hg]
          simp only [hsw]
          refine Ev.step (fun k => rfl) ?_
          simp only [PAll.spinetref02_Tokens.j4]
          have hxl : xs.length < 5864062014805 := by omega
          cases hL : isLetter s[a] with
          | true =>
            simp only [if_true]
            have hg := (letter_ge _).1 hL
            have hpos : 0 < ((s.data.toList.drop a).takeWhile isLetter).length := by rw [hdc, List.takeWhile_cons, if_pos hL]; simp
            have hle := takeWhile_le isLetter (s.data.toList.drop a)
            rw [List.length_drop, hsz] at hle
            refine l2_ev s (by omega) xs a _ _ (s.size - a) a ha rfl ?_
            have hwd : (s.extract ((a : Nat) : Int).toNat (((a + ((s.data.toList.drop a).takeWhile isLetter).length : Nat) : Int)).toNat).data.toList = (s.data.toList.drop a).takeWhile isLetter := by
              rw [Int.toNat_natCast, Int.toNat_natCast, extract_at, show a + ((s.data.toList.drop a).takeWhile isLetter).length - a = ((s.data.toList.drop a).takeWhile isLetter).length by omega, take_takeWhile]
            have hf : first (s.data.toList.drop a) = if ((s.data.toList.drop a).takeWhile isLetter).length = 1 then some (2, (((s.data.toList.drop a).headD 0).toNat : Int) - 97, 1)
                else if wordOf ((s.data.toList.drop a).takeWhile isLetter) = 0 then none else some (wordOf ((s.data.toList.drop a).takeWhile isLetter), 0, ((s.data.toList.drop a).takeWhile isLetter).length) := by
              rw [first, if_neg hd0, if_pos hpos]
            refine Ev.step (fun k => rfl) ?_
            simp only [PAll.spinetref02_Tokens.j6]
            have c1 : ((a : Nat) : Int) ≤ ((a + ((s.data.toList.drop a).takeWhile isLetter).length : Nat) : Int) := by omega
            have c2 : ((a + ((s.data.toList.drop a).takeWhile isLetter).length : Nat) : Int) ≤ (s.size : Int) := by omega
            refine ev_pos h0 (ev_pos c1 (ev_pos c2 ?_))
            have hwf := word_f (s.extract ((a : Nat) : Int).toNat (((a + ((s.data.toList.drop a).takeWhile isLetter).length : Nat) : Int)).toNat)
            rw [hwd] at hwf
            clear hwd
            generalize wordOf ((s.data.toList.drop a).takeWhile isLetter) = wd at *
            refine ev_bind hwf ?_
            by_cases h1 : ((s.data.toList.drop a).takeWhile isLetter).length = 1
            · rw [if_pos h1] at hf
              rw [hdc, List.headD_cons] at hf
              have g1 : s.size - (a + 1) < d := by omega
              have g2 : a + 1 ≤ s.size := by omega
              have g3 : (xs ++ [(⟨2, (s[a].toNat : Int) - 97, a⟩ : T)]).length ≤ a + 1 := by rw [List.length_append]; exact Nat.add_le_add_right hx 1
              have c3 : ((a + ((s.data.toList.drop a).takeWhile isLetter).length : Nat) : Int) = wrap64 ((a : Int) + 1) := by rw [w64 (by omega) (by omega)]; omega
              refine ev_pos c3 (ev_pos hxl ?_)
              clear c3
              have hq := lexAt_tok (c := s[a]) (l := s.data.toList.drop (a + 1)) h32 hf a
              have e1 : wrap64 (wrap64 ((s[a].toNat : Nat) : Int) - 97) = (s[a].toNat : Int) - 97 := by
                rw [w64 (x := ((s[a].toNat : Nat) : Int)) (by omega) (by omega), w64 (by omega) (by omega)]
              have e2 : ((a + ((s.data.toList.drop a).takeWhile isLetter).length : Nat) : Int) = ((a + 1 : Nat) : Int) := by rw [h1]
              rw [← hdc, List.drop_drop] at hq
              rw [hq, ← toldFrom_cons, e1, e2]
              exact ih (s.size - (a + 1)) g1 (a + 1) (xs ++ [(⟨2, (s[a].toNat : Int) - 97, a⟩ : T)]) g2 rfl g3
            · rw [if_neg h1] at hf
              have c3 : ¬ ((a + ((s.data.toList.drop a).takeWhile isLetter).length : Nat) : Int) = wrap64 ((a : Int) + 1) := by rw [w64 (by omega) (by omega)]; omega
              refine ev_neg c3 ?_
              clear c3
              by_cases hw : wd = 0
              · rw [if_pos hw] at hf
                refine ev_pos hw ?_
                rw [hdc] at hf
                rw [hdc, lexAt_bad h32 hf]
                exact Ev.now _
              · rw [if_neg hw] at hf
                refine ev_neg hw (ev_pos hxl ?_)
                rw [hdc] at hf
                rw [hdc, lexAt_tok h32 hf, ← hdc, List.drop_drop, ← toldFrom_cons]
                exact ih (s.size - (a + ((s.data.toList.drop a).takeWhile isLetter).length)) (by omega) _ _ (by omega) rfl (by simp; omega)
          | false =>
            simp only [Bool.false_eq_true, if_false]
            have hl0 : ¬ 0 < ((s.data.toList.drop a).takeWhile isLetter).length := by rw [hdc, List.takeWhile_cons, if_neg (by simp [hL])]; simp
            have hf : first (s.data.toList.drop a) = if (signOf (s.data.toList.drop a)).2 = 0 then none else some ((signOf (s.data.toList.drop a)).1, 0, (signOf (s.data.toList.drop a)).2) := by
              rw [first, if_neg hd0, if_neg hl0]
            have hex : (s.extract ((a : Nat) : Int).toNat s.size).data.toList = s.data.toList.drop a := by
              rw [Int.toNat_natCast, extract_at, List.take_of_length_le (by simp)]
            have hsg := sign_ev (s.extract ((a : Nat) : Int).toNat s.size) (by rw [ByteArray.size_extract, Int.toNat_natCast]; omega)
            rw [hex] at hsg
            have hsl := signOf_le (s.data.toList.drop a)
            rw [List.length_drop, hsz] at hsl
            refine ev_pos h0 (ev_pos (show ((a : Nat) : Int) ≤ (s.size : Int) by omega) ?_)
            refine Ev.bind hsg ?_
            by_cases hw : (signOf (s.data.toList.drop a)).2 = 0
            · rw [if_pos hw] at hf
              refine ev_pos (show (((signOf (s.data.toList.drop a)).2 : Nat) : Int) = 0 by omega) ?_
              rw [hdc] at hf
              rw [hdc, lexAt_bad h32 hf]
              exact Ev.now _
            · rw [if_neg hw] at hf
              refine ev_neg (show ¬ (((signOf (s.data.toList.drop a)).2 : Nat) : Int) = 0 by omega) (ev_pos hxl ?_)
              have hq := lexAt_tok (c := s[a]) (l := s.data.toList.drop (a + 1)) h32 (by rw [← hdc]; exact hf) a
              rw [← hdc, List.drop_drop] at hq
              rw [hq, ← toldFrom_cons, w64 (by omega) (by omega)]
              have := ih (s.size - (a + (signOf (s.data.toList.drop a)).2)) (by omega) (a + (signOf (s.data.toList.drop a)).2) (xs ++ [⟨(signOf (s.data.toList.drop a)).1, 0, a⟩]) (by omega) rfl (by simp; omega)
              rw [show ((a + (signOf (s.data.toList.drop a)).2 : Nat) : Int) = (a : Int) + ((signOf (s.data.toList.drop a)).2 : Int) by omega] at this
              exact this
    · obtain rfl : a = s.size := by omega
      rw [List.drop_of_length_le (by simp), lexAt_nil]
      refine Ev.step (fun k => rfl) ?_
      simp only [PAll.spinetref02_Tokens.l0, if_neg (Int.lt_irrefl _)]
      simp only [toldFrom, List.append_nil]
      exact Ev.now _
theorem refTokens_f (s : ByteArray) (hs : s.size ≤ 10000) : ∃ k, PAll.spinetref02_Tokens.f k s = some (toldFrom [] (lexAt s.data.toList 0)) := by
  have := l0_ev s hs s.size 0 [] (by omega) (by omega) (by simp)
  exact Ev.rounds this
end Go.Proofs.YtemoonhnncopoaaGreatDoor
end
section
set_option linter.unusedVariables false
set_option linter.unusedSimpArgs false
namespace Go.Proofs.YtemoonhnncopoaaGreatDoor
open Go.RowKit PX Go.Proofs.YtemoonhnncopoaaGreatDoorW.PrintWords
def Er.bad : Er → Int
  | .none => 0
  | .code c => c
  | .spot _ c => c
def Er.place : Er → Int
  | .none => -1
  | .code _ => -1
  | .spot a _ => a
set_option maxHeartbeats 8000000 in
set_option maxRecDepth 100000 in
theorem rparse_any (s : ByteArray) (hs : s.size ≤ 281474976710656) (w : World) (r : List T × Er) (hr : Parsed s.data.toList r) :
    Calls Tryz.prog 52 #[.string s] w fun e w' => ∃ v, e = .returned (.tuple #[v, .int .i64 r.2.bad, .int .i64 r.2.place]) ∧ Toks w' w.heap.size v r.1 ∧ Below w.heap.size w w' := by
  have hsz : s.data.toList.length = s.size := by simp
  by_cases h2 : 200 < s.size
  · have hx : r = ([], .code 3) := by
      have hl : lexed s.data.toList = ([], .code 3) := by rw [lexed, if_pos (by omega)]
      unfold Parsed at hr
      rw [hl] at hr
      exact hr
    subst hx
    clear hr hsz
    go_enter Tryz.func52, Tryz.ntmps52
    go_wp2_with fail
    go_ret3
    exact ⟨_, rfl, Kd.R_nil _ _ _ _ _, Below.refl _ _⟩
  have hx : lexed s.data.toList = match (lexAt s.data.toList 0).2 with
      | none => ((lexAt s.data.toList 0).1, .none)
      | some a => ([], .spot a 2) := by rw [lexed, if_neg (by omega)]; rfl
  obtain ⟨k, hk⟩ := refTokens_f s (by omega)
  have hlx := lexAt_len s.data.toList 0
  rw [hsz] at hlx
  cases hlr : lexAt s.data.toList 0 with
  | mk l o =>
    rw [hlr] at hx hk hlx
    clear hlr
    cases o with
    | some a =>
      have hx' : r = ([], .spot a 2) := by
        unfold Parsed at hr
        rw [hx] at hr
        exact hr
      subst hx'
      have HK := Lib.hid (show PAll.spinetref02_Tokens.f k s = some ([], (a : Int)) from hk)
      clear hx hk hr hsz
      go_enter Tryz.func52, Tryz.ntmps52
      go_wp2_with fail
      refine (PAll.spinetref02_Tokens.calls k s _ _ _ HK.out).mono ?_
      rintro e w1 ⟨v1, rfl, h1, hb1⟩
      clear h1
      go_wp2_with fail
      go_ret3
      exact ⟨_, rfl, Kd.R_nil _ _ _ _ _, hb1⟩
    | none =>
      obtain ⟨R, hR, rfl⟩ : ∃ R, Pr l false 1 st0 R ∧ r = parsedOf l s.data.toList.length R := by
        unfold Parsed at hr
        rw [hx] at hr
        exact hr
      have HK := Lib.hid (show PAll.spinetref02_Tokens.f k s = some (l, -1) from hk)
      have hln : l.length ≤ 200 := by have : l.length ≤ s.size := hlx; omega
      clear hx hk hr hlx
      go_enter Tryz.func52, Tryz.ntmps52
      go_wp2_with fail
      refine (PAll.spinetref02_Tokens.calls k s _ _ _ HK.out).mono ?_
      rintro e w1 ⟨v1, rfl, h1, hb1⟩
      obtain ⟨A1, c1, rfl, hc1, hC1⟩ := Kd.R_reads h1
      have HC1 := Lib.hid hC1
      have HR := Lib.hid hR
      have hle := hR.le (by omega) (Nat.zero_le _)
      have hA1 : ∀ ad, A1 = some ad → ad.block < w1.heap.size := fun ad h => Kd.R_lt h1 ad.block (by rw [h]; rfl)
      clear h1 hC1 hR
      go_wp2_with fail
      refine (((rreads_all l (by omega) (l.length * 8 + 8)).1 1 (by omega) (by omega)) _ _ _ _ _ st0 _ R (rdr_new HC1.out hA1 hc1) (Nat.zero_le _) (Nat.le_refl _) (by simp [st0]) HR.out).mono ?_
      rintro e w2 ⟨⟨u, rfl⟩, v2, hR2, hc2, ho2⟩
      obtain ⟨A2, c2, rfl⟩ := Kd.R_slice hR2.out
      have hb2 : Below w.heap.size w w2 := (hb1.alloc hb1.size _).trans ((hc2.below (B := w.heap.size) (by have := hb1.size; simp; omega) (fun k hk e => by
        rcases e with e | e
        · have := hb1.size; omega
        · cases e)))
      have HR2 := Lib.hid hR2
      have HT2 := Lib.hid (Kd.R_lower hR2.out (show w.heap.size ≤ w1.heap.size + 1 by have := hb1.size; omega))
      obtain ⟨k0, k1, k2, k3, f1, f2, f3⟩ := hR2.cells
      clear hR2 hc2 ho2
      by_cases hlt : R.at_ < l.length
      · have hpo : parsedOf l s.data.toList.length R = ([], .spot (PAll.rd_T91 l R.at_).f2 2) := by
          unfold parsedOf
          rw [if_pos (.inr hlt), if_pos hlt]
        have HPO := Lib.hid hpo
        clear hpo
        obtain ⟨ad, hA, x0, x1, x2⟩ := PAll.at_T91 HR2.out.row R.at_ (by omega) (by omega)
        subst hA
        simp only [Int.toNat_natCast] at x0 x1 x2
        have p1 : (0 ≤ (R.at_ : Int)) = True := eq_true (by omega)
        have p2 : ((R.at_ : Int) < (l.length : Int)) = True := eq_true (by omega)
        cases hbad : R.bad with
        | true =>
          rw [hbad] at k3
          go_wp2_with fail
          go_quiet (fail)
          go_wp2
          go_ret3
          rw [HPO.out]
          exact ⟨_, rfl, Kd.R_nil _ _ _ _ _, below_drewN' hb2 _⟩
        | false =>
          rw [hbad] at k3
          go_wp2_with fail
          go_quiet (fail)
          go_wp2
          go_ret3
          rw [HPO.out]
          exact ⟨_, rfl, Kd.R_nil _ _ _ _ _, below_drewN' hb2 _⟩
      · have p1 : ((R.at_ : Int) < (l.length : Int)) = False := eq_false (by omega)
        cases hbad : R.bad with
        | true =>
          have hpo : parsedOf l s.data.toList.length R = ([], .spot (s.size : Nat) 2) := by
            unfold parsedOf
            rw [if_pos (.inl hbad), if_neg hlt, hsz]
          have HPO := Lib.hid hpo
          clear hpo hsz
          rw [hbad] at k3
          go_wp2_with fail
          go_ret3
          rw [HPO.out]
          exact ⟨_, rfl, Kd.R_nil _ _ _ _ _, hb2⟩
        | false =>
          rw [hbad] at k3
          by_cases h100 : 100 < R.out.length
          · have hpo : parsedOf l s.data.toList.length R = ([], .code 3) := by
              unfold parsedOf
              rw [if_neg (by rw [hbad]; simp; omega), if_pos h100]
            have HPO := Lib.hid hpo
            clear hpo hsz
            go_wp2_with fail
            go_ret3
            rw [HPO.out]
            exact ⟨_, rfl, Kd.R_nil _ _ _ _ _, hb2⟩
          · have hpo : parsedOf l s.data.toList.length R = (R.out, .none) := by
              unfold parsedOf
              rw [if_neg (by rw [hbad]; simp; omega), if_neg h100]
            have HPO := Lib.hid hpo
            clear hpo hsz
            go_wp2_with fail
            go_ret3
            rw [HPO.out]
            exact ⟨_, rfl, HT2.out, hb2⟩
end Go.Proofs.YtemoonhnncopoaaGreatDoor
end
section
set_option linter.unusedVariables false
set_option linter.unusedSimpArgs false
namespace Go.Proofs.YtemoonhnncopoaaGreatDoor
open Go.RowKit Go.Proofs.YtemoonhnncopoaaGreatDoorW.PrintWords
open PX (T V Tr takes may mayGo tree_of value_tree)
theorem ofR_ok {s : List UInt8} {r : List T × Er} (h : Parsed s r) (env : List Int) (he : ∀ x ∈ env, -9223372036854775808 ≤ x ∧ x ≤ 9223372036854775807) :
    (∀ c, (ofR r env).2 = .code c → 1 ≤ c ∧ c ≤ 13) ∧ (∀ a c, (ofR r env).2 = .spot a c → 0 ≤ a) := by
  obtain ⟨e1, e2, _, _⟩ := parsed_er s r h
  have hw := parsed_wide s r h
  unfold ofR
  cases hx : r.2 with
  | none =>
    simp only
    have := runR_ok (lookV false 0 env) false (lookV_ok false 0 env he) r.1 hw
    cases hv : runR (lookV false 0 env) false r.1 with
    | ok v => exact ⟨fun c h => by simp at h, fun a c h => by simp at h⟩
    | error c =>
      rw [hv] at this
      simp only at this
      refine ⟨fun c' h => ?_, fun a c h => by simp at h⟩
      simp only [Er.code.injEq] at h
      omega
  | code c => exact ⟨fun c' h => e1 c' (by rw [hx]; exact h), fun a c h => by simp at h⟩
  | spot a c => exact ⟨fun c' h => by simp at h, fun a' c' h => e2 a' c' (by rw [hx]; exact h)⟩
set_option maxHeartbeats 8000000 in
set_option maxRecDepth 100000 in
theorem rof_any (s : ByteArray) (hs : s.size ≤ 281474976710656) (E : Option Addr) (ecap : Nat) (env : List Int) (hen : env.length ≤ 1000000) (hec : env.length ≤ ecap) (he : ∀ x ∈ env, -9223372036854775808 ≤ x ∧ x ≤ 9223372036854775807) (w : World) (hE : NumsC w E env.length env) (r : List T × Er) (hr : Parsed s.data.toList r) :
    Calls Tryz.prog 22 #[.string s, .slice E env.length ecap] w fun e w' => e = .returned (.tuple #[agV (ofR r env).1, .int .i64 (ofR r env).2.bad, .int .i64 (ofR r env).2.place]) ∧ Below w.heap.size w w' := by
  obtain ⟨e1, e2, e3, e4⟩ := parsed_er _ r hr
  obtain ⟨k, hk⟩ := reval_f r.1 (by omega) (parsed_wide _ r hr) env hen he
  have HR := Lib.hid hr
  have HE := Lib.hid hE
  have HK := Lib.hid hk
  have H1 := Lib.hid e1
  have H2 := Lib.hid e2
  clear hr hE e1 e2 e3 e4 hk
  go_enter Tryz.func22, Tryz.ntmps22
  go_wp2_with fail
  refine (rparse_any s hs _ r HR.out).mono ?_
  rintro e w1 ⟨v1, rfl, h1, hb1⟩
  obtain ⟨hk, c0, c1, f0, f1, hlt, hbw⟩ := laid2 hb1
  obtain ⟨A1, c1', rfl, hc1, hC1⟩ := Kd.R_reads h1
  have HC1 := Lib.hid hC1
  have HK1 := Lib.hid hk
  clear h1 hC1 hb1 hk
  cases hx : r.2 with
  | none =>
    have HX := Lib.hid hx
    clear hx
    simp only [Er.bad, Er.place]
    go_wp2_with fail
    refine (PAll.spinetref04_Eval.calls k A1 c1' r.1 E ecap env _ _ _ _ HC1.out hc1 (Kd.C_below HE.out hbw) hec HK.out).mono ?_
    rintro e w2 ⟨rfl, hb2⟩
    have hb12 := hbw.trans (hb2.mono hbw.size)
    have HO : Hid (ofR r env = (valR (runR (lookV false 0 env) false r.1), if badR (runR (lookV false 0 env) false r.1) = 0 then .none else .code (badR (runR (lookV false 0 env) false r.1)))) := Lib.hid (by
      unfold ofR
      rw [HX.out]
      cases hv : runR (lookV false 0 env) false r.1 with
      | ok v => rfl
      | error c =>
        have := runR_ok (lookV false 0 env) false (lookV_ok false 0 env he) r.1 (parsed_wide _ r HR.out)
        rw [hv] at this
        have hc : ¬ c = 0 := by
          have : c = 2 ∨ c = 4 ∨ c = 8 ∨ c = 9 := this
          omega
        show ((0, 0), Er.code c) = ((0, 0), if c = 0 then Er.none else Er.code c)
        rw [if_neg hc])
    generalize runR (lookV false 0 env) false r.1 = q at *
    have hk2 := blk_alloc (.cells #[.int .i64 (valR q).1, .int .i64 (valR q).2] 35) ((hb2.block w.heap.size hlt).trans HK1.out)
    have HK2 := Lib.hid hk2
    have d0 : (w2.alloc (.cells #[.int .i64 (valR q).1, .int .i64 (valR q).2] 35)).cell? ⟨w.heap.size, 0, none⟩ = some (.int .i64 0) := blk_cell hk2 0
    have d1 : (w2.alloc (.cells #[.int .i64 (valR q).1, .int .i64 (valR q).2] 35)).cell? ⟨w.heap.size, 1, none⟩ = some (.int .i64 0) := blk_cell hk2 1
    have g0 : (w2.alloc (.cells #[.int .i64 (valR q).1, .int .i64 (valR q).2] 35)).frozen? ⟨w.heap.size, 0, none⟩ = false := blk_free hk2 0
    have g1 : (w2.alloc (.cells #[.int .i64 (valR q).1, .int .i64 (valR q).2] 35)).frozen? ⟨w.heap.size, 1, none⟩ = false := blk_free hk2 1
    clear hk2 hb2 c0 c1 f0 f1 HK HK1
    go_wp2_with fail
    refine bodyPost_ret (results_ctt rfl _ _ w.heap.size 35 #[.int .i64 _, .int .i64 _] (0, 0) _ rfl (blk_set2 HK2.out _ _) Tryz.underlying35 rfl (by kernel_rfl)) rfl ?_
    refine ⟨?_, below_set2 (hb12.alloc hb12.size _) (Nat.le_refl _) _ _⟩
    rw [HO.out]
    by_cases h0 : badR q = 0
    · rw [if_pos h0, h0]; rfl
    · rw [if_neg h0]; rfl
  | code c =>
    have HO : Hid (ofR r env = ((0, 0), .code c)) := Lib.hid (by unfold ofR; rw [hx])
    have hc := H1.out c hx
    have q1 : (c == 0) = false := by simp; omega
    clear hx
    simp only [Er.bad, Er.place]
    go_wp2_with fail
    refine bodyPost_ret (results_ctt rfl _ _ w.heap.size 35 #[.int .i64 _, .int .i64 _] (0, 0) _ rfl (blk_set2 HK1.out _ _) Tryz.underlying35 rfl (by kernel_rfl)) rfl ?_
    rw [HO.out]
    exact ⟨rfl, below_set2 hbw (Nat.le_refl _) _ _⟩
  | spot a c =>
    have HO : Hid (ofR r env = ((0, 0), .spot a c)) := Lib.hid (by unfold ofR; rw [hx])
    obtain rfl := parsed_spot _ _ HR.out a c hx
    clear hx
    simp only [Er.bad, Er.place]
    go_wp2_with fail
    refine bodyPost_ret (results_ctt rfl _ _ w.heap.size 35 #[.int .i64 _, .int .i64 _] (0, 0) _ rfl (blk_set2 HK1.out _ _) Tryz.underlying35 rfl (by kernel_rfl)) rfl ?_
    rw [HO.out]
    exact ⟨rfl, below_set2 hbw (Nat.le_refl _) _ _⟩
end Go.Proofs.YtemoonhnncopoaaGreatDoor
end
section
namespace Go.Proofs.YtemoonhnncopoaaGreatDoor
open Go.RowKit Go.Extern.Stop Go.Stop Go.Extern
theorem as_valueOf27 (t : Addr) (w : World) : (ReflectliteValue.unpack (.iface 148 (.pointer (some t)))).run Tryz.prog w
    = .ok (.agg #[.pointer (some ⟨6, 148, none⟩), .pointer (some ⟨w.heap.size, 0, none⟩), .int .u64 150]) (w.alloc (.cells #[.pointer (some t)] 148)) := by kernel_rfl
theorem as_type27 (a : Addr) (w : World) : (ReflectliteValue.methodAny (ReflectliteValue.valueError "reflectlite.Value.Type" 0) (fun t _ _ _ => ReflectliteType.toType t) #[.agg #[.pointer (some ⟨6, 148, none⟩), .pointer (some a), .int .u64 150]]).run Tryz.prog w
    = .ok (.iface 213 (.agg #[.pointer (some ⟨6, 148, none⟩)])) w := by kernel_rfl
theorem as_methodKind (h : Value) (w : World) : (Go.method 392 213 (.agg #[h]) "Kind").run Tryz.prog w = .ok (214, h) w := by kernel_rfl
theorem as_kind27 (w : World) : ((ReflectliteType.abiMethod fun t => (fun a : Nat => Value.int IntKind.u8 (a : Int)) <$> Rtype.kind t) #[.pointer (some ⟨6, 148, none⟩)]).run Tryz.prog w = .ok (.int .u8 22) w := by kernel_rfl
theorem as_kind25 (w : World) : ((ReflectliteType.abiMethod fun t => (fun a : Nat => Value.int IntKind.u8 (a : Int)) <$> Rtype.kind t) #[.pointer (some ⟨6, 126, none⟩)]).run Tryz.prog w = .ok (.int .u8 22) w := by kernel_rfl
theorem rlm (z : Sem Value) (f : TypeId → Addr → Nat → Nat → Sem Value) (v : Value) :
    ReflectliteValue.method z f #[v] = (do match ← ReflectliteValue.parts v with | none => z | some (t, a, fl) => f t a fl (fl % 32)) := rfl
theorem as_parts27 (a : Addr) (w : World) : (ReflectliteValue.parts (.agg #[.pointer (some ⟨6, 148, none⟩), .pointer (some a), .int .u64 150])).run Tryz.prog w = .ok (some (148, a, 150)) w := by kernel_rfl
theorem as_isNil27 (a p : Addr) (W : World) (ha : W.cell? a = some (.pointer (some p))) :
    (ReflectliteValue.method (ReflectliteValue.valueError "reflectlite.Value.IsNil" 0) ReflectliteValue.isNil #[.agg #[.pointer (some ⟨6, 148, none⟩), .pointer (some a), .int .u64 150]]).run Tryz.prog W = .ok (.bool false) W := by
  rw [rlm]
  simp only [Sem.run_bind, as_parts27, Result.andThen]
  simp [ReflectliteValue.isNil, loadVar, isAgg, underlying, Tryz.underlying148, ha, Result.andThen]
theorem as_methodElem (h : Value) (w : World) : (Go.method 392 213 (.agg #[h]) "Elem").run Tryz.prog w = .ok (226, .agg #[h]) w := by kernel_rfl
theorem as_methodImplements (h : Value) (w : World) : (Go.method 392 213 (.agg #[h]) "Implements").run Tryz.prog w = .ok (227, .agg #[h]) w := by kernel_rfl
theorem as_methodAssignableTo (h : Value) (w : World) : (Go.method 392 213 (.agg #[h]) "AssignableTo").run Tryz.prog w = .ok (224, .agg #[h]) w := by kernel_rfl
theorem as_elem27 (w : World) : (ReflectliteType.method ReflectliteType.elem #[.agg #[.pointer (some ⟨6, 148, none⟩)]]).run Tryz.prog w = .ok (.iface 213 (.agg #[.pointer (some ⟨6, 126, none⟩)])) w := by kernel_rfl
theorem as_implements25 (w : World) : (ReflectliteType.relation "Implements" ReflectliteType.implements_ #[.agg #[.pointer (some ⟨6, 126, none⟩)], .iface 213 (.agg #[.pointer (some ⟨6, 37, none⟩)])]).run Tryz.prog w = .ok (.bool true) w := by kernel_rfl
theorem as_typeOf25 (v : Value) (w : World) : (ReflectliteType.typeOf #[.iface 126 v]).run Tryz.prog w = .ok (.iface 213 (.agg #[.pointer (some ⟨6, 126, none⟩)])) w := by kernel_rfl
theorem as_assignable25 (w : World) : (ReflectliteType.relation "AssignableTo" ReflectliteType.assignableTo #[.agg #[.pointer (some ⟨6, 126, none⟩)], .iface 213 (.agg #[.pointer (some ⟨6, 126, none⟩)])]).run Tryz.prog w = .ok (.bool true) w := by kernel_rfl
theorem as_valueOf25 (e : Addr) (w : World) : (ReflectliteValue.unpack (.iface 126 (.pointer (some e)))).run Tryz.prog w
    = .ok (.agg #[.pointer (some ⟨6, 126, none⟩), .pointer (some ⟨w.heap.size, 0, none⟩), .int .u64 150]) (w.alloc (.cells #[.pointer (some e)] 126)) := by kernel_rfl
theorem as_elemOf27 (w : World) : (Rtype.elem? 148).run Tryz.prog w = .ok (some 126) w := by kernel_rfl
theorem as_mk25 (p : Addr) (w : World) : (ReflectliteValue.mk 126 p ReflectliteValue.flagAddr).run Tryz.prog w = .ok (.agg #[.pointer (some ⟨6, 126, none⟩), .pointer (some p), .int .u64 406]) w := by kernel_rfl
theorem as_elemV27 (a p : Addr) (W : World) (ha : W.cell? a = some (.pointer (some p))) :
    (ReflectliteValue.method (ReflectliteValue.valueError "reflectlite.Value.Elem" 0) ReflectliteValue.elem #[.agg #[.pointer (some ⟨6, 148, none⟩), .pointer (some a), .int .u64 150]]).run Tryz.prog W
      = .ok (.agg #[.pointer (some ⟨6, 126, none⟩), .pointer (some p), .int .u64 406]) W := by
  rw [rlm]
  simp only [Sem.run_bind, as_parts27, Result.andThen]
  simp [ReflectliteValue.elem, loadVar, isAgg, underlying, Tryz.underlying148, ha, Result.andThen, as_elemOf27, as_mk25]
theorem rls (v x : Value) : ReflectliteValue.set #[v, x] = (do
    let (some (dst, a, fl), some (src, b, _)) := (← ReflectliteValue.parts v, ← ReflectliteValue.parts x)
      | unsupported (.noEntry "extern/(internal/reflectlite.Value).Set.zeroValue")
    if fl / ReflectliteValue.flagAddr % 2 == 0 then unsupported (.noEntry "extern/(internal/reflectlite.Value).Set.unaddressable")
    let val ← loadVar src b
    if ← Rtype.directlyAssignable dst src then storeVar dst a val
    else if ← Rtype.implements dst src then
      if (← Rtype.kind src) == 20 then
        match val with
        | .nilIface => unsupported (.noEntry "extern/reflectlite: a nil value of one interface type handed on as a value of another")
        | _ => storeVar dst a val
      else storeVar dst a (.iface src val)
    else panicString ("reflectlite.Set: value of type " ++ (← Rtype.spelt src) ++ " is not assignable to type " ++ (← Rtype.spelt dst))
    pure (.tuple #[])) := rfl
theorem as_parts25a (a : Addr) (w : World) : (ReflectliteValue.parts (.agg #[.pointer (some ⟨6, 126, none⟩), .pointer (some a), .int .u64 406])).run Tryz.prog w = .ok (some (126, a, 406)) w := by kernel_rfl
theorem as_parts25 (a : Addr) (w : World) : (ReflectliteValue.parts (.agg #[.pointer (some ⟨6, 126, none⟩), .pointer (some a), .int .u64 150])).run Tryz.prog w = .ok (some (126, a, 150)) w := by kernel_rfl
theorem as_direct25 (w : World) : (Rtype.directlyAssignable 126 126).run Tryz.prog w = .ok true w := by kernel_rfl
theorem as_set25 (ta b e : Addr) (old : Value) (W : World) (hb : W.cell? b = some (.pointer (some e))) (ht : W.cell? ta = some old) (hf : W.frozen? ta = false) :
    (ReflectliteValue.set #[.agg #[.pointer (some ⟨6, 126, none⟩), .pointer (some ta), .int .u64 406], .agg #[.pointer (some ⟨6, 126, none⟩), .pointer (some b), .int .u64 150]]).run Tryz.prog W
      = .ok (.tuple #[]) (W.setCell ta (.pointer (some e))) := by
  rw [rls]
  simp only [Sem.run_bind, as_parts25a, as_parts25, Result.andThen]
  simp [ReflectliteValue.flagAddr, loadVar, isAgg, underlying, Tryz.underlying126, hb, Result.andThen, as_direct25, storeVar, Value.cells, storeCells, Addr.add]
  rw [run_store Tryz.prog W ta _ _ (by rfl)]
  simp [ht, hf]
set_option maxHeartbeats 4000000 in
set_option maxRecDepth 100000 in
theorem as_hit (e t : Addr) (old : Value) (w : World) (hg : w.cell? ⟨0, 0, none⟩ = some (.iface 213 (.agg #[.pointer (some ⟨6, 37, none⟩)]))) (ht0 : w.cell? t = some old) (hf0 : w.frozen? t = false) :
    Calls Tryz.prog 89 #[.iface 126 (.pointer (some e)), .iface 148 (.pointer (some t))] w fun ev w' => ev = .returned (.bool true) ∧ w' = ((((w.alloc (.cells #[.pointer (some t)] 148)).alloc (.cells #[.pointer (some ⟨6, 148, none⟩), .pointer (some ⟨w.heap.size, 0, none⟩), .int .u64 150] 184)).alloc (.cells #[.pointer (some ⟨6, 148, none⟩), .pointer (some ⟨w.heap.size, 0, none⟩), .int .u64 150] 184)).alloc (.cells #[.pointer (some e)] 126)).setCell t (.pointer (some e)) := by
  have h6 := @run_callFunc_extern Tryz.prog 127 _ (fun args => ReflectliteValue.unpack (args.getD 0 (.tuple #[]))) Tryz.func127 (by kernel_rfl) (by kernel_rfl) (by kernel_rfl) (by kernel_rfl)
  have h7 := @run_callFunc_extern Tryz.prog 128 _ (ReflectliteValue.methodAny (ReflectliteValue.valueError "reflectlite.Value.Type" 0) (fun t _ _ _ => ReflectliteType.toType t)) Tryz.func128 (by kernel_rfl) (by kernel_rfl) (by kernel_rfl) (by kernel_rfl)
  have h8 := @run_callFunc_extern Tryz.prog 129 _ (ReflectliteValue.method (ReflectliteValue.valueError "reflectlite.Value.IsNil" 0) ReflectliteValue.isNil) Tryz.func129 (by kernel_rfl) (by kernel_rfl) (by kernel_rfl) (by kernel_rfl)
  have h27 := @run_callFunc_extern Tryz.prog 214 _ (ReflectliteType.abiMethod fun t => do pure (.int .u8 (← Rtype.kind t))) Tryz.func214 (by kernel_rfl) (by kernel_rfl) (by kernel_rfl) (by kernel_rfl)
  have h37 := @run_callFunc_extern Tryz.prog 226 _ (ReflectliteType.method ReflectliteType.elem) Tryz.func226 (by kernel_rfl) (by kernel_rfl) (by kernel_rfl) (by kernel_rfl)
  have h38 := @run_callFunc_extern Tryz.prog 227 _ (ReflectliteType.relation "Implements" ReflectliteType.implements_) Tryz.func227 (by kernel_rfl) (by kernel_rfl) (by kernel_rfl) (by kernel_rfl)
  have h10 := @run_callFunc_extern Tryz.prog 131 _ ReflectliteType.typeOf Tryz.func131 (by kernel_rfl) (by kernel_rfl) (by kernel_rfl) (by kernel_rfl)
  have h35 := @run_callFunc_extern Tryz.prog 224 _ (ReflectliteType.relation "AssignableTo" ReflectliteType.assignableTo) Tryz.func224 (by kernel_rfl) (by kernel_rfl) (by kernel_rfl) (by kernel_rfl)
  have h11 := @run_callFunc_extern Tryz.prog 160 _ (ReflectliteValue.method (ReflectliteValue.valueError "reflectlite.Value.Elem" 0) ReflectliteValue.elem) Tryz.func160 (by kernel_rfl) (by kernel_rfl) (by kernel_rfl) (by kernel_rfl)
  have h12 := @run_callFunc_extern Tryz.prog 161 _ ReflectliteValue.set Tryz.func161 (by kernel_rfl) (by kernel_rfl) (by kernel_rfl) (by kernel_rfl)
  have tO := as_typeOf25
  have mA := as_methodAssignableTo
  have a25 := as_assignable25
  have v25 := as_valueOf25
  have f6 := as_valueOf27
  have f7 := as_type27
  have mK := as_methodKind
  have mE := as_methodElem
  have mI := as_methodImplements
  have k27 := as_kind27
  have k25 := as_kind25
  have e27 := as_elem27
  have i25 := as_implements25
  have n8 := as_isNil27 ⟨w.heap.size, 0, none⟩ t ((w.alloc (.cells #[.pointer (some t)] 148)).alloc (.cells #[.pointer (some ⟨6, 148, none⟩), .pointer (some ⟨w.heap.size, 0, none⟩), .int .u64 150] 184)) (by simp)
  have hlt : 0 < w.heap.size := World.block_lt_of_cell? w _ hg
  have hg2 : ((w.alloc (.cells #[.pointer (some t)] 148)).alloc (.cells #[.pointer (some ⟨6, 148, none⟩), .pointer (some ⟨w.heap.size, 0, none⟩), .int .u64 150] 184)).cell? ⟨0, 0, none⟩ = some (.iface 213 (.agg #[.pointer (some ⟨6, 37, none⟩)])) := by
    rw [World.cell?_alloc_lt _ _ ⟨0, 0, none⟩ (by simp), World.cell?_alloc_lt _ _ ⟨0, 0, none⟩ hlt]; exact hg
  have htl : t.block < w.heap.size := by
    rcases Nat.lt_or_ge t.block w.heap.size with h | h
    · exact h
    · simp [World.cell?, Array.getElem?_eq_none h] at ht0
  have el := as_elemV27 ⟨w.heap.size, 0, none⟩ t (((w.alloc (.cells #[.pointer (some t)] 148)).alloc (.cells #[.pointer (some ⟨6, 148, none⟩), .pointer (some ⟨w.heap.size, 0, none⟩), .int .u64 150] 184)).alloc (.cells #[.pointer (some ⟨6, 148, none⟩), .pointer (some ⟨w.heap.size, 0, none⟩), .int .u64 150] 184)) (by rw [World.cell?_alloc_lt _ _ ⟨w.heap.size, 0, none⟩ (by simp; omega)]; simp)
  have st := as_set25 t ⟨w.heap.size + 1 + 1 + 1, 0, none⟩ e old ((((w.alloc (.cells #[.pointer (some t)] 148)).alloc (.cells #[.pointer (some ⟨6, 148, none⟩), .pointer (some ⟨w.heap.size, 0, none⟩), .int .u64 150] 184)).alloc (.cells #[.pointer (some ⟨6, 148, none⟩), .pointer (some ⟨w.heap.size, 0, none⟩), .int .u64 150] 184)).alloc (.cells #[.pointer (some e)] 126))
    (by rw [World.cell?_alloc_at _ _ _ _ (by simp)]; rfl)
    (by rw [World.cell?_alloc_lt _ _ t (by simp; omega), World.cell?_alloc_lt _ _ t (by simp; omega), World.cell?_alloc_lt _ _ t (by simp; omega), World.cell?_alloc_lt _ _ t htl]; exact ht0)
    (by rw [World.frozen?_alloc_old _ _ t (by simp; omega), World.frozen?_alloc_old _ _ t (by simp; omega), World.frozen?_alloc_old _ _ t (by simp; omega), World.frozen?_alloc_old _ _ t (Nat.ne_of_lt htl)]; exact hf0)
  go_enter Tryz.func89, Tryz.ntmps89
  go_wp2
  refine wp_loop_rounds 1 ?_
  rw [rounds_succ]
  go_wp2
  go_ret
  exact ⟨rfl, rfl⟩
end Go.Proofs.YtemoonhnncopoaaGreatDoor
end
section
namespace Go.Proofs.YtemoonhnncopoaaGreatDoor
open Go.RowKit Go.Extern.Stop Go.Stop Go.Extern
theorem is_typeOf (v : Value) (w : World) : (ReflectliteType.typeOf #[.iface 93 v]).run Tryz.prog w = .ok (.iface 213 (.agg #[.pointer (some ⟨6, 93, none⟩)])) w := by kernel_rfl
theorem is_methodComparable (h : Value) (w : World) : (Go.method 392 213 (.agg #[h]) "Comparable").run Tryz.prog w = .ok (225, .agg #[h]) w := by kernel_rfl
theorem is_comparable (w : World) : (ReflectliteType.method (fun t => do Rtype.noPackHeld "Comparable" t; (fun a : TypeInfo => Value.bool a.comparable) <$> typeInfo t) #[.agg #[.pointer (some ⟨6, 93, none⟩)]]).run Tryz.prog w = .ok (.bool true) w := by kernel_rfl
theorem is_types (p v : Value) (w : World) : (binOp .eql 37 (.iface 126 p) (.iface 93 v)).run Tryz.prog w = .ok (.bool false) w :=
  run_eql_iface_types _ _ _ _ Tryz.underlying37 (by decide) w
theorem is_noIs (v : Value) (xT : TypeId) (w : World) : (Instr.typeAssert (.iface 126 v) xT 225 true).run Tryz.prog w = .ok (.tuple #[.nilIface, .bool false]) w :=
  run_typeAssert_lacksB Tryz.underlying225 (by kernel_rfl) (by kernel_rfl) v xT w
theorem is_unwraps (v : Value) (xT : TypeId) (w : World) : (Instr.typeAssert (.iface 126 v) xT 220 true).run Tryz.prog w = .ok (.tuple #[.iface 126 v, .bool true]) w :=
  run_typeAssert_hasB Tryz.underlying220 (by kernel_rfl) v xT w
theorem unwrap_any (g : Nat) (a c : Int) (w : World) (h : w.heap[g]? = some (.cells #[.int .i64 a, .int .i64 c] 128 (0, 0))) :
    Calls Tryz.prog 219 #[.pointer (some ⟨g, 0, none⟩)] w fun e w' => e = .returned (.iface 93 (.int .i64 c)) ∧ w = w' := by
  have c1 := blk_cell h 1
  clear h
  go_enter Tryz.func219, Tryz.ntmps219
  go_wp2
  go_ret
  exact ⟨rfl, rfl⟩
theorem is_nilAhead (a : Addr) (w : World) : (nilAhead 392 126 (.pointer (some a)) "Unwrap").run Tryz.prog w = .ok (some false) w := by kernel_rfl
theorem is_methodUnwrap (a : Addr) (w : World) : (Go.method 392 126 (.pointer (some a)) "Unwrap").run Tryz.prog w = .ok (219, .pointer (some a)) w := by kernel_rfl
set_option maxHeartbeats 4000000 in
set_option maxRecDepth 100000 in
theorem is_inner (g : Nat) (a c : Int) (w : World) (h : w.heap[g]? = some (.cells #[.int .i64 a, .int .i64 c] 128 (0, 0))) :
    Calls Tryz.prog 132 #[.iface 126 (.pointer (some ⟨g, 0, none⟩)), .iface 93 (.int .i64 c), .bool true] w fun e w' => e = .returned (.bool true) ∧ w = w' := by
  have H := Lib.hid h
  clear h
  have k1 := is_types
  have k2 := is_noIs
  have k3 := is_unwraps
  have k4 := is_nilAhead
  have k5 := is_methodUnwrap
  have k6 := eqErr
  go_enter Tryz.func132, Tryz.ntmps132
  go_wp2_with fail
  refine wp_loop_rounds 2 ?_
  rw [rounds_succ]
  go_wp2_with fail
  refine (unwrap_any g a c _ H.out).mono ?_
  rintro e w1 ⟨rfl, rfl⟩
  go_wp2_with fail
  try rw [rounds_succ]
  go_wp2_with fail
  go_ret
  exact ⟨rfl, rfl⟩
set_option maxHeartbeats 4000000 in
set_option maxRecDepth 100000 in
theorem is_hit (g : Nat) (a c : Int) (w : World) (h : w.heap[g]? = some (.cells #[.int .i64 a, .int .i64 c] 128 (0, 0))) :
    Calls Tryz.prog 90 #[.iface 126 (.pointer (some ⟨g, 0, none⟩)), .iface 93 (.int .i64 c)] w fun e w' => e = .returned (.bool true) ∧ w = w' := by
  have H := Lib.hid h
  clear h
  have k1 := is_types
  have k2 := is_typeOf
  have k3 := is_methodComparable
  have k4 := is_comparable
  have h10 := @run_callFunc_extern Tryz.prog 131 _ ReflectliteType.typeOf Tryz.func131 (by kernel_rfl) (by kernel_rfl) (by kernel_rfl) (by kernel_rfl)
  have h72 := @run_callFunc_extern Tryz.prog 225 _ (ReflectliteType.method (fun t => do Rtype.noPackHeld "Comparable" t; pure (.bool (← typeInfo t).comparable))) Tryz.func225 (by kernel_rfl) (by kernel_rfl) (by kernel_rfl) (by kernel_rfl)
  go_enter Tryz.func90, Tryz.ntmps90
  go_wp2_with fail
  refine (is_inner g a c _ H.out).mono ?_
  rintro e w1 ⟨rfl, rfl⟩
  go_wp2_with fail
  go_ret
  exact ⟨rfl, rfl⟩
theorem run_neq_iface_ptr_same {P : Program} {w : World} {ti tp te : TypeId} {ms : Array (String × TypeId)} {i j : TypeInfo} (a : Addr)
    (hi : P.underlying ti = some (.interface ms)) (hp : P.underlying tp = some (.pointer te)) (hinfo : P.info? tp = some i) (hcomp : i.comparable = true) (hte : P.info? te = some j) :
    (binOp .neq ti (.iface tp (.pointer (some a))) (.iface tp (.pointer (some a)))).run P w = .ok (.bool false) w := by
  simp only [binOp]
  simp [Op.equal, Op.maxDepth, run_equalIn_iface_ptr_same w 9998 a hi hp hinfo hcomp hte]
theorem spot_info : (Tryz.prog.info? 126).map (·.comparable) = some true := by kernel_rfl
theorem spot_info2 : (Tryz.prog.info? 128).isSome = true := by kernel_rfl
theorem spot_eq (p : Addr) (w : World) : (binOp .neq 37 (.iface 126 (.pointer (some p))) (.iface 126 (.pointer (some p)))).run Tryz.prog w = .ok (.bool false) w := by
  obtain ⟨i, h, hc⟩ := Option.map_eq_some_iff.1 spot_info
  obtain ⟨j, h2⟩ := Option.isSome_iff_exists.1 spot_info2
  exact run_neq_iface_ptr_same p Tryz.underlying37 Tryz.underlying126 h hc h2
theorem as_spot (e : Addr) (w : World) (hg : w.cell? ⟨0, 0, none⟩ = some (.iface 213 (.agg #[.pointer (some ⟨6, 37, none⟩)]))) :
    Calls Tryz.prog 89 #[.iface 126 (.pointer (some e)), .iface 148 (.pointer (some ⟨w.heap.size, 0, none⟩))] (w.alloc (.cells #[.pointer none] 126)) fun ev w' =>
      ev = .returned (.bool true) ∧ w'.cell? ⟨w.heap.size, 0, none⟩ = some (.pointer (some e)) ∧ Below w.heap.size w w' := by
  have h0 := blk_new w (.cells #[.pointer none] 126)
  have hlt := World.block_lt_of_cell? w _ hg
  refine (as_hit e ⟨w.heap.size, 0, none⟩ (.pointer none) (w.alloc (.cells #[.pointer none] 126)) ?_ (blk_cell h0 0) (blk_free h0 0)).mono ?_
  · rw [World.cell?_alloc_lt _ _ _ hlt]; exact hg
  · rintro ev w' ⟨rfl, rfl⟩
    refine ⟨rfl, ?_, ?_⟩
    · have hb := blk_alloc (.cells #[.pointer (some e)] 126) (blk_alloc (.cells #[.pointer (some ⟨6, 148, none⟩), .pointer (some ⟨(w.alloc (.cells #[.pointer none] 126)).heap.size, 0, none⟩), .int .u64 150] 184) (blk_alloc (.cells #[.pointer (some ⟨6, 148, none⟩), .pointer (some ⟨(w.alloc (.cells #[.pointer none] 126)).heap.size, 0, none⟩), .int .u64 150] 184) (blk_alloc (.cells #[.pointer (some ⟨w.heap.size, 0, none⟩)] 148) h0)))
      have := blk_set hb 0 (.pointer (some e))
      rw [blk_cell this 0]
      rfl
    · refine Below.setCell ?_ (show w.heap.size ≤ (⟨w.heap.size, 0, none⟩ : Addr).block from Nat.le_refl _) _
      refine Below.alloc (Below.alloc (Below.alloc (Below.alloc (Below.alloc (Below.refl _ _) (Nat.le_refl _) _) ?_ _) ?_ _) ?_ _) ?_ _ <;> simp <;> omega
set_option maxHeartbeats 4000000 in
set_option maxRecDepth 100000 in
theorem lawIs_hit (g : Nat) (a c : Int) (w : World) (h : w.heap[g]? = some (.cells #[.int .i64 a, .int .i64 c] 128 (0, 0)))
    (hg : w.cell? ⟨0, 0, none⟩ = some (.iface 213 (.agg #[.pointer (some ⟨6, 37, none⟩)]))) :
    Calls Tryz.prog 55 #[.iface 126 (.pointer (some ⟨g, 0, none⟩)), .int .i64 a, .int .i64 c] w fun e w' => e = .returned (.bool true) ∧ Below w.heap.size w w' := by
  have H := Lib.hid h
  have HG := Lib.hid hg
  clear h hg
  have k1 := spot_eq
  go_enter Tryz.func55, Tryz.ntmps55
  go_wp2_with fail
  refine (as_spot ⟨g, 0, none⟩ w HG.out).mono ?_
  rintro ev w2 ⟨rfl, hc, hb⟩
  have hg2 := (hb.block g (lt_of_block H.out)).trans H.out
  have HG2 := Lib.hid hg2
  have d0 := blk_cell hg2 0
  have d1 := blk_cell hg2 1
  clear hg2
  go_wp2_with fail
  refine (is_hit g a c _ HG2.out).mono ?_
  rintro ev w3 ⟨rfl, rfl⟩
  go_wp2_with fail
  go_ret
  exact ⟨rfl, hb⟩
end Go.Proofs.YtemoonhnncopoaaGreatDoor
end
section
set_option linter.unusedVariables false
set_option linter.unusedSimpArgs false
namespace Go.Proofs.YtemoonhnncopoaaGreatDoor
open Go.RowKit PX Go.Proofs.YtemoonhnncopoaaGreatDoorW.PrintWords
set_option maxHeartbeats 4000000 in
set_option maxRecDepth 100000 in
theorem told_any (B : Nat) (ev : Value) (e : Er) (w : World) (he : ErV B w ev e) (hc : ∀ c, e = .code c → 1 ≤ c ∧ c ≤ 13) (ha : ∀ a c, e = .spot a c → 0 ≤ a)
    (hg : w.cell? ⟨0, 0, none⟩ = some (.iface 213 (.agg #[.pointer (some ⟨6, 37, none⟩)]))) :
    Calls Tryz.prog 23 #[ev, .int .i64 e.bad, .int .i64 e.place] w fun e w' => e = .returned (.bool true) ∧ Below w.heap.size w w' := by
  cases e with
  | none =>
    obtain rfl : ev = .nilIface := he
    go_enter Tryz.func23, Tryz.ntmps23
    simp only [Er.bad, Er.place]
    go_wp2_with fail
    refine (code_none _).mono ?_
    rintro e w' ⟨rfl, rfl⟩
    go_wp2_with fail
    go_ret
    exact ⟨rfl, Below.refl _ _⟩
  | code c =>
    obtain rfl : ev = .iface 93 (.int .i64 c) := he
    obtain ⟨h1, h2⟩ := hc c rfl
    clear hc
    go_enter Tryz.func23, Tryz.ntmps23
    simp only [Er.bad, Er.place]
    go_wp2_with fail
    refine (code_code c h1 h2 _).mono ?_
    rintro e w' ⟨rfl, rfl⟩
    go_wp2_with fail
    go_ret
    exact ⟨rfl, Below.refl _ _⟩
  | spot a c =>
    obtain ⟨g, rfl, hB, hg2⟩ := he
    have h1 := ha a c rfl
    have HG := Lib.hid hg
    have HS := Lib.hid hg2
    clear ha hg hg2
    have p1 : (a < 0) = False := eq_false (by omega)
    go_enter Tryz.func23, Tryz.ntmps23
    simp only [Er.bad, Er.place]
    go_wp2_with fail
    refine (lawIs_hit g a c _ HS.out HG.out).mono ?_
    rintro e w' ⟨rfl, hb⟩
    go_wp2_with fail
    go_ret
    exact ⟨rfl, hb⟩
end Go.Proofs.YtemoonhnncopoaaGreatDoor
end
section
set_option linter.unusedVariables false
set_option linter.unusedSimpArgs false
namespace Go.Proofs.YtemoonhnncopoaaGreatDoor
open Go.RowKit PX Go.Proofs.YtemoonhnncopoaaGreatDoorW.PrintWords
structure LaidE (w : World) : Prop extends Laid w where
  typ : w.cell? ⟨0, 0, none⟩ = some (.iface 213 (.agg #[.pointer (some ⟨6, 37, none⟩)]))
theorem LaidE.below {w w' : World} (h : LaidE w) (hb : Below w.heap.size w w') : LaidE w' :=
  ⟨h.toLaid.below hb, (hb.cell (p := ⟨0, 0, none⟩) (World.block_lt_of_cell? w _ h.typ)).trans h.typ⟩
end Go.Proofs.YtemoonhnncopoaaGreatDoor
end
section
set_option linter.unusedVariables false
set_option linter.unusedSimpArgs false
namespace Go.Proofs.YtemoonhnncopoaaGreatDoor
open Go.RowKit Go.Proofs.YtemoonhnncopoaaGreatDoorW.PrintWords
theorem numArg {w : World} {v : Value} {xs : List Int} (h : (Rep.int .i64).slice.ok (fun b => b < w.heap.size) w [v] xs) :
    ∃ A cap, v = .slice A xs.length cap ∧ xs.length ≤ cap ∧ NumsC w A xs.length xs ∧ ∀ x ∈ xs, -9223372036854775808 ≤ x ∧ x ≤ 9223372036854775807 := by
  obtain ⟨A, cap, hv, hA⟩ := Rep.slice_open h
  by_cases h0 : 0 < xs.length
  · obtain ⟨b, off, rfl, hb, hlt, hc1, hc2, hel⟩ := hA h0
    unfold maxLen at hc2
    have hel' : ∀ i (hi : i < xs.length), w.cell? ⟨b, off + i, none⟩ = some (.int .i64 xs[i]) ∧ (Lit.int .i64 xs[i]).wf = true := by
      intro i hi
      obtain ⟨c, hc, hcell, hok⟩ := hel i hi
      obtain ⟨rfl, hw⟩ := hok
      have := hcell 0 (by simp)
      have hs : (Rep.int .i64).size = 1 := rfl
      rw [hs, Nat.mul_one] at this
      exact ⟨this, hw⟩
    refine ⟨some ⟨b, off, none⟩, cap, hv, hc1, ⟨rfl, by omega, fun _ => ⟨⟨b, off, none⟩, rfl, ?_⟩⟩, ?_⟩
    · intro j p hj
      obtain ⟨hjl, rfl⟩ := List.getElem?_eq_some_iff.1 hj
      refine ⟨[.int .i64 xs[j]], rfl, rfl, ?_⟩
      intro i u hi
      rw [add_at]
      match i, hi with
      | 0, hi =>
        simp at hi; subst hi
        have := (hel' j hjl).1
        simpa [Kd.int, Kd.scalar] using this
      | n + 1, hi => simp at hi
    · intro t ht
      obtain ⟨j, hj, rfl⟩ := List.mem_iff_getElem.1 ht
      exact bounds_i64 (hel' j hj).2
  · have hx : xs = [] := by cases xs with
      | nil => rfl
      | cons a l => simp at h0
    subst hx
    exact ⟨A, cap, hv, Nat.zero_le _, ⟨rfl, by simp, fun h => by simp at h⟩, fun t ht => by cases ht⟩
end Go.Proofs.YtemoonhnncopoaaGreatDoor
end
section
set_option linter.unusedVariables false
set_option linter.unusedSimpArgs false
namespace Go.Proofs.YtemoonhnncopoaaGreatDoor
open Go.RowKit Go.Proofs.YtemoonhnncopoaaGreatDoorW.PrintWords
open PX (T V)
set_option maxHeartbeats 8000000 in
set_option maxRecDepth 100000 in
theorem ExprTexts_walk (w : World) (hw : LaidE w) (s : ByteArray) (v1 : Value) (x1 : List Int) (hs : s.size ≤ 140737488355328) (h1 : (Rep.int .i64).slice.ok (fun b => b < w.heap.size) w [v1] x1) :
    Calls Tryz.prog 4 #[.string s, v1] w fun e w' => e = .returned (.bool true) ∧ Below w.heap.size w w' := by
  obtain ⟨E, ecap, rfl, hec, hE, hen⟩ := numArg h1
  clear h1
  have HE := Lib.hid hE
  have HEN := Lib.hid hen
  have HWE := Lib.hid hw
  have HW := Lib.hid hw.toLaid
  clear hE hen hw
  by_cases hbad : 3000 < s.size ∨ 100 < x1.length
  · have hor : decide ((s.size : Int) > 3000) = true ∨ (decide ((s.size : Int) > 3000) = false ∧ decide ((x1.length : Int) > 100) = true) := by
      by_cases h : 3000 < s.size
      · exact .inl (decide_eq_true (by omega))
      · exact .inr ⟨decide_eq_false (by omega), decide_eq_true (by omega)⟩
    clear hbad
    go_enter Tryz.func4, Tryz.ntmps4
    go_wp2_with fail
    refine (up04 _ HW.out).mono ?_
    rintro e w1 ⟨rfl, hb1⟩
    rcases hor with q1 | ⟨q1, q2⟩
    all_goals
      go_wp2_with fail
      go_ret
      exact ⟨rfl, hb1⟩
  have q3 : decide ((s.size : Int) > 3000) = false := decide_eq_false (by omega)
  have q4 : decide ((x1.length : Int) > 100) = false := decide_eq_false (by omega)
  have hx1 : x1.length ≤ 100 := by omega
  clear hbad
  obtain ⟨r, hr⟩ := parsed_ex s.data.toList
  obtain ⟨o1, o2⟩ := ofR_ok hr x1 HEN.out
  have HR := Lib.hid hr
  have HOK := Lib.hid (And.intro o1 o2)
  clear hr o1 o2
  have kv := eqVal
  go_enter Tryz.func4, Tryz.ntmps4
  go_wp2_with fail
  refine (up04 _ HW.out).mono ?_
  rintro e w1 ⟨rfl, hb1⟩
  go_wp2_with fail
  refine (of_any s (by omega) E ecap x1 _ (HW.out.below hb1) (Kd.C_below HE.out hb1) r HR.out).mono ?_
  have hrof := fun W hE => rof_any s (by omega) E ecap x1 (by omega) hec HEN.out W hE r HR.out
  have HROF := Lib.hid hrof
  clear hrof HR
  generalize ofR r x1 = o at *
  obtain ⟨⟨k, n⟩, er⟩ := o
  rintro e w2 ⟨ev, rfl, he2, hb2⟩
  have HE2 := Lib.hid he2
  have hb12 := below_then hb1 hb1.size hb2
  have hb12' := hb12.alloc hb12.size (.cells #[.int .i64 k, .int .i64 n] 35)
  clear he2
  simp only [agV]
  go_wp2_with fail
  refine (HROF.out _ (Kd.C_below HE.out hb12')).mono ?_
  rintro e w3 ⟨rfl, hb3⟩
  obtain ⟨hk, c0, c1, f0, f1, hlt, hbw⟩ := laid2 hb3
  have hb13 := hb12.trans (hbw.mono hb12.size)
  have hal : Below w3.heap.size w3 (w3.alloc (.cells #[.int .i64 k, .int .i64 n] 35)) := (Below.refl _ _).alloc (Nat.le_refl _) _
  have d0 := (hal.cell (p := ⟨w2.heap.size, 0, none⟩) hlt).trans c0
  have d1 := (hal.cell (p := ⟨w2.heap.size, 1, none⟩) hlt).trans c1
  have hbf := hb13.trans (hal.mono hb13.size)
  have HE3 := Lib.hid ((HE2.out.keep hbw).keep hal)
  clear hk hb3 c0 c1 f0 f1 hb12'
  simp only [agV]
  go_wp2_with fail
  refine (told_any _ _ _ _ HE3.out HOK.out.1 HOK.out.2 (HWE.out.below hbf).typ).mono ?_
  rintro e w4 ⟨rfl, hb4⟩
  have hb14 := below_then hbf hbf.size hb4
  go_wp2_with fail
  go_ret
  exact ⟨rfl, hb14⟩
end Go.Proofs.YtemoonhnncopoaaGreatDoor
end
section
set_option linter.unusedVariables false
set_option linter.unusedSimpArgs false
namespace Go.Proofs.YtemoonhnncopoaaGreatDoor
open Go.ChangeShapes Go.WideShapes Go.RowKit PX Go.Proofs.YtemoonhnncopoaaGreatDoorW.PrintWords
namespace Door
abbrev laid5 : List (String × DataW Unit) := [("math/bits.deBruijn32tab", Rows.laid_math_bits_deBruijn32tab), ("math/bits.deBruijn64tab", Rows.laid_math_bits_deBruijn64tab), ("internal/strconv.uint64pow10", Rows.laid_internal_strconv_uint64pow10), ("strconv.ErrRange", Rows.laid_strconv_ErrRange), ("strconv.ErrSyntax", Rows.laid_strconv_ErrSyntax)]
abbrev laid6 : List (String × DataW Unit) := [("math/bits.deBruijn32tab", Rows.laid_math_bits_deBruijn32tab), ("math/bits.deBruijn64tab", Rows.laid_math_bits_deBruijn64tab), ("internal/strconv.uint64pow10", Rows.laid_internal_strconv_uint64pow10), ("errors.errorType", Rows.laid_errors_errorType), ("strconv.ErrRange", Rows.laid_strconv_ErrRange), ("strconv.ErrSyntax", Rows.laid_strconv_ErrSyntax)]
theorem gRange : Tryz.prog.globalNamed "strconv.ErrRange" = some 3 := by kernel_rfl
theorem gRangeT : (Tryz.prog.globals[3]?).map (·.type) = some 37 := by kernel_rfl
theorem gPow : Tryz.prog.globalNamed "internal/strconv.uint64pow10" = some 4 := by kernel_rfl
theorem gPowT : (Tryz.prog.globals[4]?).map (·.type) = some 261 := by kernel_rfl
theorem powT : Tryz.prog.underlying 261 = some (.array 20 170) := by kernel_rfl
theorem powIs {H : Type} : (Rows.laid_internal_strconv_uint64pow10 : DataW H) = Lib.tabData .u64 Lib.pow10Tab := rfl
theorem laid_of_met5 {W : World} (h : laidMet Tryz.prog laid5 W) : Laid W := by
  obtain ⟨g, t, cs, fuel, p, h1, h2, h3, h4⟩ := Lib.laidMet.reads h (n := "strconv.ErrRange") (d := Rows.laid_strconv_ErrRange) (.tail _ (.tail _ (.tail _ (.head _))))
  obtain rfl := Option.some.inj (gRange.symm.trans h1)
  obtain rfl := Option.some.inj (gRangeT.symm.trans h2)
  obtain ⟨_, u, v, he, _, _⟩ := iface_of_trod Tryz.underlying37 h4
  have hc : cs = #[.iface u v] := Array.eq_one_of_toList he
  subst hc
  obtain ⟨g, t, cs, fuel, p, k1, k2, k3, k4⟩ := Lib.laidMet.reads h (n := "internal/strconv.uint64pow10") (d := Rows.laid_internal_strconv_uint64pow10) (.tail _ (.tail _ (.head _)))
  obtain rfl := Option.some.inj (gPow.symm.trans k1)
  obtain rfl := Option.some.inj (gPowT.symm.trans k2)
  refine ⟨⟨u, v, h3⟩, ?_⟩
  unfold Lib.TabIs
  rw [powIs] at k4
  rw [k3, ← Lib.cells_of_tab powT (by kernel_rfl) (by kernel_rfl) (by kernel_rfl) k4]
theorem gTyp : Tryz.prog.globalNamed "errors.errorType" = some 0 := by kernel_rfl
theorem rtyp : (Tryz.prog.cutTypes.find? (·.1 == "internal/reflectlite.rtype")).map (·.2) = some 213 := by kernel_rfl
theorem oneRow : ((List.range 292).filter fun t => Tryz.prog.rowNamed t [101, 114, 114, 111, 114]) = [37] := by kernel_rfl
theorem ntyp : Tryz.prog.types.size = 292 := by kernel_rfl
theorem laid_of6 {W : World} (h : laidMetH Tryz.prog laid6 W) : LaidE W := by
  obtain ⟨h1, h2⟩ := laidMetH_iff.1 h
  refine ⟨laid_of_met5 h1, ?_⟩
  obtain ⟨name, u, ty, e1, e2, e3, e4, e5⟩ := h2 ("errors.errorType", Rows.laid_errors_errorType) (List.mem_filter.2 ⟨.tail _ (.tail _ (.tail _ (.head _))), rfl⟩)
  have en : name = [101, 114, 114, 111, 114] := (Option.some.inj e1).symm
  subst en
  obtain rfl := Option.some.inj (rtyp.symm.trans e2)
  have hm : ty ∈ (List.range 292).filter fun t => Tryz.prog.rowNamed t [101, 114, 114, 111, 114] := List.mem_filter.2 ⟨List.mem_range.2 (by rw [← ntyp]; exact e3), e4⟩
  rw [oneRow] at hm
  obtain rfl := List.mem_singleton.1 hm
  have hh : typeHandle Tryz.prog 37 = .pointer (some ⟨6, 37, none⟩) := by kernel_rfl
  rw [hh] at e5
  simpa using World.var?_cell gTyp e5 0
def cellsOfData : DataW Unit → Array Value
  | .agg l => (l.map fun | .lit (.int k z) => Value.int k z | _ => .nilIface).toArray
  | _ => #[]
noncomputable def laidWorld (os : Os) : World :=
  let N := (World.holding Tryz.prog os ⟨#[], #[], []⟩).heap.size
  let w0 := World.holding Tryz.prog os ⟨#[.cells #[.string ⟨#[118, 97, 108, 117, 101, 32, 111, 117, 116, 32, 111, 102, 32, 114, 97, 110, 103, 101]⟩] 253, .cells #[.string ⟨#[105, 110, 118, 97, 108, 105, 100, 32, 115, 121, 110, 116, 97, 120]⟩] 253], #[], []⟩
  let put (h : Array Obj) (g : Nat) (cs : Array Value) : Array Obj := h.modify g fun
    | .cells _ t frozen => .cells cs t frozen
    | o => o
  { w0 with heap := put (put (put (put (put (put w0.heap
      1 (cellsOfData Rows.laid_math_bits_deBruijn32tab)) 5 (cellsOfData Rows.laid_math_bits_deBruijn64tab)) 4 (cellsOfData Rows.laid_internal_strconv_uint64pow10))
      0 #[.iface 213 (.agg #[.pointer (some ⟨6, 37, none⟩)])]) 3 #[.iface 251 (.pointer (some ⟨N, 0, none⟩))]) 2 #[.iface 251 (.pointer (some ⟨N + 1, 0, none⟩))] }
theorem met5 (os : Os) (args : Array Value) : laidMet Tryz.prog laid5 ((laidWorld os).forCall (fun _ _ => 0) ⟨#[], args, []⟩).memory :=
  laidMet_of_run3 10 (by kernel_rfl) (by kernel_rfl) (by kernel_rfl)
theorem met6H (os : Os) (args : Array Value) : laidMetH Tryz.prog laid6 ((laidWorld os).forCall (fun _ _ => 0) ⟨#[], args, []⟩).memory :=
  laidMetH_of_parts (met5 os args) (by kernel_rfl)
end Door
end Go.Proofs.YtemoonhnncopoaaGreatDoor
end
