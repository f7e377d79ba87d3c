/- What the reference's reader does: one, Read. -/
import Derived.Test.YtldcplgfkcionaaDoorRread
import Derived.Test.YtldcplgfkcionaaDoorPrun2
set_option linter.unusedVariables false
set_option linter.unusedSimpArgs false
namespace Go.Proofs.YtldcplgfkcionaaDoor
open Go.RowKit PX Go.Proofs.YtldcplgfkcionaaDoorW.PrintWords
def ReadsR (l : List T) (lv N : Nat) : Prop :=
  ∀ (g : Nat) (A : Option Addr) (cap B : Nat) (w : World) (s : St) (v : Value) (s' : St), RdrR g A cap l B w s v → s.at_ ≤ l.length → s.out.length ≤ s.at_ → (l.length - s.at_) * 8 + (7 - lv) < N → Pr l false lv s s' →
    Calls Tryd.prog 51 #[.pointer (some ⟨g, 0, none⟩), .int .i64 lv] w fun e w' => (∃ u, e = .returned u) ∧ ∃ v', RdrR g A cap l B w' s' v' ∧ ChgR g v w w' ∧ Own w v v'
def OneR (l : List T) (N : Nat) : Prop :=
  ∀ (g : Nat) (A : Option Addr) (cap B : Nat) (w : World) (s : St) (v : Value) (s' : St), RdrR g A cap l B w s v → s.at_ ≤ l.length → s.out.length ≤ s.at_ → (l.length - s.at_) * 8 < N → Pr l false 6 s s' →
    Calls Tryd.prog 80 #[.pointer (some ⟨g, 0, none⟩)] w fun e w' => (∃ u, e = .returned u) ∧ ∃ v', RdrR g A cap l B w' s' v' ∧ ChgR g v w w' ∧ Own w v v'
/-- What follows behind a level's first one. -/
def Tl (l : List T) (v : Nat) (s s' : St) : Prop :=
  if v = 3 then (level (s.see l) ≠ 3 ∧ s' = s) ∨ (level (s.see l) = 3 ∧ ∃ s3, Pr l false 4 s.adv s3 ∧ s' = s3.put (s.see l) 0) else Pr l true v s s'
theorem tl_cases {l : List T} {v : Nat} {s s' : St} (h : Tl l v s s') : (level (s.see l) ≠ v ∧ s' = s) ∨ (level (s.see l) = v ∧ ∃ s3, Pr l false (v + 1) s.adv s3 ∧ ((v = 3 ∧ s' = s3.put (s.see l) 0) ∨ (v ≠ 3 ∧ Tl l v (s3.put (s.see l) 0) s'))) := by
  unfold Tl at h
  split at h
  · rename_i h3
    subst h3
    rcases h with h | ⟨h, s3, h3, h4⟩
    · exact .inl h
    · exact .inr ⟨h, s3, h3, .inl ⟨rfl, h4⟩⟩
  · rename_i h3
    cases h with
    | stop h => exact .inl ⟨h, rfl⟩
    | more h h1 h2 => exact .inr ⟨h, _, h1, .inr ⟨h3, by unfold Tl; rw [if_neg h3]; exact h2⟩⟩
theorem pr_first {l : List T} {v : Nat} {s s' : St} (hv : v < 6) (h : Pr l false v s s') : (v = 3 ∧ s.see l = 14 ∧ ∃ s1, Pr l false 3 s.adv s1 ∧ s' = s1.put 14 0) ∨ ((v = 3 → s.see l ≠ 14) ∧ ∃ s1, Pr l false (v + 1) s s1 ∧ Tl l v s1 s') := by
  cases h with
  | row h h1 h2 => exact .inr ⟨fun e => by omega, _, h1, by unfold Tl; rw [if_neg (by omega)]; exact h2⟩
  | not_ h h1 => exact .inl ⟨rfl, h, _, h1, rfl⟩
  | sum h h1 h2 => exact .inr ⟨fun _ => h, _, h1, by unfold Tl; rw [if_pos rfl]; exact .inl ⟨h2, rfl⟩⟩
  | cmp h h1 h2 h3 => exact .inr ⟨fun _ => h, _, h1, by unfold Tl; rw [if_pos rfl]; exact .inr ⟨h2, _, h3, rfl⟩⟩
  | _ => omega
set_option maxHeartbeats 8000000 in
set_option maxRecDepth 100000 in
theorem read6_any (l : List T) (N : Nat) (h1 : OneR l N) : ReadsR l 6 (N + 1) := by
  intro g A cap B w s v s' hR hat hout hN hp
  have HR := Lib.hid hR
  have HP := Lib.hid hp
  clear hR hp
  go_enter Tryd.func51, Tryd.ntmps51
  go_wp2_with fail
  refine (h1 g A cap B w s v s' HR.out hat hout (by omega) HP.out).mono ?_
  rintro e w1 ⟨⟨u, rfl⟩, v1, hd⟩
  go_wp2_with fail
  refine bodyPost_ret (results_none rfl _ _ _) rfl ?_
  exact ⟨⟨_, rfl⟩, v1, hd⟩
set_option maxHeartbeats 8000000 in
set_option maxRecDepth 100000 in
theorem read_any (l : List T) (hl : l.length ≤ 100000) (lv N : Nat) (hv1 : 1 ≤ lv) (hv : lv < 6) (hone : ReadsR l (lv + 1) N) (h3 : ReadsR l 3 N) : ReadsR l lv (N + 1) := by
  intro g A cap B w s v s' hR hat hout hN hp
  have HR := Lib.hid hR
  clear hR
  have e6 : ((lv : Int) == 6) = false := beq_eq_false_iff_ne.mpr (by omega)
  rcases pr_first hv hp with ⟨rfl, h14, s1, h1, rfl⟩ | ⟨hn, s1, h1, ht⟩
  · have H1 := Lib.hid h1
    clear hp h1
    have hlt := see_lt (l := l) (s := s) (by omega)
    have hle := H1.out.le (by omega) (by rw [adv_at]; omega)
    simp only [adv_at, adv_out] at hle
    go_enter Tryd.func51, Tryd.ntmps51
    go_wp2_with fail
    refine (see_any HR.out (by omega) hat).mono ?_
    rw [h14]
    rintro e w1 ⟨rfl, n1, rfl⟩
    have hR1 := HR.out.drewN n1
    obtain ⟨c0, c1, c2, c3, f1, f2, f3⟩ := hR1.cells
    have HR1 := Lib.hid hR1
    clear hR1
    go_wp2_with fail
    have e1 : ((s.at_ : Int) + 1) = ((s.at_ + 1 : Nat) : Int) := by omega
    rw [e1]
    clear e1
    have hR2 := HR1.out.setAt (by decide) (s.at_ + 1)
    have HC2 : Hid (ChgR g v w ((w.drewN n1).setCell ⟨g, 1, none⟩ (.int .i64 (s.at_ + 1 : Nat)))) := Lib.hid (((Chg.refl _ w).drewN n1).trans (chg_setG v _ 1 _))
    have HRa := Lib.hid hR2
    clear hR2
    refine (h3 g A cap B _ s.adv v s1 HRa.out (by rw [adv_at]; omega) (by rw [adv_at, adv_out]; omega) (by rw [adv_at]; omega) H1.out).mono ?_
    rintro e w2 ⟨⟨u, rfl⟩, v2, hR2, hc2, ho2⟩
    have HR2 := Lib.hid hR2
    have HO2 := Lib.hid ((Own.refl w v).trans HC2.out.size ho2)
    have HC2 := Lib.hid (HC2.out.then (Own.refl _ _) hc2)
    clear hR2 hc2 ho2
    go_wp2_with fail
    refine (rput_any HR2.out 14 0 (by omega)).mono ?_
    rintro e w3 ⟨⟨u3, rfl⟩, v3, hR3, hc3, ho3⟩
    have hd : RdrR g A cap l B w3 (s1.put 14 0) v3 ∧ ChgR g v w w3 ∧ Own w v v3 := ⟨hR3, HC2.out.then HO2.out hc3, HO2.out.trans HC2.out.size ho3⟩
    clear hR3 hc3 ho3
    go_wp2_with fail
    refine bodyPost_ret (results_none rfl _ _ _) rfl ?_
    exact ⟨⟨_, rfl⟩, v3, hd⟩
  · have H1 := Lib.hid h1
    have HT := Lib.hid ht
    clear hp h1 ht
    have hle1 := H1.out.le (by omega) hat
    by_cases hv3 : lv = 3
    · subst hv3
      have h14 : (s.see l == 14) = false := beq_eq_false_iff_ne.mpr (hn rfl)
      generalize hsee : s.see l = sk at *
      have HS := Lib.hid hsee
      clear hsee
      go_enter Tryd.func51, Tryd.ntmps51
      go_wp2_with fail
      refine (see_any HR.out (by omega) hat).mono ?_
      rw [HS.out]
      rintro e w1 ⟨rfl, n1, rfl⟩
      go_wp2_with fail
      refine (hone g A cap B (w.drewN n1) s v s1 (HR.out.drewN n1) hat hout (by omega) H1.out).mono ?_
      rintro e w2 ⟨⟨u, rfl⟩, v2, hR2, hc2, ho2⟩
      have HR2 := Lib.hid hR2
      have HC2 : Hid (ChgR g v w w2) := Lib.hid (ChgR.then ((Chg.refl _ w).drewN n1) (Own.refl _ _) hc2)
      have HO2 : Hid (Own w v v2) := Lib.hid ((Own.refl w v).trans (((Chg.refl _ w).drewN n1) : ChgR g v w (w.drewN n1)).size ho2)
      clear hR2 hc2 ho2
      go_wp2_with fail
      go_loopw [4] (fun _ wr => Hid (∃ (s2 : St) (v2 : Value), RdrR g A cap l B wr s2 v2 ∧ ChgR g v w wr ∧ Own w v v2 ∧ s2.at_ ≤ l.length ∧ s2.out.length ≤ s2.at_ ∧ s.at_ ≤ s2.at_ ∧ Tl l 3 s2 s'))
        (fun _ wr => l.length - (intOf ((wr.cell? ⟨g, 1, none⟩).getD .nilIface)).toNat)
      case atStart => exact Lib.hid ⟨s1, v2, HR2.out, HC2.out, HO2.out, by omega, by omega, by omega, HT.out⟩
      case round =>
        obtain ⟨s2, v3, hR3, hc3, ho3, ha2, hb2, hd2, hp2⟩ := hrel.out
        clear hrel HR2 HC2 HO2 HT H1
        have hm2 : wr.cell? ⟨g, 1, none⟩ = some (.int .i64 s2.at_) := hR3.cells.2.1
        have HR3 := Lib.hid hR3
        have HC3 := Lib.hid hc3
        have HO3 := Lib.hid ho3
        clear hR3 hc3 ho3
        rcases tl_cases hp2 with ⟨hlv, rfl⟩ | ⟨hlv, s3, h3', hcase⟩
        · have HL := Lib.hid hlv
          clear hp2 hlv
          go_wp2_with fail
          refine (see_any HR3.out (by omega) ha2).mono ?_
          rintro e w4 ⟨rfl, n4, rfl⟩
          go_wp2_with fail
          refine (level_any _ _).mono ?_
          rintro e w5 ⟨rfl, n5, rfl⟩
          have hl : (((level (St.see l s') : Nat) : Int) == (3 : Int)) = false := beq_eq_false_iff_ne.mpr (by have := HL.out; omega)
          have hd : RdrR g A cap l B (wr.drewN (n4 + n5)) s' v3 ∧ ChgR g v w (wr.drewN (n4 + n5)) ∧ Own w v v3 := ⟨HR3.out.drewN _, HC3.out.drewN _, HO3.out⟩
          clear HR3 HC3 HO3 HL
          go_wp2_with fail
          go_end0
          exact ⟨⟨_, rfl⟩, v3, hd⟩
        · have H3 := Lib.hid h3'
          have HCS := Lib.hid hcase
          have hlt := see_lt (l := l) (s := s2) (level_see hlv (by omega))
          have HL := Lib.hid hlv
          clear hp2 h3' hcase hlv
          have hle3 := H3.out.le (by omega) (by rw [adv_at]; omega)
          simp only [adv_at, adv_out] at hle3
          go_wp2_with fail
          refine (see_any HR3.out (by omega) ha2).mono ?_
          rintro e w4 ⟨rfl, n4, rfl⟩
          go_wp2_with fail
          refine (level_any _ _).mono ?_
          rintro e w5 ⟨rfl, n5, rfl⟩
          have hl : (((level (St.see l s2) : Nat) : Int) == (3 : Int)) = true := beq_iff_eq.mpr (by have := HL.out; omega)
          have HR5 := Lib.hid (HR3.out.drewN (n4 + n5))
          have HC5 := Lib.hid (HC3.out.drewN (n4 + n5))
          clear HR3 HC3
          go_wp2_with fail
          refine (see_any HR5.out (by omega) ha2).mono ?_
          rintro e w6 ⟨rfl, n6, rfl⟩
          have HR6 := Lib.hid (HR5.out.drewN n6)
          have HC6 := Lib.hid (HC5.out.drewN n6)
          have hf2 : wr.frozen? ⟨g, 1, none⟩ = false := HR5.out.cells.2.2.2.2.1
          clear HR5 HC5
          go_wp2_with fail
          have e1 : ((s2.at_ : Int) + 1) = ((s2.at_ + 1 : Nat) : Int) := by omega
          have hRa : RdrR g A cap l B ((wr.drewN (n4 + n5 + n6)).setCell ⟨g, 1, none⟩ (.int .i64 (s2.at_ + 1))) s2.adv v3 := by
            rw [e1]
            have := HR6.out.setAt (by decide) (s2.at_ + 1)
            rw [World.drewN_drewN] at this
            exact this
          have HCa : Hid (ChgR g v w ((wr.drewN (n4 + n5 + n6)).setCell ⟨g, 1, none⟩ (.int .i64 (s2.at_ + 1)))) := Lib.hid (by
            have := HC6.out.trans (chg_setG v _ 1 (.int .i64 (s2.at_ + 1)))
            rw [World.drewN_drewN] at this
            exact this)
          have HRa := Lib.hid hRa
          clear e1 hRa hf2 HR6 HC6
          refine (hone g A cap B _ s2.adv v3 s3 HRa.out (by rw [adv_at]; omega) (by rw [adv_at, adv_out]; omega) (by rw [adv_at]; omega) H3.out).mono ?_
          rintro e w7 ⟨⟨u7, rfl⟩, v7, hR7, hc7, ho7⟩
          have HR7 := Lib.hid hR7
          have HC7 := Lib.hid (HCa.out.then HO3.out hc7)
          have HO7 := Lib.hid (HO3.out.trans HCa.out.size ho7)
          clear hR7 hc7 ho7 HRa HCa
          go_wp2_with fail
          refine (rput_any HR7.out (s2.see l) 0 (by omega)).mono ?_
          rintro e w8 ⟨⟨u8, rfl⟩, v8, hR8, hc8, ho8⟩
          have hm8 : w8.cell? ⟨g, 1, none⟩ = some (.int .i64 s3.at_) := hR8.cells.2.1
          have HR8 := Lib.hid hR8
          have HC8 := Lib.hid (HC7.out.then HO7.out hc8)
          have HO8 := Lib.hid (HO7.out.trans HC7.out.size ho8)
          clear hR8 hc8 ho8
          go_wp2_with fail
          have hs : s' = s3.put (s2.see l) 0 := by
            rcases HCS.out with ⟨_, h⟩ | ⟨h, _⟩
            · exact h
            · exact absurd rfl h
          subst hs
          refine bodyPost_ret (results_none rfl _ _ _) rfl ?_
          exact ⟨⟨_, rfl⟩, v8, HR8.out, HC8.out, HO8.out⟩
    · have n3 : ((lv : Int) == 3) = false := beq_eq_false_iff_ne.mpr (by omega)
      clear hn
      go_enter Tryd.func51, Tryd.ntmps51
      go_wp2_with fail
      rw [show ((lv : Int) + 1) = ((lv + 1 : Nat) : Int) by omega]
      refine (hone g A cap B w s v s1 HR.out hat hout (by omega) H1.out).mono ?_
      rintro e w2 ⟨⟨u, rfl⟩, v2, hR2, hc2, ho2⟩
      have HR2 := Lib.hid hR2
      have HC2 : Hid (ChgR g v w w2) := Lib.hid (ChgR.then (Chg.refl _ w) (Own.refl _ _) hc2)
      have HO2 : Hid (Own w v v2) := Lib.hid ((Own.refl w v).trans ((Chg.refl _ w) : ChgR g v w w).size ho2)
      clear hR2 hc2 ho2
      go_wp2_with fail
      go_loopw [4] (fun _ wr => Hid (∃ (s2 : St) (v2 : Value), RdrR g A cap l B wr s2 v2 ∧ ChgR g v w wr ∧ Own w v v2 ∧ s2.at_ ≤ l.length ∧ s2.out.length ≤ s2.at_ ∧ s.at_ ≤ s2.at_ ∧ Tl l lv s2 s'))
        (fun _ wr => l.length - (intOf ((wr.cell? ⟨g, 1, none⟩).getD .nilIface)).toNat)
      case atStart => exact Lib.hid ⟨s1, v2, HR2.out, HC2.out, HO2.out, by omega, by omega, by omega, HT.out⟩
      case round =>
        obtain ⟨s2, v3, hR3, hc3, ho3, ha2, hb2, hd2, hp2⟩ := hrel.out
        clear hrel HR2 HC2 HO2 HT H1
        have hm2 : wr.cell? ⟨g, 1, none⟩ = some (.int .i64 s2.at_) := hR3.cells.2.1
        have HR3 := Lib.hid hR3
        have HC3 := Lib.hid hc3
        have HO3 := Lib.hid ho3
        clear hR3 hc3 ho3
        rcases tl_cases hp2 with ⟨hlv, rfl⟩ | ⟨hlv, s3, h3', hcase⟩
        · have HL := Lib.hid hlv
          clear hp2 hlv
          go_wp2_with fail
          refine (see_any HR3.out (by omega) ha2).mono ?_
          rintro e w4 ⟨rfl, n4, rfl⟩
          go_wp2_with fail
          refine (level_any _ _).mono ?_
          rintro e w5 ⟨rfl, n5, rfl⟩
          have hl : (((level (St.see l s') : Nat) : Int) == (lv : Int)) = false := beq_eq_false_iff_ne.mpr (by have := HL.out; omega)
          have hd : RdrR g A cap l B (wr.drewN (n4 + n5)) s' v3 ∧ ChgR g v w (wr.drewN (n4 + n5)) ∧ Own w v v3 := ⟨HR3.out.drewN _, HC3.out.drewN _, HO3.out⟩
          clear HR3 HC3 HO3 HL
          go_wp2_with fail
          go_end0
          exact ⟨⟨_, rfl⟩, v3, hd⟩
        · have H3 := Lib.hid h3'
          have HCS := Lib.hid hcase
          have hlt := see_lt (l := l) (s := s2) (level_see hlv (by omega))
          have HL := Lib.hid hlv
          clear hp2 h3' hcase hlv
          have hle3 := H3.out.le (by omega) (by rw [adv_at]; omega)
          simp only [adv_at, adv_out] at hle3
          go_wp2_with fail
          refine (see_any HR3.out (by omega) ha2).mono ?_
          rintro e w4 ⟨rfl, n4, rfl⟩
          go_wp2_with fail
          refine (level_any _ _).mono ?_
          rintro e w5 ⟨rfl, n5, rfl⟩
          have hl : (((level (St.see l s2) : Nat) : Int) == (lv : Int)) = true := beq_iff_eq.mpr (by have := HL.out; omega)
          have HR5 := Lib.hid (HR3.out.drewN (n4 + n5))
          have HC5 := Lib.hid (HC3.out.drewN (n4 + n5))
          clear HR3 HC3
          go_wp2_with fail
          refine (see_any HR5.out (by omega) ha2).mono ?_
          rintro e w6 ⟨rfl, n6, rfl⟩
          have HR6 := Lib.hid (HR5.out.drewN n6)
          have HC6 := Lib.hid (HC5.out.drewN n6)
          have hf2 : wr.frozen? ⟨g, 1, none⟩ = false := HR5.out.cells.2.2.2.2.1
          clear HR5 HC5
          go_wp2_with fail
          have e1 : ((s2.at_ : Int) + 1) = ((s2.at_ + 1 : Nat) : Int) := by omega
          have hRa : RdrR g A cap l B ((wr.drewN (n4 + n5 + n6)).setCell ⟨g, 1, none⟩ (.int .i64 (s2.at_ + 1))) s2.adv v3 := by
            rw [e1]
            have := HR6.out.setAt (by decide) (s2.at_ + 1)
            rw [World.drewN_drewN] at this
            exact this
          have HCa : Hid (ChgR g v w ((wr.drewN (n4 + n5 + n6)).setCell ⟨g, 1, none⟩ (.int .i64 (s2.at_ + 1)))) := Lib.hid (by
            have := HC6.out.trans (chg_setG v _ 1 (.int .i64 (s2.at_ + 1)))
            rw [World.drewN_drewN] at this
            exact this)
          have HRa := Lib.hid hRa
          clear e1 hRa hf2 HR6 HC6
          rw [show ((lv : Int) + 1) = ((lv + 1 : Nat) : Int) by omega]
          refine (hone g A cap B _ s2.adv v3 s3 HRa.out (by rw [adv_at]; omega) (by rw [adv_at, adv_out]; omega) (by rw [adv_at]; omega) H3.out).mono ?_
          rintro e w7 ⟨⟨u7, rfl⟩, v7, hR7, hc7, ho7⟩
          have HR7 := Lib.hid hR7
          have HC7 := Lib.hid (HCa.out.then HO3.out hc7)
          have HO7 := Lib.hid (HO3.out.trans HCa.out.size ho7)
          clear hR7 hc7 ho7 HRa HCa
          go_wp2_with fail
          refine (rput_any HR7.out (s2.see l) 0 (by omega)).mono ?_
          rintro e w8 ⟨⟨u8, rfl⟩, v8, hR8, hc8, ho8⟩
          have hm8 : w8.cell? ⟨g, 1, none⟩ = some (.int .i64 s3.at_) := hR8.cells.2.1
          have HR8 := Lib.hid hR8
          have HC8 := Lib.hid (HC7.out.then HO7.out hc8)
          have HO8 := Lib.hid (HO7.out.trans HC7.out.size ho8)
          clear hR8 hc8 ho8
          go_wp2_with fail
          have hs : Tl l lv (s3.put (s2.see l) 0) s' := by
            rcases HCS.out with ⟨h, _⟩ | ⟨_, h⟩
            · exact absurd h hv3
            · exact h
          have HS9 := Lib.hid hs
          clear hs
          go_roundw
          case rel => exact Lib.hid ⟨_, v8, HR8.out, HC8.out, HO8.out, by rw [put_at]; omega, by rw [put_at, put_out]; omega, by rw [put_at]; omega, HS9.out⟩
          case measure => rw [hm8, hm2]; simp [intOf]; omega
end Go.Proofs.YtldcplgfkcionaaDoor
