/- Texts of this claim, merged (Rrun, Rone, RefLex, Rparse, Rof, Actp, Actone, Actdo). -/
import Derived.Deep.RegionLawGrows
import Derived.Test.YtemoonhnncopoaaGreatDoorZActDoes16
import Derived.Test.YtemoonhnncopoaaGreatDoorZActDoes11
import Derived.Test.YtemoonhnncopoaaGreatDoorZActDoes14
section
set_option linter.unusedVariables false
set_option linter.unusedSimpArgs false
namespace Go.Proofs.YtemoonhnncopoaaGreatDoor
open Go.RowKit PX Go.Proofs.YtemoonhnncopoaaGreatDoorW.PrintWords
def ReadsR (l : List T) (lv N : Nat) : Prop :=
  ∀ (g : Nat) (A : Option Addr) (cap B : Nat) (w : World) (s : St) (v : Value) (s' : St), RdrR g A cap l B w s v → s.at_ ≤ l.length → s.out.length ≤ s.at_ → (l.length - s.at_) * 8 + (7 - lv) < N → Pr l false lv s s' →
    Calls Tryz.prog 86 #[.pointer (some ⟨g, 0, none⟩), .int .i64 lv] w fun e w' => (∃ u, e = .returned u) ∧ ∃ v', RdrR g A cap l B w' s' v' ∧ ChgR g v w w' ∧ Own w v v'
def OneR (l : List T) (N : Nat) : Prop :=
  ∀ (g : Nat) (A : Option Addr) (cap B : Nat) (w : World) (s : St) (v : Value) (s' : St), RdrR g A cap l B w s v → s.at_ ≤ l.length → s.out.length ≤ s.at_ → (l.length - s.at_) * 8 < N → Pr l false 6 s s' →
    Calls Tryz.prog 118 #[.pointer (some ⟨g, 0, none⟩)] w fun e w' => (∃ u, e = .returned u) ∧ ∃ v', RdrR g A cap l B w' s' v' ∧ ChgR g v w w' ∧ Own w v v'
def Tl (l : List T) (v : Nat) (s s' : St) : Prop :=
  if v = 3 then (level (s.see l) ≠ 3 ∧ s' = s) ∨ (level (s.see l) = 3 ∧ ∃ s3, Pr l false 4 s.adv s3 ∧ s' = s3.put (s.see l) 0) else Pr l true v s s'
theorem tl_cases {l : List T} {v : Nat} {s s' : St} (h : Tl l v s s') : (level (s.see l) ≠ v ∧ s' = s) ∨ (level (s.see l) = v ∧ ∃ s3, Pr l false (v + 1) s.adv s3 ∧ ((v = 3 ∧ s' = s3.put (s.see l) 0) ∨ (v ≠ 3 ∧ Tl l v (s3.put (s.see l) 0) s'))) := by
  unfold Tl at h
  split at h
  · rename_i h3
    subst h3
    rcases h with h | ⟨h, s3, h3, h4⟩
    · exact .inl h
    · exact .inr ⟨h, s3, h3, .inl ⟨rfl, h4⟩⟩
  · rename_i h3
    cases h with
    | stop h => exact .inl ⟨h, rfl⟩
    | more h h1 h2 => exact .inr ⟨h, _, h1, .inr ⟨h3, by unfold Tl; rw [if_neg h3]; exact h2⟩⟩
theorem pr_first {l : List T} {v : Nat} {s s' : St} (hv : v < 6) (h : Pr l false v s s') : (v = 3 ∧ s.see l = 14 ∧ ∃ s1, Pr l false 3 s.adv s1 ∧ s' = s1.put 14 0) ∨ ((v = 3 → s.see l ≠ 14) ∧ ∃ s1, Pr l false (v + 1) s s1 ∧ Tl l v s1 s') := by
  cases h with
  | row h h1 h2 => exact .inr ⟨fun e => by omega, _, h1, by unfold Tl; rw [if_neg (by omega)]; exact h2⟩
  | not_ h h1 => exact .inl ⟨rfl, h, _, h1, rfl⟩
  | sum h h1 h2 => exact .inr ⟨fun _ => h, _, h1, by unfold Tl; rw [if_pos rfl]; exact .inl ⟨h2, rfl⟩⟩
  | cmp h h1 h2 h3 => exact .inr ⟨fun _ => h, _, h1, by unfold Tl; rw [if_pos rfl]; exact .inr ⟨h2, _, h3, rfl⟩⟩
  | _ => omega
set_option maxHeartbeats 8000000 in
set_option maxRecDepth 100000 in
theorem read6_any (l : List T) (N : Nat) (h1 : OneR l N) : ReadsR l 6 (N + 1) := by
  intro g A cap B w s v s' hR hat hout hN hp
  have HR := Lib.hid hR
  have HP := Lib.hid hp
  clear hR hp
  go_enter Tryz.func86, Tryz.ntmps86
  go_wp2_with fail
  refine (h1 g A cap B w s v s' HR.out hat hout (by omega) HP.out).mono ?_
  rintro e w1 ⟨⟨u, rfl⟩, v1, hd⟩
  go_wp2_with fail
  refine bodyPost_ret (results_none rfl _ _ _) rfl ?_
  exact ⟨⟨_, rfl⟩, v1, hd⟩
set_option maxHeartbeats 8000000 in
set_option maxRecDepth 100000 in
theorem read_any (l : List T) (hl : l.length ≤ 100000) (lv N : Nat) (hv1 : 1 ≤ lv) (hv : lv < 6) (hone : ReadsR l (lv + 1) N) (h3 : ReadsR l 3 N) : ReadsR l lv (N + 1) := by
  intro g A cap B w s v s' hR hat hout hN hp
  have HR := Lib.hid hR
  clear hR
  have e6 : ((lv : Int) == 6) = false := beq_eq_false_iff_ne.mpr (by omega)
  rcases pr_first hv hp with ⟨rfl, h14, s1, h1, rfl⟩ | ⟨hn, s1, h1, ht⟩
  · have H1 := Lib.hid h1
    clear hp h1
    have hlt := see_lt (l := l) (s := s) (by omega)
    have hle := H1.out.le (by omega) (by rw [adv_at]; omega)
    simp only [adv_at, adv_out] at hle
    go_enter Tryz.func86, Tryz.ntmps86
    go_wp2_with fail
    refine (see_any HR.out (by omega) hat).mono ?_
    rw [h14]
    rintro e w1 ⟨rfl, n1, rfl⟩
    have hR1 := HR.out.drewN n1
    obtain ⟨c0, c1, c2, c3, f1, f2, f3⟩ := hR1.cells
    have HR1 := Lib.hid hR1
    clear hR1
    go_wp2_with fail
    have e1 : ((s.at_ : Int) + 1) = ((s.at_ + 1 : Nat) : Int) := by omega
    rw [e1]
    clear e1
    have hR2 := HR1.out.setAt (by decide) (s.at_ + 1)
    have HC2 : Hid (ChgR g v w ((w.drewN n1).setCell ⟨g, 1, none⟩ (.int .i64 (s.at_ + 1 : Nat)))) := Lib.hid (((Chg.refl _ w).drewN n1).trans (chg_setG v _ 1 _))
    have HRa := Lib.hid hR2
    clear hR2
    refine (h3 g A cap B _ s.adv v s1 HRa.out (by rw [adv_at]; omega) (by rw [adv_at, adv_out]; omega) (by rw [adv_at]; omega) H1.out).mono ?_
    rintro e w2 ⟨⟨u, rfl⟩, v2, hR2, hc2, ho2⟩
    have HR2 := Lib.hid hR2
    have HO2 := Lib.hid ((Own.refl w v).trans HC2.out.size ho2)
    have HC2 := Lib.hid (HC2.out.then (Own.refl _ _) hc2)
    clear hR2 hc2 ho2
    go_wp2_with fail
    refine (rput_any HR2.out 14 0 (by omega)).mono ?_
    rintro e w3 ⟨⟨u3, rfl⟩, v3, hR3, hc3, ho3⟩
    have hd : RdrR g A cap l B w3 (s1.put 14 0) v3 ∧ ChgR g v w w3 ∧ Own w v v3 := ⟨hR3, HC2.out.then HO2.out hc3, HO2.out.trans HC2.out.size ho3⟩
    clear hR3 hc3 ho3
    go_wp2_with fail
    refine bodyPost_ret (results_none rfl _ _ _) rfl ?_
    exact ⟨⟨_, rfl⟩, v3, hd⟩
  · have H1 := Lib.hid h1
    have HT := Lib.hid ht
    clear hp h1 ht
    have hle1 := H1.out.le (by omega) hat
    by_cases hv3 : lv = 3
    · subst hv3
      have h14 : (s.see l == 14) = false := beq_eq_false_iff_ne.mpr (hn rfl)
      generalize hsee : s.see l = sk at *
      have HS := Lib.hid hsee
      clear hsee
      go_enter Tryz.func86, Tryz.ntmps86
      go_wp2_with fail
      refine (see_any HR.out (by omega) hat).mono ?_
      rw [HS.out]
      rintro e w1 ⟨rfl, n1, rfl⟩
      go_wp2_with fail
      refine (hone g A cap B (w.drewN n1) s v s1 (HR.out.drewN n1) hat hout (by omega) H1.out).mono ?_
      rintro e w2 ⟨⟨u, rfl⟩, v2, hR2, hc2, ho2⟩
      have HR2 := Lib.hid hR2
      have HC2 : Hid (ChgR g v w w2) := Lib.hid (ChgR.then ((Chg.refl _ w).drewN n1) (Own.refl _ _) hc2)
      have HO2 : Hid (Own w v v2) := Lib.hid ((Own.refl w v).trans (((Chg.refl _ w).drewN n1) : ChgR g v w (w.drewN n1)).size ho2)
      clear hR2 hc2 ho2
      go_wp2_with fail
      go_loopw [4] (fun _ wr => Hid (∃ (s2 : St) (v2 : Value), RdrR g A cap l B wr s2 v2 ∧ ChgR g v w wr ∧ Own w v v2 ∧ s2.at_ ≤ l.length ∧ s2.out.length ≤ s2.at_ ∧ s.at_ ≤ s2.at_ ∧ Tl l 3 s2 s'))
        (fun _ wr => l.length - (intOf ((wr.cell? ⟨g, 1, none⟩).getD .nilIface)).toNat)
      case atStart => exact Lib.hid ⟨s1, v2, HR2.out, HC2.out, HO2.out, by omega, by omega, by omega, HT.out⟩
      case round =>
        obtain ⟨s2, v3, hR3, hc3, ho3, ha2, hb2, hd2, hp2⟩ := hrel.out
        clear hrel HR2 HC2 HO2 HT H1
        have hm2 : wr.cell? ⟨g, 1, none⟩ = some (.int .i64 s2.at_) := hR3.cells.2.1
        have HR3 := Lib.hid hR3
        have HC3 := Lib.hid hc3
        have HO3 := Lib.hid ho3
        clear hR3 hc3 ho3
        rcases tl_cases hp2 with ⟨hlv, rfl⟩ | ⟨hlv, s3, h3', hcase⟩
        · have HL := Lib.hid hlv
          clear hp2 hlv
          go_wp2_with fail
          refine (see_any HR3.out (by omega) ha2).mono ?_
          rintro e w4 ⟨rfl, n4, rfl⟩
          go_wp2_with fail
          refine (level_any _ _).mono ?_
          rintro e w5 ⟨rfl, n5, rfl⟩
          have hl : (((level (St.see l s') : Nat) : Int) == (3 : Int)) = false := beq_eq_false_iff_ne.mpr (by have := HL.out; omega)
          have hd : RdrR g A cap l B (wr.drewN (n4 + n5)) s' v3 ∧ ChgR g v w (wr.drewN (n4 + n5)) ∧ Own w v v3 := ⟨HR3.out.drewN _, HC3.out.drewN _, HO3.out⟩
          clear HR3 HC3 HO3 HL
          go_wp2_with fail
          go_end0
          exact ⟨⟨_, rfl⟩, v3, hd⟩
        · have H3 := Lib.hid h3'
          have HCS := Lib.hid hcase
          have hlt := see_lt (l := l) (s := s2) (level_see hlv (by omega))
          have HL := Lib.hid hlv
          clear hp2 h3' hcase hlv
          have hle3 := H3.out.le (by omega) (by rw [adv_at]; omega)
          simp only [adv_at, adv_out] at hle3
          go_wp2_with fail
          refine (see_any HR3.out (by omega) ha2).mono ?_
          rintro e w4 ⟨rfl, n4, rfl⟩
          go_wp2_with fail
          refine (level_any _ _).mono ?_
          rintro e w5 ⟨rfl, n5, rfl⟩
          have hl : (((level (St.see l s2) : Nat) : Int) == (3 : Int)) = true := beq_iff_eq.mpr (by have := HL.out; omega)
          have HR5 := Lib.hid (HR3.out.drewN (n4 + n5))
          have HC5 := Lib.hid (HC3.out.drewN (n4 + n5))
          clear HR3 HC3
          go_wp2_with fail
          refine (see_any HR5.out (by omega) ha2).mono ?_
          rintro e w6 ⟨rfl, n6, rfl⟩
          have HR6 := Lib.hid (HR5.out.drewN n6)
          have HC6 := Lib.hid (HC5.out.drewN n6)
          have hf2 : wr.frozen? ⟨g, 1, none⟩ = false := HR5.out.cells.2.2.2.2.1
          clear HR5 HC5
          go_wp2_with fail
          have e1 : ((s2.at_ : Int) + 1) = ((s2.at_ + 1 : Nat) : Int) := by omega
          have hRa : RdrR g A cap l B ((wr.drewN (n4 + n5 + n6)).setCell ⟨g, 1, none⟩ (.int .i64 (s2.at_ + 1))) s2.adv v3 := by
            rw [e1]
            have := HR6.out.setAt (by decide) (s2.at_ + 1)
            rw [World.drewN_drewN] at this
            exact this
          have HCa : Hid (ChgR g v w ((wr.drewN (n4 + n5 + n6)).setCell ⟨g, 1, none⟩ (.int .i64 (s2.at_ + 1)))) := Lib.hid (by
            have := HC6.out.trans (chg_setG v _ 1 (.int .i64 (s2.at_ + 1)))
            rw [World.drewN_drewN] at this
            exact this)
          have HRa := Lib.hid hRa
          clear e1 hRa hf2 HR6 HC6
          refine (hone g A cap B _ s2.adv v3 s3 HRa.out (by rw [adv_at]; omega) (by rw [adv_at, adv_out]; omega) (by rw [adv_at]; omega) H3.out).mono ?_
          rintro e w7 ⟨⟨u7, rfl⟩, v7, hR7, hc7, ho7⟩
          have HR7 := Lib.hid hR7
          have HC7 := Lib.hid (HCa.out.then HO3.out hc7)
          have HO7 := Lib.hid (HO3.out.trans HCa.out.size ho7)
          clear hR7 hc7 ho7 HRa HCa
          go_wp2_with fail
          refine (rput_any HR7.out (s2.see l) 0 (by omega)).mono ?_
          rintro e w8 ⟨⟨u8, rfl⟩, v8, hR8, hc8, ho8⟩
          have hm8 : w8.cell? ⟨g, 1, none⟩ = some (.int .i64 s3.at_) := hR8.cells.2.1
          have HR8 := Lib.hid hR8
          have HC8 := Lib.hid (HC7.out.then HO7.out hc8)
          have HO8 := Lib.hid (HO7.out.trans HC7.out.size ho8)
          clear hR8 hc8 ho8
          go_wp2_with fail
          have hs : s' = s3.put (s2.see l) 0 := by
            rcases HCS.out with ⟨_, h⟩ | ⟨h, _⟩
            · exact h
            · exact absurd rfl h
          subst hs
          refine bodyPost_ret (results_none rfl _ _ _) rfl ?_
          exact ⟨⟨_, rfl⟩, v8, HR8.out, HC8.out, HO8.out⟩
    · have n3 : ((lv : Int) == 3) = false := beq_eq_false_iff_ne.mpr (by omega)
      clear hn
      go_enter Tryz.func86, Tryz.ntmps86
      go_wp2_with fail
      rw [show ((lv : Int) + 1) = ((lv + 1 : Nat) : Int) by omega]
      refine (hone g A cap B w s v s1 HR.out hat hout (by omega) H1.out).mono ?_
      rintro e w2 ⟨⟨u, rfl⟩, v2, hR2, hc2, ho2⟩
      have HR2 := Lib.hid hR2
      have HC2 : Hid (ChgR g v w w2) := Lib.hid (ChgR.then (Chg.refl _ w) (Own.refl _ _) hc2)
      have HO2 : Hid (Own w v v2) := Lib.hid ((Own.refl w v).trans ((Chg.refl _ w) : ChgR g v w w).size ho2)
      clear hR2 hc2 ho2
      go_wp2_with fail
      go_loopw [4] (fun _ wr => Hid (∃ (s2 : St) (v2 : Value), RdrR g A cap l B wr s2 v2 ∧ ChgR g v w wr ∧ Own w v v2 ∧ s2.at_ ≤ l.length ∧ s2.out.length ≤ s2.at_ ∧ s.at_ ≤ s2.at_ ∧ Tl l lv s2 s'))
        (fun _ wr => l.length - (intOf ((wr.cell? ⟨g, 1, none⟩).getD .nilIface)).toNat)
      case atStart => exact Lib.hid ⟨s1, v2, HR2.out, HC2.out, HO2.out, by omega, by omega, by omega, HT.out⟩
      case round =>
        obtain ⟨s2, v3, hR3, hc3, ho3, ha2, hb2, hd2, hp2⟩ := hrel.out
        clear hrel HR2 HC2 HO2 HT H1
        have hm2 : wr.cell? ⟨g, 1, none⟩ = some (.int .i64 s2.at_) := hR3.cells.2.1
        have HR3 := Lib.hid hR3
        have HC3 := Lib.hid hc3
        have HO3 := Lib.hid ho3
        clear hR3 hc3 ho3
        rcases tl_cases hp2 with ⟨hlv, rfl⟩ | ⟨hlv, s3, h3', hcase⟩
        · have HL := Lib.hid hlv
          clear hp2 hlv
          go_wp2_with fail
          refine (see_any HR3.out (by omega) ha2).mono ?_
          rintro e w4 ⟨rfl, n4, rfl⟩
          go_wp2_with fail
          refine (level_any _ _).mono ?_
          rintro e w5 ⟨rfl, n5, rfl⟩
          have hl : (((level (St.see l s') : Nat) : Int) == (lv : Int)) = false := beq_eq_false_iff_ne.mpr (by have := HL.out; omega)
          have hd : RdrR g A cap l B (wr.drewN (n4 + n5)) s' v3 ∧ ChgR g v w (wr.drewN (n4 + n5)) ∧ Own w v v3 := ⟨HR3.out.drewN _, HC3.out.drewN _, HO3.out⟩
          clear HR3 HC3 HO3 HL
          go_wp2_with fail
          go_end0
          exact ⟨⟨_, rfl⟩, v3, hd⟩
        · have H3 := Lib.hid h3'
          have HCS := Lib.hid hcase
          have hlt := see_lt (l := l) (s := s2) (level_see hlv (by omega))
          have HL := Lib.hid hlv
          clear hp2 h3' hcase hlv
          have hle3 := H3.out.le (by omega) (by rw [adv_at]; omega)
          simp only [adv_at, adv_out] at hle3
          go_wp2_with fail
          refine (see_any HR3.out (by omega) ha2).mono ?_
          rintro e w4 ⟨rfl, n4, rfl⟩
          go_wp2_with fail
          refine (level_any _ _).mono ?_
          rintro e w5 ⟨rfl, n5, rfl⟩
          have hl : (((level (St.see l s2) : Nat) : Int) == (lv : Int)) = true := beq_iff_eq.mpr (by have := HL.out; omega)
          have HR5 := Lib.hid (HR3.out.drewN (n4 + n5))
          have HC5 := Lib.hid (HC3.out.drewN (n4 + n5))
          clear HR3 HC3
          go_wp2_with fail
          refine (see_any HR5.out (by omega) ha2).mono ?_
          rintro e w6 ⟨rfl, n6, rfl⟩
          have HR6 := Lib.hid (HR5.out.drewN n6)
          have HC6 := Lib.hid (HC5.out.drewN n6)
          have hf2 : wr.frozen? ⟨g, 1, none⟩ = false := HR5.out.cells.2.2.2.2.1
          clear HR5 HC5
          go_wp2_with fail
          have e1 : ((s2.at_ : Int) + 1) = ((s2.at_ + 1 : Nat) : Int) := by omega
          have hRa : RdrR g A cap l B ((wr.drewN (n4 + n5 + n6)).setCell ⟨g, 1, none⟩ (.int .i64 (s2.at_ + 1))) s2.adv v3 := by
            rw [e1]
            have := HR6.out.setAt (by decide) (s2.at_ + 1)
            rw [World.drewN_drewN] at this
            exact this
          have HCa : Hid (ChgR g v w ((wr.drewN (n4 + n5 + n6)).setCell ⟨g, 1, none⟩ (.int .i64 (s2.at_ + 1)))) := Lib.hid (by
            have := HC6.out.trans (chg_setG v _ 1 (.int .i64 (s2.at_ + 1)))
            rw [World.drewN_drewN] at this
            exact this)
          have HRa := Lib.hid hRa
          clear e1 hRa hf2 HR6 HC6
          rw [show ((lv : Int) + 1) = ((lv + 1 : Nat) : Int) by omega]
          refine (hone g A cap B _ s2.adv v3 s3 HRa.out (by rw [adv_at]; omega) (by rw [adv_at, adv_out]; omega) (by rw [adv_at]; omega) H3.out).mono ?_
          rintro e w7 ⟨⟨u7, rfl⟩, v7, hR7, hc7, ho7⟩
          have HR7 := Lib.hid hR7
          have HC7 := Lib.hid (HCa.out.then HO3.out hc7)
          have HO7 := Lib.hid (HO3.out.trans HCa.out.size ho7)
          clear hR7 hc7 ho7 HRa HCa
          go_wp2_with fail
          refine (rput_any HR7.out (s2.see l) 0 (by omega)).mono ?_
          rintro e w8 ⟨⟨u8, rfl⟩, v8, hR8, hc8, ho8⟩
          have hm8 : w8.cell? ⟨g, 1, none⟩ = some (.int .i64 s3.at_) := hR8.cells.2.1
          have HR8 := Lib.hid hR8
          have HC8 := Lib.hid (HC7.out.then HO7.out hc8)
          have HO8 := Lib.hid (HO7.out.trans HC7.out.size ho8)
          clear hR8 hc8 ho8
          go_wp2_with fail
          have hs : Tl l lv (s3.put (s2.see l) 0) s' := by
            rcases HCS.out with ⟨h, _⟩ | ⟨_, h⟩
            · exact absurd h hv3
            · exact h
          have HS9 := Lib.hid hs
          clear hs
          go_roundw
          case rel => exact Lib.hid ⟨_, v8, HR8.out, HC8.out, HO8.out, by rw [put_at]; omega, by rw [put_at, put_out]; omega, by rw [put_at]; omega, HS9.out⟩
          case measure => rw [hm8, hm2]; simp [intOf]; omega
end Go.Proofs.YtemoonhnncopoaaGreatDoor
end
section
set_option linter.unusedVariables false
set_option linter.unusedSimpArgs false
namespace Go.Proofs.YtemoonhnncopoaaGreatDoor
open Go.RowKit PX Go.Proofs.YtemoonhnncopoaaGreatDoorW.PrintWords
section
variable {g : Nat} {A : Option Addr} {cap : Nat} {l : List T} {B : Nat} {w : World} {s : St} {v : Value}
theorem Rdr.step (h : RdrR g A cap l B w s v) (n : Nat) : RdrR g A cap l B ((w.drewN n).setCell ⟨g, 1, none⟩ (.int .i64 (s.at_ + 1))) s.adv v ∧ ChgR g v w ((w.drewN n).setCell ⟨g, 1, none⟩ (.int .i64 (s.at_ + 1))) := by
  rw [show ((s.at_ : Int) + 1) = ((s.at_ + 1 : Nat) : Int) by omega]
  exact ⟨(h.drewN n).setAt (by decide) (s.at_ + 1), ((Chg.refl _ w).drewN n).trans (chg_setG v _ 1 _)⟩
theorem Rdr.step0 (h : RdrR g A cap l B w s v) : RdrR g A cap l B (w.setCell ⟨g, 1, none⟩ (.int .i64 (s.at_ + 1))) s.adv v ∧ ChgR g v w (w.setCell ⟨g, 1, none⟩ (.int .i64 (s.at_ + 1))) := by
  rw [show ((s.at_ : Int) + 1) = ((s.at_ + 1 : Nat) : Int) by omega]
  exact ⟨h.setAt (by decide) (s.at_ + 1), (Chg.refl _ w).trans (chg_setG v _ 1 _)⟩
theorem Rdr.fail (h : RdrR g A cap l B w s v) (n : Nat) : RdrR g A cap l B ((w.drewN n).setCell ⟨g, 3, none⟩ (.bool true)) s.fail v ∧ ChgR g v w ((w.drewN n).setCell ⟨g, 3, none⟩ (.bool true)) :=
  ⟨(h.drewN n).setBad (by decide) true, ((Chg.refl _ w).drewN n).trans (chg_setG v _ 3 _)⟩
end
set_option maxHeartbeats 8000000 in
set_option maxRecDepth 100000 in
theorem rone_any (l : List T) (hl : l.length ≤ 100000) (N : Nat) (h6 : OneR l N) (h1 : ReadsR l 1 N) : OneR l (N + 1) := by
  intro g A cap B w s v s' hR hat hout hN hp
  obtain ⟨c0, c1, c2, c3, f1, f2, f3⟩ := hR.cells
  have HR := Lib.hid hR
  clear hR
  cases hp with
  | row hv => omega
  | neg h4 hp1 =>
    rename_i s1
    have H1 := Lib.hid hp1
    clear hp1
    have hlt := see_lt (l := l) (s := s) (by omega)
    have hle := H1.out.le (by omega) (by rw [adv_at]; omega)
    simp only [adv_at, adv_out] at hle
    go_enter Tryz.func118, Tryz.ntmps118
    go_wp2_with fail
    refine (see_any HR.out (by omega) hat).mono ?_
    rw [h4]
    rintro e w1 ⟨rfl, n1, rfl⟩
    go_wp2_with fail
    have HRa := Lib.hid (HR.out.step n1)
    refine (h6 g A cap B _ s.adv v s1 HRa.out.1 (by rw [adv_at]; omega) (by rw [adv_at, adv_out]; omega) (by rw [adv_at]; omega) H1.out).mono ?_
    rintro e w2 ⟨⟨u, rfl⟩, v2, hR2, hc2, ho2⟩
    have HR2 := Lib.hid hR2
    have HO2 := Lib.hid ((Own.refl w v).trans HRa.out.2.size ho2)
    have HC2 := Lib.hid (HRa.out.2.then (Own.refl _ _) hc2)
    clear hR2 hc2 ho2 HRa
    go_wp2_with fail
    refine (rput_any HR2.out 19 0 (by omega)).mono ?_
    rintro e w3 ⟨⟨u3, rfl⟩, v3, hR3, hc3, ho3⟩
    have hd : RdrR g A cap l B w3 (s1.put 19 0) v3 ∧ ChgR g v w w3 ∧ Own w v v3 := ⟨hR3, HC2.out.then HO2.out hc3, HO2.out.trans HC2.out.size ho3⟩
    clear hR3 hc3 ho3
    go_wp2_with fail
    go_end0
    exact ⟨⟨_, rfl⟩, v3, hd⟩
  | leaf hk =>
    have hlt := see_lt (l := l) (s := s) (by omega)
    have hnum : s.num l = (PAll.rd_T91 l s.at_).f1 := by
      unfold St.num
      simp [PAll.rd_T91, List.getD_eq_getElem?_getD]
      rfl
    have HN := Lib.hid hnum
    clear hnum
    have n4 : (s.see l == 4) = false := beq_eq_false_iff_ne.mpr (by omega)
    generalize hsee : s.see l = sk at *
    have HS := Lib.hid hsee
    clear hsee
    obtain ⟨ad, hA, x0, x1, x2⟩ := PAll.at_T91 HR.out.row s.at_ (by omega) (by omega)
    subst hA
    rw [← HN.out] at x1
    simp only [Int.toNat_natCast] at x0 x1 x2
    clear x0 x2
    have p1 : (0 ≤ (s.at_ : Int)) = True := eq_true (by omega)
    have p2 : ((s.at_ : Int) < (l.length : Int)) = True := eq_true (by omega)
    have fin : ∀ (w1 : World) (v1 : Value) (n1 n2 : Nat), RdrR g (some ad) cap l B w1 (s.put sk (s.num l)) v1 → ChgR g v (w.drewN n1) w1 → Own (w.drewN n1) v v1 →
        RdrR g (some ad) cap l B (w1.setCell ⟨g, 1, none⟩ (.int .i64 (s.at_ + 1))) (s.adv.put sk (s.num l)) v1 ∧ ChgR g v w (w1.setCell ⟨g, 1, none⟩ (.int .i64 (s.at_ + 1))) ∧ Own w v v1 := by
      intro w1 v1 n1 n2 hR1 hc1 ho1
      have h := hR1.step0
      refine ⟨h.1, ?_, ho1⟩
      have hc : ChgR g v w w1 := ((Chg.refl _ w).drewN n1).trans hc1
      exact hc.trans (chg_setG v _ 1 _)
    have FIN := Lib.hid fin
    clear fin
    rcases hk with rfl | rfl | rfl | rfl
    all_goals
      go_enter Tryz.func118, Tryz.ntmps118
      go_wp2_with fail
      refine (see_any HR.out (by omega) hat).mono ?_
      rw [HS.out]
      rintro e w1 ⟨rfl, n1, rfl⟩
      go_wp2_with fail
      refine region_quiet_tail 13 (by kernel_rfl) (by kernel_rfl) ?_
      simp only [List.take_succ_cons, List.take_zero, List.drop_succ_cons, List.drop_zero]
      repeat (go_big_quiet_step (fail))
      refine wpQuiet_nil ?_
      intro w' hw'
      obtain ⟨nq, rfl⟩ := hw'
      go_wp2_with fail
      refine (rput_any (HR.out.drewN (n1 + nq)) _ (s.num l) (by omega)).mono ?_
      rintro e w3 ⟨⟨u3, rfl⟩, v3, hR3, hc3, ho3⟩
      have m1 : w3.cell? ⟨g, 1, none⟩ = some (.int .i64 s.at_) := hR3.cells.2.1
      have m2 : w3.frozen? ⟨g, 1, none⟩ = false := hR3.cells.2.2.2.2.1
      have hd := FIN.out w3 v3 (n1 + nq) 0 hR3 hc3 ho3
      clear hR3 hc3 ho3 FIN
      go_wp2_with fail
      go_end0
      exact ⟨⟨_, rfl⟩, v3, hd⟩
  | open_ h17 hp1 h18 =>
    rename_i s1
    have H1 := Lib.hid hp1
    clear hp1
    have hlt := see_lt (l := l) (s := s) (by omega)
    have hle := H1.out.le (by omega) (by rw [adv_at]; omega)
    simp only [adv_at, adv_out] at hle
    go_enter Tryz.func118, Tryz.ntmps118
    go_wp2_with fail
    refine (see_any HR.out (by omega) hat).mono ?_
    rw [h17]
    rintro e w1 ⟨rfl, n1, rfl⟩
    go_wp2_with fail
    have HRa := Lib.hid (HR.out.step n1)
    refine (h1 g A cap B _ s.adv v s1 HRa.out.1 (by rw [adv_at]; omega) (by rw [adv_at, adv_out]; omega) (by rw [adv_at]; omega) H1.out).mono ?_
    rintro e w2 ⟨⟨u, rfl⟩, v2, hR2, hc2, ho2⟩
    have HR2 := Lib.hid hR2
    have HO2 := Lib.hid ((Own.refl w v).trans HRa.out.2.size ho2)
    have HC2 := Lib.hid (HRa.out.2.then (Own.refl _ _) hc2)
    clear hR2 hc2 ho2 HRa
    go_wp2_with fail
    refine (see_any HR2.out (by omega) (by omega)).mono ?_
    rw [h18]
    rintro e w3 ⟨rfl, n3, rfl⟩
    have m1 : w2.cell? ⟨g, 1, none⟩ = some (.int .i64 s1.at_) := HR2.out.cells.2.1
    have m2 : w2.frozen? ⟨g, 1, none⟩ = false := HR2.out.cells.2.2.2.2.1
    have HRb := Lib.hid (HR2.out.step n3)
    go_wp2_with fail
    go_end0
    exact ⟨⟨_, rfl⟩, v2, HRb.out.1, HC2.out.then HO2.out HRb.out.2, HO2.out⟩
  | openBad h17 hp1 h18 =>
    rename_i s1
    have H1 := Lib.hid hp1
    clear hp1
    have hlt := see_lt (l := l) (s := s) (by omega)
    have hle := H1.out.le (by omega) (by rw [adv_at]; omega)
    simp only [adv_at, adv_out] at hle
    have n18 : (s1.see l == 18) = false := beq_eq_false_iff_ne.mpr h18
    generalize hsee : s1.see l = sk at *
    have HS := Lib.hid hsee
    clear hsee h18
    go_enter Tryz.func118, Tryz.ntmps118
    go_wp2_with fail
    refine (see_any HR.out (by omega) hat).mono ?_
    rw [h17]
    rintro e w1 ⟨rfl, n1, rfl⟩
    go_wp2_with fail
    have HRa := Lib.hid (HR.out.step n1)
    refine (h1 g A cap B _ s.adv v s1 HRa.out.1 (by rw [adv_at]; omega) (by rw [adv_at, adv_out]; omega) (by rw [adv_at]; omega) H1.out).mono ?_
    rintro e w2 ⟨⟨u, rfl⟩, v2, hR2, hc2, ho2⟩
    have HR2 := Lib.hid hR2
    have HO2 := Lib.hid ((Own.refl w v).trans HRa.out.2.size ho2)
    have HC2 := Lib.hid (HRa.out.2.then (Own.refl _ _) hc2)
    clear hR2 hc2 ho2 HRa
    go_wp2_with fail
    refine (see_any HR2.out (by omega) (by omega)).mono ?_
    rw [HS.out]
    rintro e w3 ⟨rfl, n3, rfl⟩
    have m1 : w2.cell? ⟨g, 3, none⟩ = some (.bool s1.bad) := HR2.out.cells.2.2.2.1
    have m2 : w2.frozen? ⟨g, 3, none⟩ = false := HR2.out.cells.2.2.2.2.2.2
    have HRb := Lib.hid (HR2.out.fail n3)
    go_wp2_with fail
    go_end0
    exact ⟨⟨_, rfl⟩, v2, HRb.out.1, HC2.out.then HO2.out HRb.out.2, HO2.out⟩
  | none_ hk =>
    have n4 : (s.see l == 4) = false := beq_eq_false_iff_ne.mpr (by omega)
    have n1 : (s.see l == 1) = false := beq_eq_false_iff_ne.mpr (by omega)
    have n2 : (s.see l == 2) = false := beq_eq_false_iff_ne.mpr (by omega)
    have n15 : (s.see l == 15) = false := beq_eq_false_iff_ne.mpr (by omega)
    have n16 : (s.see l == 16) = false := beq_eq_false_iff_ne.mpr (by omega)
    have n17 : (s.see l == 17) = false := beq_eq_false_iff_ne.mpr (by omega)
    generalize hsee : s.see l = sk at *
    have HS := Lib.hid hsee
    clear hsee hk
    go_enter Tryz.func118, Tryz.ntmps118
    go_wp2_with fail
    refine (see_any HR.out (by omega) hat).mono ?_
    rw [HS.out]
    rintro e w3 ⟨rfl, n3, rfl⟩
    have HRb := Lib.hid (HR.out.fail n3)
    go_wp2_with fail
    go_end0
    exact ⟨⟨_, rfl⟩, v, HRb.out.1, HRb.out.2, Own.refl _ _⟩
theorem rreads_all (l : List T) (hl : l.length ≤ 100000) (N : Nat) : (∀ lv, 1 ≤ lv → lv ≤ 6 → ReadsR l lv N) ∧ OneR l N := by
  induction N with
  | zero => exact ⟨fun lv _ _ g A cap B w s v s' _ _ _ h => by omega, fun g A cap B w s v s' _ _ _ h => by omega⟩
  | succ N ih =>
    refine ⟨fun lv h1 h6 => ?_, rone_any l hl N ih.2 (ih.1 1 (by omega) (by omega))⟩
    by_cases h : lv = 6
    · subst h; exact read6_any l N ih.2
    · exact read_any l hl lv N h1 (by omega) (ih.1 _ (by omega) (by omega)) (ih.1 3 (by omega) (by omega))
end Go.Proofs.YtemoonhnncopoaaGreatDoor
end
section
set_option linter.unusedVariables false
set_option linter.unusedSimpArgs false
namespace Go.Proofs.YtemoonhnncopoaaGreatDoor
open Go.RowKit PX Go.Proofs.YtemoonhnncopoaaGreatDoorW.PrintWords
theorem bt_at' (s : ByteArray) (i : Nat) (h : i < s.data.toList.length) : bt s (i : Int) = ((s.data.toList[i]).toNat : Int) := by
  have h' : i < s.size := by simpa using h
  unfold bt
  rw [dif_pos (by simpa using h')]
  rfl
theorem u8_eq (c d : UInt8) : ((c.toNat : Int) = (d.toNat : Int)) ↔ c = d := by
  constructor
  · intro h; exact UInt8.toNat_inj.1 (by omega)
  · rintro rfl; rfl
theorem u8_ne {c d : UInt8} (h : c ≠ d) : ¬ ((c.toNat : Int) = (d.toNat : Int)) := fun e => h ((u8_eq c d).1 e)
theorem sign_j1 (s : ByteArray) (c : UInt8) (r : List UInt8) (hs : s.data.toList = c :: r) : Ev (fun k => PAll.spinetref02_sign.j1 k s) (signOf.oneSign c, if signOf.oneSign c = 0 then 0 else 1) := by
  have hz : (0 : Int) < (s.size : Int) := by
    have : s.data.toList.length = s.size := by simp
    rw [hs] at this; simp at this; omega
  have hb : bt s 0 = (c.toNat : Int) := by
    have := bt_at' s 0 (by rw [hs]; simp)
    simp only [hs] at this
    simpa using this
  refine Ev.step (fun k => rfl) ?_
  simp only [PAll.spinetref02_sign.j1]
  simp only [if_pos hz, hb]
  by_cases e1 : c = 43
  · subst e1; exact Ev.now _
  by_cases e2 : c = 45
  · subst e2; exact Ev.now _
  by_cases e3 : c = 42
  · subst e3; exact Ev.now _
  by_cases e4 : c = 47
  · subst e4; exact Ev.now _
  by_cases e5 : c = 37
  · subst e5; exact Ev.now _
  by_cases e6 : c = 60
  · subst e6; exact Ev.now _
  by_cases e7 : c = 40
  · subst e7; exact Ev.now _
  by_cases e8 : c = 41
  · subst e8; exact Ev.now _
  have f1 : ¬ (c.toNat : Int) = 43 := u8_ne e1
  have f2 : ¬ (c.toNat : Int) = 45 := u8_ne e2
  have f3 : ¬ (c.toNat : Int) = 42 := u8_ne e3
  have f4 : ¬ (c.toNat : Int) = 47 := u8_ne e4
  have f5 : ¬ (c.toNat : Int) = 37 := u8_ne e5
  have f6 : ¬ (c.toNat : Int) = 60 := u8_ne e6
  have f7 : ¬ (c.toNat : Int) = 40 := u8_ne e7
  have f8 : ¬ (c.toNat : Int) = 41 := u8_ne e8
  simp only [if_neg f1, if_neg f2, if_neg f3, if_neg f4, if_neg f5, if_neg f6, if_neg f7, if_neg f8]
  simp only [signOf.oneSign, if_neg e1, if_neg e2, if_neg e3, if_neg e4, if_neg e5, if_neg e6, if_neg e7, if_neg e8]
  exact Ev.now _
theorem sign_ev (s : ByteArray) (h : 0 < s.size) : Ev (fun k => PAll.spinetref02_sign.f k s) ((signOf s.data.toList).1, ((signOf s.data.toList).2 : Int)) := by
  have hl : s.data.toList.length = s.size := by simp
  obtain ⟨c, r, hs⟩ : ∃ c r, s.data.toList = c :: r := by
    cases hh : s.data.toList with
    | nil => rw [hh] at hl; simp at hl; omega
    | cons c r => exact ⟨c, r, rfl⟩
  have hb : bt s 0 = (c.toNat : Int) := by
    have := bt_at' s 0 (by rw [hs]; simp)
    simp only [hs] at this
    simpa using this
  have hz : (0 : Int) < (s.size : Int) := by omega
  have j1 := sign_j1 s c r hs
  cases r with
  | nil =>
    have h1 : ¬ (s.size : Int) > 1 := by rw [hs] at hl; simp at hl; omega
    rw [hs]
    unfold PAll.spinetref02_sign.f
    simp only [if_neg h1]
    refine Ev.step (fun k => rfl) ?_
    simp only [PAll.spinetref02_sign.j0]
    simp only [Bool.false_eq_true, if_false]
    simp only [signOf]
    have e : (((if signOf.oneSign c = 0 then 0 else 1 : Nat)) : Int) = if signOf.oneSign c = 0 then 0 else 1 := by split <;> rfl
    rw [e]
    exact j1
  | cons d r =>
    have h1 : (s.size : Int) > 1 := by rw [hs] at hl; simp at hl; omega
    have hb1 : bt s 1 = (d.toNat : Int) := by
      have := bt_at' s 1 (by rw [hs]; simp)
      simp only [hs] at this
      simpa using this
    have e : (((if signOf.oneSign c = 0 then 0 else 1 : Nat)) : Int) = if signOf.oneSign c = 0 then 0 else 1 := by split <;> rfl
    rw [hs]
    unfold PAll.spinetref02_sign.f
    simp only [if_pos h1, hb1]
    refine Ev.step (fun k => rfl) ?_
    simp only [PAll.spinetref02_sign.j0]
    by_cases hd : d = 61
    · subst hd
      have q : (((61 : UInt8).toNat : Int) == 61) = true := rfl
      simp only [q, if_true, if_pos hz, hb]
      by_cases e1 : c = 60
      · subst e1; exact Ev.now _
      by_cases e2 : c = 61
      · subst e2; exact Ev.now _
      by_cases e3 : c = 33
      · subst e3; exact Ev.now _
      have f1 : ¬ (c.toNat : Int) = 60 := u8_ne e1
      have f2 : ¬ (c.toNat : Int) = 61 := u8_ne e2
      have f3 : ¬ (c.toNat : Int) = 33 := u8_ne e3
      simp only [if_neg f1, if_neg f2, if_neg f3]
      simp only [signOf]
      rw [if_neg (fun h => e1 h.2), if_neg (fun h => e2 h.2), if_neg (fun h => e3 h.2), e]
      exact j1
    · have q : ((d.toNat : Int) == 61) = false := beq_eq_false_iff_ne.mpr (u8_ne hd)
      simp only [q, Bool.false_eq_true, if_false]
      simp only [signOf]
      rw [if_neg (fun h => hd h.1), if_neg (fun h => hd h.1), if_neg (fun h => hd h.1), e]
      exact j1
theorem word_f (s : ByteArray) : PAll.spinetref02_Word.f s = some (wordOf s.data.toList) := by
  unfold PAll.spinetref02_Word.f wordOf
  rw [ByteArray.toList_eq]
  split <;> (try split) <;> (try split) <;> (try split) <;> (try split) <;> rfl
theorem drop_cons (s : ByteArray) (k : Nat) (h : k < s.size) : s.data.toList.drop k = s[k] :: s.data.toList.drop (k + 1) := List.drop_eq_getElem_cons (by simpa using h)
theorem bt_get (s : ByteArray) (k : Nat) (h : k < s.size) : bt s (k : Int) = ((s[k]).toNat : Int) := bt_at' s k (by simpa using h)
theorem over_iff (n d : Int) (_hn : 0 ≤ n) (hd : 0 ≤ d) (hd9 : d ≤ 9) : (n > IntKind.u64.wrap (Int.tdiv (IntKind.u64.wrap (9223372036854775807 - d)) 10)) ↔ 9223372036854775807 < 10 * n + d := by
  rw [IntKind.wrap_u64, IntKind.wrap_u64]
  rw [Int.emod_eq_of_lt (by omega : (0 : Int) ≤ 9223372036854775807 - d) (by omega)]
  rw [Int.tdiv_eq_ediv_of_nonneg (by omega)]
  rw [Int.emod_eq_of_lt (by omega) (by omega)]
  omega
theorem digit_ge (c : UInt8) : isDigit c = true ↔ (48 : Int) ≤ c.toNat ∧ (c.toNat : Int) ≤ 57 := by
  simp only [isDigit, Bool.and_eq_true, decide_eq_true_eq]; omega
theorem letter_ge (c : UInt8) : isLetter c = true ↔ (97 : Int) ≤ c.toNat ∧ (c.toNat : Int) ≤ 122 := by
  simp only [isLetter, Bool.and_eq_true, decide_eq_true_eq]; omega
abbrev dfold (m : Nat) (l : List UInt8) : Nat := l.foldl (fun n c => 10 * n + (c.toNat - 48)) m
theorem l1_ev (s : ByteArray) (hs : s.size ≤ 100000) (xs : List T) (a : Nat) (hx : xs.length ≤ 100000) (R : List T × Int) (d : Nat) : ∀ (tq m : Nat) (n : Int) (big : Bool), tq ≤ s.size → s.size - tq = d → (big = false → n = (m : Int) ∧ m ≤ 9223372036854775807) → (big = true → 9223372036854775807 < m ∧ 0 ≤ n) →
    Ev (fun k => if dfold m ((s.data.toList.drop tq).takeWhile isDigit) ≤ 9223372036854775807 then PAll.spinetref02_Tokens.l0 k s (xs ++ [⟨1, (dfold m ((s.data.toList.drop tq).takeWhile isDigit) : Nat), a⟩]) ((tq + ((s.data.toList.drop tq).takeWhile isDigit).length : Nat) : Int) else some ([], (a : Int))) R →
    Ev (fun k => PAll.spinetref02_Tokens.l1 k s xs a tq n big) R := by
  induction d with
  | zero =>
    intro tq m n big ht hd hf hb h
    obtain rfl : tq = s.size := by omega
    have e : s.data.toList.drop s.size = [] := List.drop_of_length_le (by simp)
    simp only [e, List.takeWhile_nil, List.length_nil, Nat.add_zero, dfold, List.foldl_nil] at h
    refine Ev.step (fun k => rfl) ?_
    simp only [PAll.spinetref02_Tokens.l1, if_neg (Int.lt_irrefl _)]
    refine Ev.step (fun k => rfl) ?_
    simp only [PAll.spinetref02_Tokens.j3, Bool.false_eq_true, if_false]
    cases big with
    | true =>
      obtain ⟨h1, _⟩ := hb rfl
      simp only [show ¬ m ≤ 9223372036854775807 by omega, if_false] at h
      simpa using h
    | false =>
      obtain ⟨rfl, h1⟩ := hf rfl
      simp only [h1, if_true] at h
      simp only [Bool.false_eq_true, if_false]
      rw [w64 (by omega) (by omega)]
      simp only [if_pos (show xs.length < 5864062014805 by omega)]
      exact h
  | succ d ih =>
    intro tq m n big ht hd hf hb h
    have hlt : tq < s.size := by omega
    rw [drop_cons s tq hlt] at h
    have hi : ((tq : Nat) : Int) < (s.size : Int) := by omega
    have h0 : (0 : Int) ≤ (tq : Int) := by omega
    have hbt := bt_get s tq hlt
    have he : wrap64 ((tq : Int) + 1) = ((tq + 1 : Nat) : Int) := by rw [w64 (by omega) (by omega)]; omega
    refine Ev.step (fun k => rfl) ?_
    simp only [PAll.spinetref02_Tokens.l1, if_pos hi, if_pos h0, hbt]
    cases hdig : isDigit s[tq] with
    | true =>
      rw [List.takeWhile_cons, if_pos hdig] at h
      have hg := (digit_ge _).1 hdig
      simp only [if_pos (show ((s[tq].toNat : Nat) : Int) ≥ 48 from hg.1), decide_eq_true hg.2]
      refine Ev.step (fun k => rfl) ?_
      simp only [PAll.spinetref02_Tokens.j3, if_true, if_pos hi, if_pos h0, hbt]
      have ew : IntKind.u64.wrap (IntKind.u64.wrap ((s[tq].toNat : Nat) : Int) - 48) = ((s[tq].toNat : Nat) : Int) - 48 := by rw [IntKind.wrap_u64, IntKind.wrap_u64]; omega
      rw [ew, he]
      have hfold : ∀ l, dfold m (s[tq] :: l) = dfold (10 * m + (s[tq].toNat - 48)) l := fun l => rfl
      simp only [hfold, List.length_cons] at h
      rw [show tq + (((s.data.toList.drop (tq + 1)).takeWhile isDigit).length + 1) = tq + 1 + ((s.data.toList.drop (tq + 1)).takeWhile isDigit).length by omega] at h
      by_cases hov : n > IntKind.u64.wrap (Int.tdiv (IntKind.u64.wrap (9223372036854775807 - (((s[tq].toNat : Nat) : Int) - 48))) 10)
      · simp only [if_pos hov]
        have h10 := (over_iff n _ (by cases big with | true => exact (hb rfl).2 | false => (have := (hf rfl).1; omega)) (by omega) (by omega)).1 hov
        refine ih (tq + 1) (10 * m + (s[tq].toNat - 48)) n true (by omega) (by omega) (by simp) (fun _ => ?_) h
        cases big with
        | false => obtain ⟨rfl, _⟩ := hf rfl; omega
        | true => obtain ⟨q1, q2⟩ := hb rfl; omega
      · simp only [if_neg hov]
        cases big with
        | true =>
          simp only [if_true]
          obtain ⟨q1, q2⟩ := hb rfl
          exact ih (tq + 1) (10 * m + (s[tq].toNat - 48)) n true (by omega) (by omega) (by simp) (fun _ => ⟨by omega, q2⟩) h
        | false =>
          simp only [Bool.false_eq_true, if_false]
          obtain ⟨rfl, q1⟩ := hf rfl
          have hov' : ¬ (9223372036854775807 : Int) < 10 * (m : Int) + (((s[tq].toNat : Nat) : Int) - 48) := fun e => hov ((over_iff (m : Int) _ (by omega) (by omega) (by omega)).2 e)
          refine ih (tq + 1) (10 * m + (s[tq].toNat - 48)) _ false (by omega) (by omega) (fun _ => ⟨?_, by omega⟩) (by simp) h
          rw [IntKind.wrap_u64, IntKind.wrap_u64]; omega
    | false =>
      rw [List.takeWhile_cons, if_neg (by simp [hdig])] at h
      simp only [List.length_nil, Nat.add_zero, dfold, List.foldl_nil] at h
      have hnd : (if ((s[tq].toNat : Nat) : Int) ≥ 48 then (decide (((s[tq].toNat : Nat) : Int) ≤ 57)) else false) = false := by
        by_cases hg : ((s[tq].toNat : Nat) : Int) ≥ 48
        · rw [if_pos hg]
          exact decide_eq_false (fun e => by have := (digit_ge s[tq]).2 ⟨hg, e⟩; rw [hdig] at this; cases this)
        · rw [if_neg hg]
      have hsw : ∀ k, (if ((s[tq].toNat : Nat) : Int) ≥ 48 then PAll.spinetref02_Tokens.j3 k s xs a tq n big (decide (((s[tq].toNat : Nat) : Int) ≤ 57)) else PAll.spinetref02_Tokens.j3 k s xs a tq n big false) = PAll.spinetref02_Tokens.j3 k s xs a tq n big false := by
        intro k
        by_cases hg : ((s[tq].toNat : Nat) : Int) ≥ 48
        · rw [if_pos hg] at hnd ⊢; rw [hnd]
        · rw [if_neg hg]
      simp only [hsw]
      refine Ev.step (fun k => rfl) ?_
      simp only [PAll.spinetref02_Tokens.j3, Bool.false_eq_true, if_false]
      cases big with
      | true =>
        obtain ⟨h1, _⟩ := hb rfl
        simp only [show ¬ m ≤ 9223372036854775807 by omega, if_false] at h
        simpa using h
      | false =>
        obtain ⟨rfl, h1⟩ := hf rfl
        simp only [h1, if_true] at h
        simp only [Bool.false_eq_true, if_false]
        rw [w64 (by omega) (by omega)]
        simp only [if_pos (show xs.length < 5864062014805 by omega)]
        exact h
theorem l2_ev (s : ByteArray) (hs : s.size ≤ 100000) (xs : List T) (a : Nat) (c : Int) (R : List T × Int) (d : Nat) : ∀ (tq : Nat), tq ≤ s.size → s.size - tq = d →
    Ev (fun k => PAll.spinetref02_Tokens.j6 k s xs a c ((tq + ((s.data.toList.drop tq).takeWhile isLetter).length : Nat) : Int)) R →
    Ev (fun k => PAll.spinetref02_Tokens.l2 k s xs a c tq) R := by
  induction d with
  | zero =>
    intro tq ht hd h
    obtain rfl : tq = s.size := by omega
    have e : s.data.toList.drop s.size = [] := List.drop_of_length_le (by simp)
    simp only [e, List.takeWhile_nil, List.length_nil, Nat.add_zero] at h
    refine Ev.step (fun k => rfl) ?_
    simp only [PAll.spinetref02_Tokens.l2, if_neg (Int.lt_irrefl _)]
    exact h
  | succ d ih =>
    intro tq ht hd h
    have hlt : tq < s.size := by omega
    rw [drop_cons s tq hlt] at h
    have hi : ((tq : Nat) : Int) < (s.size : Int) := by omega
    have h0 : (0 : Int) ≤ (tq : Int) := by omega
    have hbt := bt_get s tq hlt
    have he : wrap64 ((tq : Int) + 1) = ((tq + 1 : Nat) : Int) := by rw [w64 (by omega) (by omega)]; omega
    refine Ev.step (fun k => rfl) ?_
    simp only [PAll.spinetref02_Tokens.l2, if_pos hi, if_pos h0, hbt]
    cases hdig : isLetter s[tq] with
    | true =>
      rw [List.takeWhile_cons, if_pos hdig] at h
      have hg := (letter_ge _).1 hdig
      simp only [if_pos (show ((s[tq].toNat : Nat) : Int) ≥ 97 from hg.1), if_pos hg.2, he]
      simp only [List.length_cons] at h
      rw [show tq + (((s.data.toList.drop (tq + 1)).takeWhile isLetter).length + 1) = tq + 1 + ((s.data.toList.drop (tq + 1)).takeWhile isLetter).length by omega] at h
      exact ih (tq + 1) (by omega) (by omega) h
    | false =>
      rw [List.takeWhile_cons, if_neg (by simp [hdig])] at h
      simp only [List.length_nil, Nat.add_zero] at h
      by_cases hg : ((s[tq].toNat : Nat) : Int) ≥ 97
      · simp only [if_pos hg, if_neg (show ¬ ((s[tq].toNat : Nat) : Int) ≤ 122 from fun e => by have := (letter_ge s[tq]).2 ⟨hg, e⟩; rw [hdig] at this; cases this)]
        exact h
      · simp only [if_neg hg]
        exact h
def toldFrom (xs : List T) (r : List T × Option Nat) : List T × Int := match r.2 with
  | none => (xs ++ r.1, -1)
  | some a => ([], (a : Int))
theorem toldFrom_cons (xs : List T) (t : T) (r : List T × Option Nat) : toldFrom (xs ++ [t]) r = toldFrom xs (t :: r.1, r.2) := by
  obtain ⟨ts, o⟩ := r
  cases o <;> simp [toldFrom]
theorem extract_at (s : ByteArray) (a b : Nat) : (s.extract a b).data.toList = (s.data.toList.drop a).take (b - a) := by
  simp [ByteArray.data_extract, Array.toList_extract, List.extract_eq_take_drop]
set_option maxHeartbeats 2000000 in
theorem l0_ev (s : ByteArray) (hs : s.size ≤ 10000) (d : Nat) : ∀ (a : Nat) (xs : List T), a ≤ s.size → s.size - a = d → xs.length ≤ a →
    Ev (fun k => PAll.spinetref02_Tokens.l0 k s xs a) (toldFrom xs (lexAt (s.data.toList.drop a) a)) := by
  induction d using Nat.strongRecOn with
  | _ d ih =>
    intro a xs ha hd hx
    by_cases hlt : a < s.size
    · have hi : ((a : Nat) : Int) < (s.size : Int) := by omega
      have h0 : (0 : Int) ≤ (a : Int) := by omega
      have hbt := bt_get s a hlt
      have hdc := drop_cons s a hlt
      have hsz : s.data.toList.length = s.size := by simp
      refine Ev.step (fun k => rfl) ?_
      simp only [PAll.spinetref02_Tokens.l0, if_pos hi, if_pos h0, hbt]
      by_cases h32 : s[a] = 32
      · have q : ((s[a].toNat : Nat) : Int) = 32 := (u8_eq s[a] 32).2 h32
        simp only [if_pos q]
        rw [w64 (by omega) (by omega), hdc, h32, lexAt_space]
        exact ih (s.size - (a + 1)) (by omega) (a + 1) xs (by omega) rfl (by omega)
      · have q : ¬ ((s[a].toNat : Nat) : Int) = 32 := u8_ne h32
        simp only [if_neg q]
        have hdig : (if ((s[a].toNat : Nat) : Int) ≥ 48 then (decide (((s[a].toNat : Nat) : Int) ≤ 57)) else false) = isDigit s[a] := by
          rw [Bool.eq_iff_iff, digit_ge]
          by_cases hg : ((s[a].toNat : Nat) : Int) ≥ 48
          · rw [if_pos hg]; simp; omega
          · rw [if_neg hg]; simp; omega
        have hsw : ∀ k, (if ((s[a].toNat : Nat) : Int) ≥ 48 then PAll.spinetref02_Tokens.j1 k s xs a s[a].toNat a (decide (((s[a].toNat : Nat) : Int) ≤ 57)) else PAll.spinetref02_Tokens.j1 k s xs a s[a].toNat a false) = PAll.spinetref02_Tokens.j1 k s xs a s[a].toNat a (isDigit s[a]) := by
          intro k
          rw [← hdig]
          by_cases hg : ((s[a].toNat : Nat) : Int) ≥ 48
          · rw [if_pos hg, if_pos hg]
          · rw [if_neg hg, if_neg hg]
        simp only [hsw]
        refine Ev.step (fun k => rfl) ?_
        simp only [PAll.spinetref02_Tokens.j1]
        cases hD : isDigit s[a] with
        | true =>
          simp only [if_true]
          have hpos : 0 < ((s.data.toList.drop a).takeWhile isDigit).length := by rw [hdc, List.takeWhile_cons, if_pos hD]; simp
          have hle := takeWhile_le isDigit (s.data.toList.drop a)
          rw [List.length_drop, hsz] at hle
          refine l1_ev s (by omega) xs a (by omega) _ (s.size - a) a 0 0 false ha rfl (fun _ => ⟨rfl, by omega⟩) (by simp) ?_
          have hn : dfold 0 ((s.data.toList.drop a).takeWhile isDigit) = numOf ((s.data.toList.drop a).takeWhile isDigit) := rfl
          rw [hn]
          have hf : first (s.data.toList.drop a) = if numOf ((s.data.toList.drop a).takeWhile isDigit) ≤ 9223372036854775807 then some (1, (numOf ((s.data.toList.drop a).takeWhile isDigit) : Int), ((s.data.toList.drop a).takeWhile isDigit).length) else none := by
            rw [first, if_pos hpos]
          by_cases hm : numOf ((s.data.toList.drop a).takeWhile isDigit) ≤ 9223372036854775807
          · rw [if_pos hm] at hf
            simp only [if_pos hm]
            rw [hdc] at hf
            rw [hdc, lexAt_tok h32 hf, ← hdc, List.drop_drop, ← toldFrom_cons]
            exact ih (s.size - (a + ((s.data.toList.drop a).takeWhile isDigit).length)) (by omega) _ _ (by omega) rfl (by simp; omega)
          · rw [if_neg hm] at hf
            simp only [if_neg hm]
            rw [hdc] at hf
            rw [hdc, lexAt_bad h32 hf]
            exact Ev.now _
        | false =>
          simp only [Bool.false_eq_true, if_false]
          have hd0 : ¬ 0 < ((s.data.toList.drop a).takeWhile isDigit).length := by rw [hdc, List.takeWhile_cons, if_neg (by simp [hD])]; simp
          have hlet : (if ((s[a].toNat : Nat) : Int) ≥ 97 then (decide (((s[a].toNat : Nat) : Int) ≤ 122)) else false) = isLetter s[a] := by
            rw [Bool.eq_iff_iff, letter_ge]
            by_cases hg : ((s[a].toNat : Nat) : Int) ≥ 97
            · rw [if_pos hg]; simp; omega
            · rw [if_neg hg]; simp; omega
          have hsw : ∀ k, (if ((s[a].toNat : Nat) : Int) ≥ 97 then PAll.spinetref02_Tokens.j4 k s xs a s[a].toNat a (decide (((s[a].toNat : Nat) : Int) ≤ 122)) else PAll.spinetref02_Tokens.j4 k s xs a s[a].toNat a false) = PAll.spinetref02_Tokens.j4 k s xs a s[a].toNat a (isLetter s[a]) := by
            intro k
            rw [← hlet]
            by_cases hg : ((s[a].toNat : Nat) : Int) ≥ 97
            · rw [if_pos hg, if_pos hg]
            · rw [if_neg hg, if_neg hg]
          simp only [hsw]
          refine Ev.step (fun k => rfl) ?_
          simp only [PAll.spinetref02_Tokens.j4]
          have hxl : xs.length < 5864062014805 := by omega
          cases hL : isLetter s[a] with
          | true =>
            simp only [if_true]
            have hg := (letter_ge _).1 hL
            have hpos : 0 < ((s.data.toList.drop a).takeWhile isLetter).length := by rw [hdc, List.takeWhile_cons, if_pos hL]; simp
            have hle := takeWhile_le isLetter (s.data.toList.drop a)
            rw [List.length_drop, hsz] at hle
            refine l2_ev s (by omega) xs a _ _ (s.size - a) a ha rfl ?_
            have hwd : (s.extract ((a : Nat) : Int).toNat (((a + ((s.data.toList.drop a).takeWhile isLetter).length : Nat) : Int)).toNat).data.toList = (s.data.toList.drop a).takeWhile isLetter := by
              rw [Int.toNat_natCast, Int.toNat_natCast, extract_at, show a + ((s.data.toList.drop a).takeWhile isLetter).length - a = ((s.data.toList.drop a).takeWhile isLetter).length by omega, take_takeWhile]
            have hf : first (s.data.toList.drop a) = if ((s.data.toList.drop a).takeWhile isLetter).length = 1 then some (2, (((s.data.toList.drop a).headD 0).toNat : Int) - 97, 1)
                else if wordOf ((s.data.toList.drop a).takeWhile isLetter) = 0 then none else some (wordOf ((s.data.toList.drop a).takeWhile isLetter), 0, ((s.data.toList.drop a).takeWhile isLetter).length) := by
              rw [first, if_neg hd0, if_pos hpos]
            refine Ev.step (fun k => rfl) ?_
            simp only [PAll.spinetref02_Tokens.j6]
            have c1 : ((a : Nat) : Int) ≤ ((a + ((s.data.toList.drop a).takeWhile isLetter).length : Nat) : Int) := by omega
            have c2 : ((a + ((s.data.toList.drop a).takeWhile isLetter).length : Nat) : Int) ≤ (s.size : Int) := by omega
            refine ev_pos h0 (ev_pos c1 (ev_pos c2 ?_))
            have hwf := word_f (s.extract ((a : Nat) : Int).toNat (((a + ((s.data.toList.drop a).takeWhile isLetter).length : Nat) : Int)).toNat)
            rw [hwd] at hwf
            clear hwd
            generalize wordOf ((s.data.toList.drop a).takeWhile isLetter) = wd at *
            refine ev_bind hwf ?_
            by_cases h1 : ((s.data.toList.drop a).takeWhile isLetter).length = 1
            · rw [if_pos h1] at hf
              rw [hdc, List.headD_cons] at hf
              have g1 : s.size - (a + 1) < d := by omega
              have g2 : a + 1 ≤ s.size := by omega
              have g3 : (xs ++ [(⟨2, (s[a].toNat : Int) - 97, a⟩ : T)]).length ≤ a + 1 := by rw [List.length_append]; exact Nat.add_le_add_right hx 1
              have c3 : ((a + ((s.data.toList.drop a).takeWhile isLetter).length : Nat) : Int) = wrap64 ((a : Int) + 1) := by rw [w64 (by omega) (by omega)]; omega
              refine ev_pos c3 (ev_pos hxl ?_)
              clear c3
              have hq := lexAt_tok (c := s[a]) (l := s.data.toList.drop (a + 1)) h32 hf a
              have e1 : wrap64 (wrap64 ((s[a].toNat : Nat) : Int) - 97) = (s[a].toNat : Int) - 97 := by
                rw [w64 (x := ((s[a].toNat : Nat) : Int)) (by omega) (by omega), w64 (by omega) (by omega)]
              have e2 : ((a + ((s.data.toList.drop a).takeWhile isLetter).length : Nat) : Int) = ((a + 1 : Nat) : Int) := by rw [h1]
              rw [← hdc, List.drop_drop] at hq
              rw [hq, ← toldFrom_cons, e1, e2]
              exact ih (s.size - (a + 1)) g1 (a + 1) (xs ++ [(⟨2, (s[a].toNat : Int) - 97, a⟩ : T)]) g2 rfl g3
            · rw [if_neg h1] at hf
              have c3 : ¬ ((a + ((s.data.toList.drop a).takeWhile isLetter).length : Nat) : Int) = wrap64 ((a : Int) + 1) := by rw [w64 (by omega) (by omega)]; omega
              refine ev_neg c3 ?_
              clear c3
              by_cases hw : wd = 0
              · rw [if_pos hw] at hf
                refine ev_pos hw ?_
                rw [hdc] at hf
                rw [hdc, lexAt_bad h32 hf]
                exact Ev.now _
              · rw [if_neg hw] at hf
                refine ev_neg hw (ev_pos hxl ?_)
                rw [hdc] at hf
                rw [hdc, lexAt_tok h32 hf, ← hdc, List.drop_drop, ← toldFrom_cons]
                exact ih (s.size - (a + ((s.data.toList.drop a).takeWhile isLetter).length)) (by omega) _ _ (by omega) rfl (by simp; omega)
          | false =>
            simp only [Bool.false_eq_true, if_false]
            have hl0 : ¬ 0 < ((s.data.toList.drop a).takeWhile isLetter).length := by rw [hdc, List.takeWhile_cons, if_neg (by simp [hL])]; simp
            have hf : first (s.data.toList.drop a) = if (signOf (s.data.toList.drop a)).2 = 0 then none else some ((signOf (s.data.toList.drop a)).1, 0, (signOf (s.data.toList.drop a)).2) := by
              rw [first, if_neg hd0, if_neg hl0]
            have hex : (s.extract ((a : Nat) : Int).toNat s.size).data.toList = s.data.toList.drop a := by
              rw [Int.toNat_natCast, extract_at, List.take_of_length_le (by simp)]
            have hsg := sign_ev (s.extract ((a : Nat) : Int).toNat s.size) (by rw [ByteArray.size_extract, Int.toNat_natCast]; omega)
            rw [hex] at hsg
            have hsl := signOf_le (s.data.toList.drop a)
            rw [List.length_drop, hsz] at hsl
            refine ev_pos h0 (ev_pos (show ((a : Nat) : Int) ≤ (s.size : Int) by omega) ?_)
            refine Ev.bind hsg ?_
            by_cases hw : (signOf (s.data.toList.drop a)).2 = 0
            · rw [if_pos hw] at hf
              refine ev_pos (show (((signOf (s.data.toList.drop a)).2 : Nat) : Int) = 0 by omega) ?_
              rw [hdc] at hf
              rw [hdc, lexAt_bad h32 hf]
              exact Ev.now _
            · rw [if_neg hw] at hf
              refine ev_neg (show ¬ (((signOf (s.data.toList.drop a)).2 : Nat) : Int) = 0 by omega) (ev_pos hxl ?_)
              have hq := lexAt_tok (c := s[a]) (l := s.data.toList.drop (a + 1)) h32 (by rw [← hdc]; exact hf) a
              rw [← hdc, List.drop_drop] at hq
              rw [hq, ← toldFrom_cons, w64 (by omega) (by omega)]
              have := ih (s.size - (a + (signOf (s.data.toList.drop a)).2)) (by omega) (a + (signOf (s.data.toList.drop a)).2) (xs ++ [⟨(signOf (s.data.toList.drop a)).1, 0, a⟩]) (by omega) rfl (by simp; omega)
              rw [show ((a + (signOf (s.data.toList.drop a)).2 : Nat) : Int) = (a : Int) + ((signOf (s.data.toList.drop a)).2 : Int) by omega] at this
              exact this
    · obtain rfl : a = s.size := by omega
      rw [List.drop_of_length_le (by simp), lexAt_nil]
      refine Ev.step (fun k => rfl) ?_
      simp only [PAll.spinetref02_Tokens.l0, if_neg (Int.lt_irrefl _)]
      simp only [toldFrom, List.append_nil]
      exact Ev.now _
theorem refTokens_f (s : ByteArray) (hs : s.size ≤ 10000) : ∃ k, PAll.spinetref02_Tokens.f k s = some (toldFrom [] (lexAt s.data.toList 0)) := by
  have := l0_ev s hs s.size 0 [] (by omega) (by omega) (by simp)
  exact Ev.rounds this
end Go.Proofs.YtemoonhnncopoaaGreatDoor
end
section
set_option linter.unusedVariables false
set_option linter.unusedSimpArgs false
namespace Go.Proofs.YtemoonhnncopoaaGreatDoor
open Go.RowKit PX Go.Proofs.YtemoonhnncopoaaGreatDoorW.PrintWords
def Er.bad : Er → Int
  | .none => 0
  | .code c => c
  | .spot _ c => c
def Er.place : Er → Int
  | .none => -1
  | .code _ => -1
  | .spot a _ => a
set_option maxHeartbeats 8000000 in
set_option maxRecDepth 100000 in
theorem rparse_any (s : ByteArray) (hs : s.size ≤ 281474976710656) (w : World) (r : List T × Er) (hr : Parsed s.data.toList r) :
    Calls Tryz.prog 52 #[.string s] w fun e w' => ∃ v, e = .returned (.tuple #[v, .int .i64 r.2.bad, .int .i64 r.2.place]) ∧ Toks w' w.heap.size v r.1 ∧ Below w.heap.size w w' := by
  have hsz : s.data.toList.length = s.size := by simp
  by_cases h2 : 200 < s.size
  · have hx : r = ([], .code 3) := by
      have hl : lexed s.data.toList = ([], .code 3) := by rw [lexed, if_pos (by omega)]
      unfold Parsed at hr
      rw [hl] at hr
      exact hr
    subst hx
    clear hr hsz
    go_enter Tryz.func52, Tryz.ntmps52
    go_wp2_with fail
    go_ret3
    exact ⟨_, rfl, Kd.R_nil _ _ _ _ _, Below.refl _ _⟩
  have hx : lexed s.data.toList = match (lexAt s.data.toList 0).2 with
      | none => ((lexAt s.data.toList 0).1, .none)
      | some a => ([], .spot a 2) := by rw [lexed, if_neg (by omega)]; rfl
  obtain ⟨k, hk⟩ := refTokens_f s (by omega)
  have hlx := lexAt_len s.data.toList 0
  rw [hsz] at hlx
  cases hlr : lexAt s.data.toList 0 with
  | mk l o =>
    rw [hlr] at hx hk hlx
    clear hlr
    cases o with
    | some a =>
      have hx' : r = ([], .spot a 2) := by
        unfold Parsed at hr
        rw [hx] at hr
        exact hr
      subst hx'
      have HK := Lib.hid (show PAll.spinetref02_Tokens.f k s = some ([], (a : Int)) from hk)
      clear hx hk hr hsz
      go_enter Tryz.func52, Tryz.ntmps52
      go_wp2_with fail
      refine (PAll.spinetref02_Tokens.calls k s _ _ _ HK.out).mono ?_
      rintro e w1 ⟨v1, rfl, h1, hb1⟩
      clear h1
      go_wp2_with fail
      go_ret3
      exact ⟨_, rfl, Kd.R_nil _ _ _ _ _, hb1⟩
    | none =>
      obtain ⟨R, hR, rfl⟩ : ∃ R, Pr l false 1 st0 R ∧ r = parsedOf l s.data.toList.length R := by
        unfold Parsed at hr
        rw [hx] at hr
        exact hr
      have HK := Lib.hid (show PAll.spinetref02_Tokens.f k s = some (l, -1) from hk)
      have hln : l.length ≤ 200 := by have : l.length ≤ s.size := hlx; omega
      clear hx hk hr hlx
      go_enter Tryz.func52, Tryz.ntmps52
      go_wp2_with fail
      refine (PAll.spinetref02_Tokens.calls k s _ _ _ HK.out).mono ?_
      rintro e w1 ⟨v1, rfl, h1, hb1⟩
      obtain ⟨A1, c1, rfl, hc1, hC1⟩ := Kd.R_reads h1
      have HC1 := Lib.hid hC1
      have HR := Lib.hid hR
      have hle := hR.le (by omega) (Nat.zero_le _)
      have hA1 : ∀ ad, A1 = some ad → ad.block < w1.heap.size := fun ad h => Kd.R_lt h1 ad.block (by rw [h]; rfl)
      clear h1 hC1 hR
      go_wp2_with fail
      refine (((rreads_all l (by omega) (l.length * 8 + 8)).1 1 (by omega) (by omega)) _ _ _ _ _ st0 _ R (rdr_new HC1.out hA1 hc1) (Nat.zero_le _) (Nat.le_refl _) (by simp [st0]) HR.out).mono ?_
      rintro e w2 ⟨⟨u, rfl⟩, v2, hR2, hc2, ho2⟩
      obtain ⟨A2, c2, rfl⟩ := Kd.R_slice hR2.out
      have hb2 : Below w.heap.size w w2 := (hb1.alloc hb1.size _).trans ((hc2.below (B := w.heap.size) (by have := hb1.size; simp; omega) (fun k hk e => by
        rcases e with e | e
        · have := hb1.size; omega
        · cases e)))
      have HR2 := Lib.hid hR2
      have HT2 := Lib.hid (Kd.R_lower hR2.out (show w.heap.size ≤ w1.heap.size + 1 by have := hb1.size; omega))
      obtain ⟨k0, k1, k2, k3, f1, f2, f3⟩ := hR2.cells
      clear hR2 hc2 ho2
      by_cases hlt : R.at_ < l.length
      · have hpo : parsedOf l s.data.toList.length R = ([], .spot (PAll.rd_T91 l R.at_).f2 2) := by
          unfold parsedOf
          rw [if_pos (.inr hlt), if_pos hlt]
        have HPO := Lib.hid hpo
        clear hpo
        obtain ⟨ad, hA, x0, x1, x2⟩ := PAll.at_T91 HR2.out.row R.at_ (by omega) (by omega)
        subst hA
        simp only [Int.toNat_natCast] at x0 x1 x2
        have p1 : (0 ≤ (R.at_ : Int)) = True := eq_true (by omega)
        have p2 : ((R.at_ : Int) < (l.length : Int)) = True := eq_true (by omega)
        cases hbad : R.bad with
        | true =>
          rw [hbad] at k3
          go_wp2_with fail
          go_quiet (fail)
          go_wp2
          go_ret3
          rw [HPO.out]
          exact ⟨_, rfl, Kd.R_nil _ _ _ _ _, below_drewN' hb2 _⟩
        | false =>
          rw [hbad] at k3
          go_wp2_with fail
          go_quiet (fail)
          go_wp2
          go_ret3
          rw [HPO.out]
          exact ⟨_, rfl, Kd.R_nil _ _ _ _ _, below_drewN' hb2 _⟩
      · have p1 : ((R.at_ : Int) < (l.length : Int)) = False := eq_false (by omega)
        cases hbad : R.bad with
        | true =>
          have hpo : parsedOf l s.data.toList.length R = ([], .spot (s.size : Nat) 2) := by
            unfold parsedOf
            rw [if_pos (.inl hbad), if_neg hlt, hsz]
          have HPO := Lib.hid hpo
          clear hpo hsz
          rw [hbad] at k3
          go_wp2_with fail
          go_ret3
          rw [HPO.out]
          exact ⟨_, rfl, Kd.R_nil _ _ _ _ _, hb2⟩
        | false =>
          rw [hbad] at k3
          by_cases h100 : 100 < R.out.length
          · have hpo : parsedOf l s.data.toList.length R = ([], .code 3) := by
              unfold parsedOf
              rw [if_neg (by rw [hbad]; simp; omega), if_pos h100]
            have HPO := Lib.hid hpo
            clear hpo hsz
            go_wp2_with fail
            go_ret3
            rw [HPO.out]
            exact ⟨_, rfl, Kd.R_nil _ _ _ _ _, hb2⟩
          · have hpo : parsedOf l s.data.toList.length R = (R.out, .none) := by
              unfold parsedOf
              rw [if_neg (by rw [hbad]; simp; omega), if_neg h100]
            have HPO := Lib.hid hpo
            clear hpo hsz
            go_wp2_with fail
            go_ret3
            rw [HPO.out]
            exact ⟨_, rfl, HT2.out, hb2⟩
end Go.Proofs.YtemoonhnncopoaaGreatDoor
end
section
set_option linter.unusedVariables false
set_option linter.unusedSimpArgs false
namespace Go.Proofs.YtemoonhnncopoaaGreatDoor
open Go.RowKit Go.Proofs.YtemoonhnncopoaaGreatDoorW.PrintWords
open PX (T V Tr takes may mayGo tree_of value_tree)
theorem ofR_ok {s : List UInt8} {r : List T × Er} (h : Parsed s r) (env : List Int) (he : ∀ x ∈ env, -9223372036854775808 ≤ x ∧ x ≤ 9223372036854775807) :
    (∀ c, (ofR r env).2 = .code c → 1 ≤ c ∧ c ≤ 13) ∧ (∀ a c, (ofR r env).2 = .spot a c → 0 ≤ a) := by
  obtain ⟨e1, e2, _, _⟩ := parsed_er s r h
  have hw := parsed_wide s r h
  unfold ofR
  cases hx : r.2 with
  | none =>
    simp only
    have := runR_ok (lookV false 0 env) false (lookV_ok false 0 env he) r.1 hw
    cases hv : runR (lookV false 0 env) false r.1 with
    | ok v => exact ⟨fun c h => by simp at h, fun a c h => by simp at h⟩
    | error c =>
      rw [hv] at this
      simp only at this
      refine ⟨fun c' h => ?_, fun a c h => by simp at h⟩
      simp only [Er.code.injEq] at h
      omega
  | code c => exact ⟨fun c' h => e1 c' (by rw [hx]; exact h), fun a c h => by simp at h⟩
  | spot a c => exact ⟨fun c' h => by simp at h, fun a' c' h => e2 a' c' (by rw [hx]; exact h)⟩
set_option maxHeartbeats 8000000 in
set_option maxRecDepth 100000 in
theorem rof_any (s : ByteArray) (hs : s.size ≤ 281474976710656) (E : Option Addr) (ecap : Nat) (env : List Int) (hen : env.length ≤ 1000000) (hec : env.length ≤ ecap) (he : ∀ x ∈ env, -9223372036854775808 ≤ x ∧ x ≤ 9223372036854775807) (w : World) (hE : NumsC w E env.length env) (r : List T × Er) (hr : Parsed s.data.toList r) :
    Calls Tryz.prog 22 #[.string s, .slice E env.length ecap] w fun e w' => e = .returned (.tuple #[agV (ofR r env).1, .int .i64 (ofR r env).2.bad, .int .i64 (ofR r env).2.place]) ∧ Below w.heap.size w w' := by
  obtain ⟨e1, e2, e3, e4⟩ := parsed_er _ r hr
  obtain ⟨k, hk⟩ := reval_f r.1 (by omega) (parsed_wide _ r hr) env hen he
  have HR := Lib.hid hr
  have HE := Lib.hid hE
  have HK := Lib.hid hk
  have H1 := Lib.hid e1
  have H2 := Lib.hid e2
  clear hr hE e1 e2 e3 e4 hk
  go_enter Tryz.func22, Tryz.ntmps22
  go_wp2_with fail
  refine (rparse_any s hs _ r HR.out).mono ?_
  rintro e w1 ⟨v1, rfl, h1, hb1⟩
  obtain ⟨hk, c0, c1, f0, f1, hlt, hbw⟩ := laid2 hb1
  obtain ⟨A1, c1', rfl, hc1, hC1⟩ := Kd.R_reads h1
  have HC1 := Lib.hid hC1
  have HK1 := Lib.hid hk
  clear h1 hC1 hb1 hk
  cases hx : r.2 with
  | none =>
    have HX := Lib.hid hx
    clear hx
    simp only [Er.bad, Er.place]
    go_wp2_with fail
    refine (PAll.spinetref04_Eval.calls k A1 c1' r.1 E ecap env _ _ _ _ HC1.out hc1 (Kd.C_below HE.out hbw) hec HK.out).mono ?_
    rintro e w2 ⟨rfl, hb2⟩
    have hb12 := hbw.trans (hb2.mono hbw.size)
    have HO : Hid (ofR r env = (valR (runR (lookV false 0 env) false r.1), if badR (runR (lookV false 0 env) false r.1) = 0 then .none else .code (badR (runR (lookV false 0 env) false r.1)))) := Lib.hid (by
      unfold ofR
      rw [HX.out]
      cases hv : runR (lookV false 0 env) false r.1 with
      | ok v => rfl
      | error c =>
        have := runR_ok (lookV false 0 env) false (lookV_ok false 0 env he) r.1 (parsed_wide _ r HR.out)
        rw [hv] at this
        have hc : ¬ c = 0 := by
          have : c = 2 ∨ c = 4 ∨ c = 8 ∨ c = 9 := this
          omega
        show ((0, 0), Er.code c) = ((0, 0), if c = 0 then Er.none else Er.code c)
        rw [if_neg hc])
    generalize runR (lookV false 0 env) false r.1 = q at *
    have hk2 := blk_alloc (.cells #[.int .i64 (valR q).1, .int .i64 (valR q).2] 35) ((hb2.block w.heap.size hlt).trans HK1.out)
    have HK2 := Lib.hid hk2
    have d0 : (w2.alloc (.cells #[.int .i64 (valR q).1, .int .i64 (valR q).2] 35)).cell? ⟨w.heap.size, 0, none⟩ = some (.int .i64 0) := blk_cell hk2 0
    have d1 : (w2.alloc (.cells #[.int .i64 (valR q).1, .int .i64 (valR q).2] 35)).cell? ⟨w.heap.size, 1, none⟩ = some (.int .i64 0) := blk_cell hk2 1
    have g0 : (w2.alloc (.cells #[.int .i64 (valR q).1, .int .i64 (valR q).2] 35)).frozen? ⟨w.heap.size, 0, none⟩ = false := blk_free hk2 0
    have g1 : (w2.alloc (.cells #[.int .i64 (valR q).1, .int .i64 (valR q).2] 35)).frozen? ⟨w.heap.size, 1, none⟩ = false := blk_free hk2 1
    clear hk2 hb2 c0 c1 f0 f1 HK HK1
    go_wp2_with fail
    refine bodyPost_ret (results_ctt rfl _ _ w.heap.size 35 #[.int .i64 _, .int .i64 _] (0, 0) _ rfl (blk_set2 HK2.out _ _) Tryz.underlying35 rfl (by kernel_rfl)) rfl ?_
    refine ⟨?_, below_set2 (hb12.alloc hb12.size _) (Nat.le_refl _) _ _⟩
    rw [HO.out]
    by_cases h0 : badR q = 0
    · rw [if_pos h0, h0]; rfl
    · rw [if_neg h0]; rfl
  | code c =>
    have HO : Hid (ofR r env = ((0, 0), .code c)) := Lib.hid (by unfold ofR; rw [hx])
    have hc := H1.out c hx
    have q1 : (c == 0) = false := by simp; omega
    clear hx
    simp only [Er.bad, Er.place]
    go_wp2_with fail
    refine bodyPost_ret (results_ctt rfl _ _ w.heap.size 35 #[.int .i64 _, .int .i64 _] (0, 0) _ rfl (blk_set2 HK1.out _ _) Tryz.underlying35 rfl (by kernel_rfl)) rfl ?_
    rw [HO.out]
    exact ⟨rfl, below_set2 hbw (Nat.le_refl _) _ _⟩
  | spot a c =>
    have HO : Hid (ofR r env = ((0, 0), .spot a c)) := Lib.hid (by unfold ofR; rw [hx])
    obtain rfl := parsed_spot _ _ HR.out a c hx
    clear hx
    simp only [Er.bad, Er.place]
    go_wp2_with fail
    refine bodyPost_ret (results_ctt rfl _ _ w.heap.size 35 #[.int .i64 _, .int .i64 _] (0, 0) _ rfl (blk_set2 HK1.out _ _) Tryz.underlying35 rfl (by kernel_rfl)) rfl ?_
    rw [HO.out]
    exact ⟨rfl, below_set2 hbw (Nat.le_refl _) _ _⟩
end Go.Proofs.YtemoonhnncopoaaGreatDoor
end
section
set_option linter.unusedVariables false
set_option linter.unusedSimpArgs false
namespace Go.Proofs.YtemoonhnncopoaaGreatDoor
open Go.RowKit Go.Proofs.YtemoonhnncopoaaGreatDoorW.PrintWords
open PX (T V)
abbrev Ac := PAll.S80
abbrev Ou := PAll.S87
structure Ds where
  env : List Int
  out : List Ou
  inn : List Int
def Er.ok : Er → Bool
  | .none => true
  | _ => false
noncomputable def parseT (s : ByteArray) : List T × Er := Classical.choose (parsed_ex s.data.toList)
theorem parseT_ok (s : ByteArray) : Parsed s.data.toList (parseT s) := Classical.choose_spec (parsed_ex s.data.toList)
noncomputable def valT (s : ByteArray) (env : List Int) : Int × Bool := ((ofR (parseT s) env).1.2, (ofR (parseT s) env).2.ok && (ofR (parseT s) env).1.1 == 1)
noncomputable def oneA (s : Ds) (a : Ac) : Ds × Bool :=
  if a.f0 = 2 then ({ s with inn := s.inn ++ [a.f1] }, true)
  else if a.f0 = 4 then ({ s with out := s.out ++ [⟨4, 0, 0, a.f1⟩] }, true)
  else if a.f0 = 1 ∨ a.f0 = 3 ∨ a.f0 = 5 then
    if (valT a.f3 s.env).2 then
      if a.f0 = 3 then ({ s with out := s.out ++ [⟨3, a.f1, a.f2, (valT a.f3 s.env).1⟩] }, true)
      else if a.f0 = 5 then ({ s with out := s.out ++ [⟨5, 0, 0, (valT a.f3 s.env).1⟩] }, true)
      else if a.f1 < 0 ∨ (s.env.length : Int) ≤ a.f1 then (s, false)
      else ({ s with env := s.env.set a.f1.toNat (valT a.f3 s.env).1 }, true)
    else (s, false)
  else (s, true)
noncomputable def doA : Ds → List Ac → Ds
  | s, [] => s
  | s, a :: l => if (oneA s a).2 then doA (oneA s a).1 l else { (oneA s a).1 with inn := (oneA s a).1.inn ++ [1001] }
abbrev EnvR (w : World) (B : Nat) (v : Value) (l : List Int) : Prop := Kd.R (Kd.int .i64) 2 w B (fun _ => True) v l
abbrev OutR (w : World) (B : Nat) (v : Value) (l : List Ou) : Prop := Kd.R PAll.k87 87 w B (fun _ => True) v l
abbrev InnR (w : World) (B : Nat) (v : Value) (l : List Int) : Prop := Kd.R (Kd.int .i64) 3 w B (fun _ => True) v l
abbrev ActsC (w : World) (A : Option Addr) (n : Nat) (l : List Ac) : Prop := Kd.C PAll.k80 w A n l
structure Doer (g B : Nat) (w : World) (s : Ds) (ve vo vi : Value) : Prop where
  blk : w.heap[g]? = some (.cells #[ve, vo, vi] 84 (0, 0))
  env : EnvR w B ve s.env
  out : OutR w B vo s.out
  inn : InnR w B vi s.inn
  lt : B ≤ g
  le : B ≤ w.heap.size
theorem Doer.below {g B : Nat} {w w' : World} {s : Ds} {ve vo vi : Value} (h : Doer g B w s ve vo vi) (hb : Below w.heap.size w w') : Doer g B w' s ve vo vi :=
  ⟨(hb.block g (lt_of_block h.blk)).trans h.blk, Kd.R_below h.env hb, Kd.R_below h.out hb, Kd.R_below h.inn hb, h.lt, Nat.le_trans h.le hb.size⟩
theorem Doer.cells {g B : Nat} {w : World} {s : Ds} {ve vo vi : Value} (h : Doer g B w s ve vo vi) : (w.cell? ⟨g, 0, none⟩ = some ve ∧ w.cell? ⟨g, 1, none⟩ = some vo ∧ w.cell? ⟨g, 2, none⟩ = some vi) ∧ w.frozen? ⟨g, 0, none⟩ = false ∧ w.frozen? ⟨g, 1, none⟩ = false ∧ w.frozen? ⟨g, 2, none⟩ = false :=
  ⟨⟨blk_cell h.blk 0, blk_cell h.blk 1, blk_cell h.blk 2⟩, blk_free h.blk 0, blk_free h.blk 1, blk_free h.blk 2⟩
theorem int_q {e q : Nat} {k : IntKind} (h : e ≠ q) : ∀ x, x ∈ e :: (Kd.int k).E → x ≠ q := by
  intro x hx
  rcases List.mem_cons.1 hx with rfl | hx
  · exact h
  · have hx' : x ∈ ([] : List Nat) := hx
    cases hx'
theorem out_q {q : Nat} (h : 87 ≠ q) : ∀ x, x ∈ 87 :: PAll.k87.E → x ≠ q := by
  intro x hx
  rcases List.mem_cons.1 hx with rfl | hx
  · exact h
  · have hx' : x ∈ ([] : List Nat) := hx
    cases hx'
theorem er_some {B : Nat} {w : World} {v : Value} {e : Er} (h : ErV B w v e) (he : e ≠ .none) : (∃ c, v = .iface 93 (.int .i64 c)) ∨ (∃ g, v = .iface 126 (.pointer (some ⟨g, 0, none⟩))) := by
  cases e with
  | none => exact absurd rfl he
  | code c => exact .inl ⟨c, h⟩
  | spot a c => obtain ⟨g, h1, _⟩ := h; exact .inr ⟨g, h1⟩
set_option maxHeartbeats 4000000 in
set_option maxRecDepth 100000 in
theorem value_any {g B : Nat} {w : World} {s : Ds} {ve vo vi : Value} (hw : Laid w) (h : Doer g B w s ve vo vi) (t : ByteArray) (ht : t.size ≤ 281474976710656) :
    Calls Tryz.prog 79 #[.pointer (some ⟨g, 0, none⟩), .string t] w fun e w' => e = .returned (.tuple #[.int .i64 (valT t s.env).1, .bool (valT t s.env).2]) ∧ Below w.heap.size w w' := by
  obtain ⟨⟨c0, _, _⟩, _⟩ := h.cells
  obtain ⟨E, cap, rfl⟩ := Kd.R_slice h.env
  obtain ⟨_, _, hE⟩ := Kd.R_reads' h.env
  have HE := Lib.hid hE
  have H := Lib.hid h
  clear h hE
  go_enter Tryz.func79, Tryz.ntmps79
  go_wp2_with fail
  refine (of_any t ht E cap s.env _ hw HE.out (parseT t) (parseT_ok t)).mono ?_
  rintro e w1 ⟨ev, rfl, hev, hb⟩
  have hval : valT t s.env = ((ofR (parseT t) s.env).1.2, (ofR (parseT t) s.env).2.ok && (ofR (parseT t) s.env).1.1 == 1) := rfl
  have HV := Lib.hid hval
  clear hval
  generalize ofR (parseT t) s.env = r at hev HV ⊢
  obtain ⟨⟨k, n⟩, er⟩ := r
  have hb' := hb.alloc hb.size (.cells #[.int .i64 k, .int .i64 n] 35)
  simp only [agV]
  by_cases he : er = .none
  · subst he
    obtain rfl : ev = .nilIface := hev
    by_cases hk : k = 1
    · subst hk
      go_wp2_with fail
      repeat (go_quiet (fail); try go_wp2)
      go_ret2
      exact ⟨by rw [HV.out]; rfl, below_drewN' hb' _⟩
    · have k1 : (k == 1) = false := by simp [hk]
      go_wp2_with fail
      repeat (go_quiet (fail); try go_wp2)
      go_ret2
      exact ⟨by rw [HV.out]; simp only [k1]; rfl, below_drewN' hb' _⟩
  · have hok : er.ok = false := by cases er <;> first | rfl | exact absurd rfl he
    rcases er_some hev he with ⟨c, rfl⟩ | ⟨c, rfl⟩
    all_goals
      go_wp2_with fail
      repeat (go_quiet (fail); try go_wp2)
      go_ret2
      exact ⟨by rw [HV.out]; simp only [hok]; rfl, below_drewN' hb' _⟩
end Go.Proofs.YtemoonhnncopoaaGreatDoor
end
section
set_option linter.unusedVariables false
set_option linter.unusedSimpArgs false
namespace Go.Proofs.YtemoonhnncopoaaGreatDoor
open Go.RowKit Go.Proofs.YtemoonhnncopoaaGreatDoorW.PrintWords
open PX (T V)
section
variable {ops : Array Oper} {rest : List Oper} {o : Oper} {a : Act} {Q : Exit → Act → World → Prop}
theorem out_append {W : World} (hgd : o.guard = none) (s x : Operand)
    (ho : o.op = .call { callee := .builtin .append, args := #[s, x], argTypes := #[26, 26] })
    (B : Nat) (v : Value) (xs : List Ou) (p q r t : Int) (hs : a.eval s = v) (N : Nat) (hx : a.eval x = .slice (some ⟨N, 0, none⟩) 1 1) (hN : N = W.heap.size)
    (HO : OutR W B v xs) (hB : B ≤ W.heap.size) (hl : xs.length < 1000000)
    (h : ∀ v1 w1, OutR w1 B v1 (xs ++ [⟨p, q, r, t⟩]) → Below B W w1 → W.grownBy w1 v.ownBlock → wpList Tryz.prog ops Q rest (a.put o.dst v1) w1) :
    wpList Tryz.prog ops Q (o :: rest) a (W.alloc (.cells #[.int .i64 p, .int .i64 q, .int .i64 r, .int .i64 t] 87)) := by
  subst hN
  refine Kd.R_append PAll.k87 (w0 := W) B hgd s x 26 87 (.agg #[(.int .i64 0), (.int .i64 0), (.int .i64 0), (.int .i64 0)]) 32 ho Tryz.underlying26 (by kernel_rfl) rfl (by decide) (by omega) v xs (⟨p, q, r, t⟩ : Ou) [.int .i64 p, .int .i64 q, .int .i64 r, .int .i64 t]
    (fun _ => True) (fun _ => False) hs hx (PAll.k87_mkM _ _ _ (⟨p, q, r, t⟩ : Ou)) (fun _ hk => hk.elim) (fun _ _ => trivial) HO (Below.refl _ _) hB (by omega) ?_
  intro v1 w1 h1 h2 h3 h4
  exact h v1 w1 h1 h2 h3
theorem inn_append {W : World} (hgd : o.guard = none) (s x : Operand)
    (ho : o.op = .call { callee := .builtin .append, args := #[s, x], argTypes := #[27, 27] })
    (B : Nat) (v : Value) (xs : List Int) (p : Int) (hs : a.eval s = v) (N : Nat) (hx : a.eval x = .slice (some ⟨N, 0, none⟩) 1 1) (hN : N = W.heap.size)
    (HO : InnR W B v xs) (hB : B ≤ W.heap.size) (hl : xs.length < 1000000)
    (h : ∀ v1 w1, InnR w1 B v1 (xs ++ [p]) → Below B W w1 → W.grownBy w1 v.ownBlock → wpList Tryz.prog ops Q rest (a.put o.dst v1) w1) :
    wpList Tryz.prog ops Q (o :: rest) a (W.alloc (.cells #[.int .i64 p] 3)) := by
  subst hN
  refine Kd.R_append (Kd.int .i64) (w0 := W) B hgd s x 27 3 (.int .i64 0) 8 ho Tryz.underlying27 (by kernel_rfl) rfl (by decide) (by omega) v xs p [.int .i64 p]
    (fun _ => True) (fun _ => False) hs hx rfl (fun _ hk => hk.elim) (fun _ _ => trivial) HO (Below.refl _ _) hB (by omega) ?_
  intro v1 w1 h1 h2 h3 h4
  exact h v1 w1 h1 h2 h3
theorem inn_step {W : World} {K : Act → World → Prop} {E : Prop} (hgd : o.guard = none) (s x : Operand)
    (ho : o.op = .call { callee := .builtin .append, args := #[s, x], argTypes := #[27, 27] })
    (B : Nat) (v : Value) (xs : List Int) (p : Int) (hs : a.eval s = v) (N : Nat) (hx : a.eval x = .slice (some ⟨N, 0, none⟩) 1 1) (hN : N = W.heap.size)
    (HO : InnR W B v xs) (hB : B ≤ W.heap.size) (hl : xs.length < 1000000)
    (h : ∀ v1 w1, InnR w1 B v1 (xs ++ [p]) → Below B W w1 → W.grownBy w1 v.ownBlock → K (a.put o.dst v1) w1) :
    if Region.wanted o (yielded ops a.tmps) = true then Oper.wp Tryz.prog o a (W.alloc (.cells #[.int .i64 p] 3)) K Q else E := by
  have hw : Region.wanted o (yielded ops a.tmps) = true := by simp [Region.wanted, hgd]
  subst hN
  have := Kd.R_append_step (ops := ops) (Q := Q) (Kc := K) (Kd.int .i64) (w0 := W) B hw s x 27 3 (.int .i64 0) 8 ho Tryz.underlying27 (by kernel_rfl) rfl (by decide) (by omega) v xs p [.int .i64 p]
    (fun _ => True) (fun _ => False) hs hx rfl (fun _ hk => hk.elim) (fun _ _ => trivial) HO (Below.refl _ _) hB (by omega) (fun v1 w1 h1 h2 h3 h4 => h v1 w1 h1 h2 h3)
  rw [if_pos hw] at this ⊢
  exact this
theorem out_step {W : World} {K : Act → World → Prop} {E : Prop} (hgd : o.guard = none) (s x : Operand)
    (ho : o.op = .call { callee := .builtin .append, args := #[s, x], argTypes := #[26, 26] })
    (B : Nat) (v : Value) (xs : List Ou) (p q r t : Int) (hs : a.eval s = v) (N : Nat) (hx : a.eval x = .slice (some ⟨N, 0, none⟩) 1 1) (hN : N = W.heap.size)
    (HO : OutR W B v xs) (hB : B ≤ W.heap.size) (hl : xs.length < 1000000)
    (h : ∀ v1 w1, OutR w1 B v1 (xs ++ [⟨p, q, r, t⟩]) → Below B W w1 → W.grownBy w1 v.ownBlock → K (a.put o.dst v1) w1) :
    if Region.wanted o (yielded ops a.tmps) = true then Oper.wp Tryz.prog o a (W.alloc (.cells #[.int .i64 p, .int .i64 q, .int .i64 r, .int .i64 t] 87)) K Q else E := by
  have hw : Region.wanted o (yielded ops a.tmps) = true := by simp [Region.wanted, hgd]
  subst hN
  have := Kd.R_append_step (ops := ops) (Q := Q) (Kc := K) PAll.k87 (w0 := W) B hw s x 26 87 (.agg #[(.int .i64 0), (.int .i64 0), (.int .i64 0), (.int .i64 0)]) 32 ho Tryz.underlying26 (by kernel_rfl) rfl (by decide) (by omega) v xs (⟨p, q, r, t⟩ : Ou) [.int .i64 p, .int .i64 q, .int .i64 r, .int .i64 t]
    (fun _ => True) (fun _ => False) hs hx (PAll.k87_mkM _ _ _ (⟨p, q, r, t⟩ : Ou)) (fun _ hk => hk.elim) (fun _ _ => trivial) HO (Below.refl _ _) hB (by omega) (fun v1 w1 h1 h2 h3 h4 => h v1 w1 h1 h2 h3)
  rw [if_pos hw] at this ⊢
  exact this
end
section
variable {g B : Nat} {w : World} {s : Ds} {ve vo vi : Value}
theorem Doer.putOut (h : Doer g B w s ve vo vi) {w1 : World} {v1 : Value} {xs : List Ou} (hg : w.grownBy w1 vo.ownBlock) (hT : OutR w1 B v1 xs) :
    Doer g B (w1.setCell ⟨g, 1, none⟩ v1) { s with out := xs } ve v1 vi := by
  have hne := Kd.R_ne h.out h.blk (by decide)
  have hblk := (hg.block g (lt_of_block h.blk) hne).trans h.blk
  refine ⟨blk_set hblk 1 _, Kd.R_set (Kd.R_over h.env h.out (int_q (by decide)) hg) hblk (int_q (by decide)) 1 _, Kd.R_set hT hblk (out_q (by decide)) 1 _, Kd.R_set (Kd.R_over h.inn h.out (int_q (by decide)) hg) hblk (int_q (by decide)) 1 _, h.lt, ?_⟩
  have := h.le; have := hg.size; simp [World.setCell]; omega
theorem Doer.putInn (h : Doer g B w s ve vo vi) {w1 : World} {v1 : Value} {xs : List Int} (hg : w.grownBy w1 vi.ownBlock) (hT : InnR w1 B v1 xs) :
    Doer g B (w1.setCell ⟨g, 2, none⟩ v1) { s with inn := xs } ve vo v1 := by
  have hne := Kd.R_ne h.inn h.blk (by decide)
  have hblk := (hg.block g (lt_of_block h.blk) hne).trans h.blk
  refine ⟨blk_set hblk 2 _, Kd.R_set (Kd.R_over h.env h.inn (int_q (by decide)) hg) hblk (int_q (by decide)) 2 _, Kd.R_set (Kd.R_over h.out h.inn (out_q (by decide)) hg) hblk (out_q (by decide)) 2 _, Kd.R_set hT hblk (int_q (by decide)) 2 _, h.lt, ?_⟩
  have := h.le; have := hg.size; simp [World.setCell]; omega
theorem Doer.putEnv {e cap : Nat} {w : World} {s : Ds} {vo vi : Value} (h : Doer g B w s (.slice (some ⟨e, 0, none⟩) s.env.length cap) vo vi) (i n : Int) :
    Doer g B (w.setCell ⟨e, i.toNat, none⟩ (.int .i64 n)) { s with env := s.env.set i.toNat n } (.slice (some ⟨e, 0, none⟩) s.env.length cap) vo vi := by
  obtain ⟨h1, hg⟩ := Kd.R_put h.env i n
  have hg' : w.grownBy (w.setCell ⟨e, i.toNat, none⟩ (.int .i64 n)) (Value.slice (some ⟨e, 0, none⟩) s.env.length cap).ownBlock := hg
  have hne := Kd.R_ne h.env h.blk (by decide)
  refine ⟨(hg'.block g (lt_of_block h.blk) hne).trans h.blk, h1, Kd.R_over h.out h.env (out_q (by decide)) hg', Kd.R_over h.inn h.env (int_q (by decide)) hg', h.lt, ?_⟩
  have := h.le; have := hg.size; omega
end
set_option maxHeartbeats 16000000 in
set_option maxRecDepth 100000 in
theorem one_any {g B : Nat} {w : World} {s : Ds} {ve vo vi : Value} (hw : Laid w) (h : Doer g B w s ve vo vi) (k n m : Int) (t : ByteArray) (ht : t.size ≤ 281474976710656) (hlo : s.out.length < 1000000) (hli : s.inn.length < 1000000) :
    Calls Tryz.prog 48 #[.pointer (some ⟨g, 0, none⟩), .agg #[.int .i64 k, .int .i64 n, .int .i64 m, .string t]] w fun e w' => e = .returned (.bool (oneA s ⟨k, n, m, t⟩).2) ∧ Below B w w' ∧ ∃ ve' vo' vi', Doer g B w' (oneA s ⟨k, n, m, t⟩).1 ve' vo' vi' := by
  by_cases hk2 : k = 2
  · subst hk2
    have hone : oneA s ⟨2, n, m, t⟩ = ({ s with inn := s.inn ++ [n] }, true) := rfl
    rw [hone]
    clear hone
    have hbA := (Below.refl B w).alloc h.le (.cells #[.int .i64 2, .int .i64 n, .int .i64 m, .string t] 80)
    have hd1 := h.below ((Below.refl _ w).alloc (Nat.le_refl _) (.cells #[.int .i64 2, .int .i64 n, .int .i64 m, .string t] 80))
    have hw1 := hw.below ((Below.refl _ w).alloc (Nat.le_refl _) (.cells #[.int .i64 2, .int .i64 n, .int .i64 m, .string t] 80))
    have hac := blk_new w (.cells #[.int .i64 2, .int .i64 n, .int .i64 m, .string t] 80)
    have HD1 := Lib.hid hd1
    have HW1 := Lib.hid hw1
    clear hd1 h hw1
    go_enter Tryz.func48, Tryz.ntmps48
    go_wp2_with fail
    generalize w.alloc (.cells #[.int .i64 2, .int .i64 n, .int .i64 m, .string t] 80) = W at hac HD1 HW1 hbA ⊢
    obtain ⟨⟨c0, c1, c2⟩, f0, f1, f2⟩ := HD1.out.cells
    obtain ⟨a0, a1, a2, a3⟩ : _ ∧ _ ∧ _ ∧ _ := ⟨blk_cell hac 0, blk_cell hac 1, blk_cell hac 2, blk_cell hac 3⟩
    have HB := Lib.hid hbA
    have HAC := Lib.hid hac
    clear hbA hac
    have HN := Lib.hid (HD1.out.below (below_drew (Below.refl _ _)))
    have HBN := Lib.hid (below_drew HB.out)
    have hgl := lt_of_block HD1.out.blk
    have hal : w.heap.size < W.heap.size := lt_of_block HAC.out
    clear HB HD1
    go_region_law (refine inn_step (W := W.drew) rfl (.tmp 15) (.tmp 18) rfl B _ s.inn n rfl _ rfl (by rfl) HN.out.inn HN.out.le hli ?_; intro v1 w1 hT hb1 hg; have hb2 := HBN.out.trans hb1; have hfin := HN.out.putInn hg hT; have hblk := (hg.block g (lt_of_block HN.out.blk) (Kd.R_ne HN.out.inn HN.out.blk (by decide))).trans HN.out.blk; have f2' : w1.frozen? ⟨g, 2, none⟩ = false := blk_free hblk 2; have c2' : w1.cell? ⟨g, 2, none⟩ = some vi := blk_cell hblk 2; have hb3 := hb2.setCell (p := ⟨g, 2, none⟩) HN.out.lt v1; obtain ⟨A1, cap1, rfl⟩ := Kd.R_slice hT; rw [List.length_append, List.length_singleton] at hfin hb3; have HF := Lib.hid hfin; have HB3 := Lib.hid hb3; clear hT hb1 hg hb2 hfin hblk hb3 c0 c1 c2 f0 f1 f2 a0 a1 a2 a3)
    all_goals
      go_wp2_with fail
      go_ret
      exact ⟨rfl, HB3.out, _, _, _, HF.out⟩
  by_cases hk4 : k = 4
  · subst hk4
    have hone : oneA s ⟨4, n, m, t⟩ = ({ s with out := s.out ++ [⟨4, 0, 0, n⟩] }, true) := rfl
    rw [hone]
    clear hone
    have hbA := (Below.refl B w).alloc h.le (.cells #[.int .i64 4, .int .i64 n, .int .i64 m, .string t] 80)
    have hd1 := h.below ((Below.refl _ w).alloc (Nat.le_refl _) (.cells #[.int .i64 4, .int .i64 n, .int .i64 m, .string t] 80))
    have hw1 := hw.below ((Below.refl _ w).alloc (Nat.le_refl _) (.cells #[.int .i64 4, .int .i64 n, .int .i64 m, .string t] 80))
    have hac := blk_new w (.cells #[.int .i64 4, .int .i64 n, .int .i64 m, .string t] 80)
    have HD1 := Lib.hid hd1
    have HW1 := Lib.hid hw1
    clear hd1 h hw1
    go_enter Tryz.func48, Tryz.ntmps48
    go_wp2_with fail
    generalize w.alloc (.cells #[.int .i64 4, .int .i64 n, .int .i64 m, .string t] 80) = W at hac HD1 HW1 hbA ⊢
    obtain ⟨⟨c0, c1, c2⟩, f0, f1, f2⟩ := HD1.out.cells
    obtain ⟨a0, a1, a2, a3⟩ : _ ∧ _ ∧ _ ∧ _ := ⟨blk_cell hac 0, blk_cell hac 1, blk_cell hac 2, blk_cell hac 3⟩
    have HB := Lib.hid hbA
    have HAC := Lib.hid hac
    clear hbA hac
    have HN := Lib.hid (HD1.out.below (below_drew (Below.refl _ _)))
    have HBN := Lib.hid (below_drew HB.out)
    have hgl := lt_of_block HD1.out.blk
    have hal : w.heap.size < W.heap.size := lt_of_block HAC.out
    clear HB HD1
    go_region_law (refine out_step (W := W.drew) rfl (.tmp 28) (.tmp 32) rfl B _ s.out 4 0 0 n rfl _ rfl (by rfl) HN.out.out HN.out.le hlo ?_; intro v1 w1 hT hb1 hg; have hb2 := HBN.out.trans hb1; have hfin := HN.out.putOut hg hT; have hblk := (hg.block g (lt_of_block HN.out.blk) (Kd.R_ne HN.out.out HN.out.blk (by decide))).trans HN.out.blk; have f2' : w1.frozen? ⟨g, 1, none⟩ = false := blk_free hblk 1; have c2' : w1.cell? ⟨g, 1, none⟩ = some vo := blk_cell hblk 1; have hb3 := hb2.setCell (p := ⟨g, 1, none⟩) HN.out.lt v1; obtain ⟨A1, cap1, rfl⟩ := Kd.R_slice hT; rw [List.length_append, List.length_singleton] at hfin hb3; have HF := Lib.hid hfin; have HB3 := Lib.hid hb3; clear hT hb1 hg hb2 hfin hblk hb3 c0 c1 c2 f0 f1 f2 a0 a1 a2 a3)
    all_goals
      go_wp2_with fail
      go_ret
      exact ⟨rfl, HB3.out, _, _, _, HF.out⟩
  by_cases hk : ¬ (k = 1 ∨ k = 3 ∨ k = 5)
  · have hone : oneA s ⟨k, n, m, t⟩ = (s, true) := by unfold oneA; simp only; rw [if_neg hk2, if_neg hk4, if_neg hk]
    rw [hone]
    have e1 : (k == 1) = false := by simp; omega
    have e2 : (k == 2) = false := by simp; omega
    have e3 : (k == 3) = false := by simp; omega
    have e4 : (k == 4) = false := by simp; omega
    have e5 : (k == 5) = false := by simp; omega
    clear hone hk hk2 hk4
    have hbA := (Below.refl B w).alloc h.le (.cells #[.int .i64 k, .int .i64 n, .int .i64 m, .string t] 80)
    have hd1 := h.below ((Below.refl _ w).alloc (Nat.le_refl _) (.cells #[.int .i64 k, .int .i64 n, .int .i64 m, .string t] 80))
    have hw1 := hw.below ((Below.refl _ w).alloc (Nat.le_refl _) (.cells #[.int .i64 k, .int .i64 n, .int .i64 m, .string t] 80))
    have hac := blk_new w (.cells #[.int .i64 k, .int .i64 n, .int .i64 m, .string t] 80)
    have HD1 := Lib.hid hd1
    have HW1 := Lib.hid hw1
    clear hd1 h hw1
    go_enter Tryz.func48, Tryz.ntmps48
    go_wp2_with fail
    go_ret
    exact ⟨rfl, hbA, _, _, _, HD1.out⟩
  have hk' : k = 1 ∨ k = 3 ∨ k = 5 := Classical.not_not.1 hk
  cases hv : (valT t s.env).2 with
  | false =>
    have hone : oneA s ⟨k, n, m, t⟩ = (s, false) := by unfold oneA; simp only; rw [if_neg hk2, if_neg hk4, if_pos hk']; simp [hv]
    rw [hone]
    clear hone hk hk2 hk4
    rcases hk' with rfl | rfl | rfl
    · have hbA := (Below.refl B w).alloc h.le (.cells #[.int .i64 1, .int .i64 n, .int .i64 m, .string t] 80)
      have hd1 := h.below ((Below.refl _ w).alloc (Nat.le_refl _) (.cells #[.int .i64 1, .int .i64 n, .int .i64 m, .string t] 80))
      have hw1 := hw.below ((Below.refl _ w).alloc (Nat.le_refl _) (.cells #[.int .i64 1, .int .i64 n, .int .i64 m, .string t] 80))
      have hac := blk_new w (.cells #[.int .i64 1, .int .i64 n, .int .i64 m, .string t] 80)
      have HD1 := Lib.hid hd1
      have HW1 := Lib.hid hw1
      clear hd1 h hw1
      go_enter Tryz.func48, Tryz.ntmps48
      go_wp2_with fail
      generalize w.alloc (.cells #[.int .i64 1, .int .i64 n, .int .i64 m, .string t] 80) = W at hac HD1 HW1 hbA ⊢
      obtain ⟨⟨c0, c1, c2⟩, f0, f1, f2⟩ := HD1.out.cells
      obtain ⟨a0, a1, a2, a3⟩ : _ ∧ _ ∧ _ ∧ _ := ⟨blk_cell hac 0, blk_cell hac 1, blk_cell hac 2, blk_cell hac 3⟩
      have HB := Lib.hid hbA
      have HAC := Lib.hid hac
      clear hbA hac
      refine (value_any HW1.out HD1.out t ht).mono ?_
      rintro e w2 ⟨rfl, hb2⟩
      have HD2 := Lib.hid (HD1.out.below hb2)
      have HB2 := Lib.hid (below_then HB.out HD1.out.le hb2)
      have HAC2 := Lib.hid ((hb2.block _ (lt_of_block HAC.out)).trans HAC.out)
      clear hb2 HB HD1 HAC HW1 c0 c1 c2 f0 f1 f2 a0 a1 a2 a3
      obtain ⟨⟨c0, c1, c2⟩, f0, f1, f2⟩ := HD2.out.cells
      obtain ⟨a0, a1, a2, a3⟩ : _ ∧ _ ∧ _ ∧ _ := ⟨blk_cell HAC2.out 0, blk_cell HAC2.out 1, blk_cell HAC2.out 2, blk_cell HAC2.out 3⟩
      have HD1 := HD2
      have HB := HB2
      have HAC := HAC2
      clear HD2 HB2 HAC2
      simp only [hv]
      go_wp2_with fail
      go_ret
      exact ⟨rfl, HB.out, _, _, _, HD1.out⟩
    · have hbA := (Below.refl B w).alloc h.le (.cells #[.int .i64 3, .int .i64 n, .int .i64 m, .string t] 80)
      have hd1 := h.below ((Below.refl _ w).alloc (Nat.le_refl _) (.cells #[.int .i64 3, .int .i64 n, .int .i64 m, .string t] 80))
      have hw1 := hw.below ((Below.refl _ w).alloc (Nat.le_refl _) (.cells #[.int .i64 3, .int .i64 n, .int .i64 m, .string t] 80))
      have hac := blk_new w (.cells #[.int .i64 3, .int .i64 n, .int .i64 m, .string t] 80)
      have HD1 := Lib.hid hd1
      have HW1 := Lib.hid hw1
      clear hd1 h hw1
      go_enter Tryz.func48, Tryz.ntmps48
      go_wp2_with fail
      generalize w.alloc (.cells #[.int .i64 3, .int .i64 n, .int .i64 m, .string t] 80) = W at hac HD1 HW1 hbA ⊢
      obtain ⟨⟨c0, c1, c2⟩, f0, f1, f2⟩ := HD1.out.cells
      obtain ⟨a0, a1, a2, a3⟩ : _ ∧ _ ∧ _ ∧ _ := ⟨blk_cell hac 0, blk_cell hac 1, blk_cell hac 2, blk_cell hac 3⟩
      have HB := Lib.hid hbA
      have HAC := Lib.hid hac
      clear hbA hac
      refine (value_any HW1.out HD1.out t ht).mono ?_
      rintro e w2 ⟨rfl, hb2⟩
      have HD2 := Lib.hid (HD1.out.below hb2)
      have HB2 := Lib.hid (below_then HB.out HD1.out.le hb2)
      have HAC2 := Lib.hid ((hb2.block _ (lt_of_block HAC.out)).trans HAC.out)
      clear hb2 HB HD1 HAC HW1 c0 c1 c2 f0 f1 f2 a0 a1 a2 a3
      obtain ⟨⟨c0, c1, c2⟩, f0, f1, f2⟩ := HD2.out.cells
      obtain ⟨a0, a1, a2, a3⟩ : _ ∧ _ ∧ _ ∧ _ := ⟨blk_cell HAC2.out 0, blk_cell HAC2.out 1, blk_cell HAC2.out 2, blk_cell HAC2.out 3⟩
      have HD1 := HD2
      have HB := HB2
      have HAC := HAC2
      clear HD2 HB2 HAC2
      simp only [hv]
      go_wp2_with fail
      go_ret
      exact ⟨rfl, HB.out, _, _, _, HD1.out⟩
    · have hbA := (Below.refl B w).alloc h.le (.cells #[.int .i64 5, .int .i64 n, .int .i64 m, .string t] 80)
      have hd1 := h.below ((Below.refl _ w).alloc (Nat.le_refl _) (.cells #[.int .i64 5, .int .i64 n, .int .i64 m, .string t] 80))
      have hw1 := hw.below ((Below.refl _ w).alloc (Nat.le_refl _) (.cells #[.int .i64 5, .int .i64 n, .int .i64 m, .string t] 80))
      have hac := blk_new w (.cells #[.int .i64 5, .int .i64 n, .int .i64 m, .string t] 80)
      have HD1 := Lib.hid hd1
      have HW1 := Lib.hid hw1
      clear hd1 h hw1
      go_enter Tryz.func48, Tryz.ntmps48
      go_wp2_with fail
      generalize w.alloc (.cells #[.int .i64 5, .int .i64 n, .int .i64 m, .string t] 80) = W at hac HD1 HW1 hbA ⊢
      obtain ⟨⟨c0, c1, c2⟩, f0, f1, f2⟩ := HD1.out.cells
      obtain ⟨a0, a1, a2, a3⟩ : _ ∧ _ ∧ _ ∧ _ := ⟨blk_cell hac 0, blk_cell hac 1, blk_cell hac 2, blk_cell hac 3⟩
      have HB := Lib.hid hbA
      have HAC := Lib.hid hac
      clear hbA hac
      refine (value_any HW1.out HD1.out t ht).mono ?_
      rintro e w2 ⟨rfl, hb2⟩
      have HD2 := Lib.hid (HD1.out.below hb2)
      have HB2 := Lib.hid (below_then HB.out HD1.out.le hb2)
      have HAC2 := Lib.hid ((hb2.block _ (lt_of_block HAC.out)).trans HAC.out)
      clear hb2 HB HD1 HAC HW1 c0 c1 c2 f0 f1 f2 a0 a1 a2 a3
      obtain ⟨⟨c0, c1, c2⟩, f0, f1, f2⟩ := HD2.out.cells
      obtain ⟨a0, a1, a2, a3⟩ : _ ∧ _ ∧ _ ∧ _ := ⟨blk_cell HAC2.out 0, blk_cell HAC2.out 1, blk_cell HAC2.out 2, blk_cell HAC2.out 3⟩
      have HD1 := HD2
      have HB := HB2
      have HAC := HAC2
      clear HD2 HB2 HAC2
      simp only [hv]
      go_wp2_with fail
      go_ret
      exact ⟨rfl, HB.out, _, _, _, HD1.out⟩
  | true =>
    have hx : ∃ x, (valT t s.env).1 = x := ⟨_, rfl⟩
    obtain ⟨x, hx⟩ := hx
    rcases hk' with rfl | rfl | rfl
    · by_cases hn : n < 0 ∨ (s.env.length : Int) ≤ n
      · have hone : oneA s ⟨1, n, m, t⟩ = (s, false) := by unfold oneA; simp [hv]; omega
        rw [hone]
        have HNN := Lib.hid hn
        clear hone hk hk2 hk4 hn
        have hbA := (Below.refl B w).alloc h.le (.cells #[.int .i64 1, .int .i64 n, .int .i64 m, .string t] 80)
        have hd1 := h.below ((Below.refl _ w).alloc (Nat.le_refl _) (.cells #[.int .i64 1, .int .i64 n, .int .i64 m, .string t] 80))
        have hw1 := hw.below ((Below.refl _ w).alloc (Nat.le_refl _) (.cells #[.int .i64 1, .int .i64 n, .int .i64 m, .string t] 80))
        have hac := blk_new w (.cells #[.int .i64 1, .int .i64 n, .int .i64 m, .string t] 80)
        have HD1 := Lib.hid hd1
        have HW1 := Lib.hid hw1
        clear hd1 h hw1
        go_enter Tryz.func48, Tryz.ntmps48
        go_wp2_with fail
        generalize w.alloc (.cells #[.int .i64 1, .int .i64 n, .int .i64 m, .string t] 80) = W at hac HD1 HW1 hbA ⊢
        obtain ⟨⟨c0, c1, c2⟩, f0, f1, f2⟩ := HD1.out.cells
        obtain ⟨a0, a1, a2, a3⟩ : _ ∧ _ ∧ _ ∧ _ := ⟨blk_cell hac 0, blk_cell hac 1, blk_cell hac 2, blk_cell hac 3⟩
        have HB := Lib.hid hbA
        have HAC := Lib.hid hac
        clear hbA hac
        refine (value_any HW1.out HD1.out t ht).mono ?_
        rintro e w2 ⟨rfl, hb2⟩
        have HD2 := Lib.hid (HD1.out.below hb2)
        have HB2 := Lib.hid (below_then HB.out HD1.out.le hb2)
        have HAC2 := Lib.hid ((hb2.block _ (lt_of_block HAC.out)).trans HAC.out)
        clear hb2 HB HD1 HAC HW1 c0 c1 c2 f0 f1 f2 a0 a1 a2 a3
        obtain ⟨⟨c0, c1, c2⟩, f0, f1, f2⟩ := HD2.out.cells
        obtain ⟨a0, a1, a2, a3⟩ : _ ∧ _ ∧ _ ∧ _ := ⟨blk_cell HAC2.out 0, blk_cell HAC2.out 1, blk_cell HAC2.out 2, blk_cell HAC2.out 3⟩
        have HD1 := HD2
        have HB := HB2
        have HAC := HAC2
        clear HD2 HB2 HAC2
        obtain ⟨E1, cap, rfl⟩ := Kd.R_slice HD1.out.env
        simp only [hv, hx]
        have hn2 : decide (n < 0) = true ∨ decide (n < 0) = false ∧ decide (n ≥ (s.env.length : Int)) = true := by
          rcases HNN.out with h | h
          · exact .inl (decide_eq_true h)
          · by_cases h0 : n < 0
            · exact .inl (decide_eq_true h0)
            · exact .inr ⟨decide_eq_false h0, decide_eq_true h⟩
        rcases hn2 with q1 | ⟨q1, q2⟩
        all_goals
          go_wp2_with fail
          repeat (go_quiet (fail); try go_wp2)
          go_ret
          exact ⟨rfl, below_drewN' HB.out _, _, _, _, HD1.out.below (pw_below_drewN (Below.refl _ _) _)⟩
      · have hone : oneA s ⟨1, n, m, t⟩ = ({ s with env := s.env.set n.toNat x }, true) := by unfold oneA; simp [hv, hx]; omega
        rw [hone]
        have HNN := Lib.hid hn
        clear hone hk hk2 hk4 hn
        have hbA := (Below.refl B w).alloc h.le (.cells #[.int .i64 1, .int .i64 n, .int .i64 m, .string t] 80)
        have hd1 := h.below ((Below.refl _ w).alloc (Nat.le_refl _) (.cells #[.int .i64 1, .int .i64 n, .int .i64 m, .string t] 80))
        have hw1 := hw.below ((Below.refl _ w).alloc (Nat.le_refl _) (.cells #[.int .i64 1, .int .i64 n, .int .i64 m, .string t] 80))
        have hac := blk_new w (.cells #[.int .i64 1, .int .i64 n, .int .i64 m, .string t] 80)
        have HD1 := Lib.hid hd1
        have HW1 := Lib.hid hw1
        clear hd1 h hw1
        go_enter Tryz.func48, Tryz.ntmps48
        go_wp2_with fail
        generalize w.alloc (.cells #[.int .i64 1, .int .i64 n, .int .i64 m, .string t] 80) = W at hac HD1 HW1 hbA ⊢
        obtain ⟨⟨c0, c1, c2⟩, f0, f1, f2⟩ := HD1.out.cells
        obtain ⟨a0, a1, a2, a3⟩ : _ ∧ _ ∧ _ ∧ _ := ⟨blk_cell hac 0, blk_cell hac 1, blk_cell hac 2, blk_cell hac 3⟩
        have HB := Lib.hid hbA
        have HAC := Lib.hid hac
        clear hbA hac
        refine (value_any HW1.out HD1.out t ht).mono ?_
        rintro e w2 ⟨rfl, hb2⟩
        have HD2 := Lib.hid (HD1.out.below hb2)
        have HB2 := Lib.hid (below_then HB.out HD1.out.le hb2)
        have HAC2 := Lib.hid ((hb2.block _ (lt_of_block HAC.out)).trans HAC.out)
        clear hb2 HB HD1 HAC HW1 c0 c1 c2 f0 f1 f2 a0 a1 a2 a3
        obtain ⟨⟨c0, c1, c2⟩, f0, f1, f2⟩ := HD2.out.cells
        obtain ⟨a0, a1, a2, a3⟩ : _ ∧ _ ∧ _ ∧ _ := ⟨blk_cell HAC2.out 0, blk_cell HAC2.out 1, blk_cell HAC2.out 2, blk_cell HAC2.out 3⟩
        have HD1 := HD2
        have HB := HB2
        have HAC := HAC2
        clear HD2 HB2 HAC2
        have q1 : decide (n < 0) = false := decide_eq_false (by have := HNN.out; omega)
        have q2 : decide (n ≥ (s.env.length : Int)) = false := decide_eq_false (by have := HNN.out; omega)
        obtain ⟨j, rfl, hj⟩ : ∃ j : Nat, n = (j : Int) ∧ j < s.env.length := ⟨n.toNat, by have := HNN.out; omega, by have := HNN.out; omega⟩
        obtain ⟨e0, cap, rfl, he0, _⟩ := Kd.R_form HD1.out.env (by omega)
        have hcell := Kd.R_cell (0 : Int) HD1.out.env (j : Int) (by omega) (by omega)
        obtain ⟨k0, k1⟩ := hcell
        rw [Int.toNat_natCast] at k0 k1
        have p1 : ((j : Int) < (s.env.length : Int)) = True := eq_true (by omega)
        simp only [hv, hx]
        go_wp2_with fail
        repeat (go_quiet (fail); try go_wp2)
        refine region_quiet_tail 8 (by kernel_rfl) (by kernel_rfl) ?_
        simp only [List.take_succ_cons, List.take_zero, List.drop_succ_cons, List.drop_zero]
        repeat (go_big_quiet_step (fail))
        refine wpQuiet_nil ?_
        intro w' hw'
        obtain ⟨nq2, rfl⟩ := hw'
        go_wp2_with fail
        have HN := Lib.hid ((HD1.out.below (pw_below_drewN (Below.refl _ _) (nq + nq2))).putEnv (j : Int) x)
        have HBN := Lib.hid ((below_drewN' HB.out (nq + nq2)).setCell (p := ⟨e0, j, none⟩) he0 (.int .i64 x))
        go_ret
        exact ⟨rfl, HBN.out, _, _, _, HN.out⟩
    · have hone : oneA s ⟨3, n, m, t⟩ = ({ s with out := s.out ++ [⟨3, n, m, x⟩] }, true) := by unfold oneA; simp [hv, hx]
      rw [hone]
      clear hone hk hk2 hk4
      have hbA := (Below.refl B w).alloc h.le (.cells #[.int .i64 3, .int .i64 n, .int .i64 m, .string t] 80)
      have hd1 := h.below ((Below.refl _ w).alloc (Nat.le_refl _) (.cells #[.int .i64 3, .int .i64 n, .int .i64 m, .string t] 80))
      have hw1 := hw.below ((Below.refl _ w).alloc (Nat.le_refl _) (.cells #[.int .i64 3, .int .i64 n, .int .i64 m, .string t] 80))
      have hac := blk_new w (.cells #[.int .i64 3, .int .i64 n, .int .i64 m, .string t] 80)
      have HD1 := Lib.hid hd1
      have HW1 := Lib.hid hw1
      clear hd1 h hw1
      go_enter Tryz.func48, Tryz.ntmps48
      go_wp2_with fail
      generalize w.alloc (.cells #[.int .i64 3, .int .i64 n, .int .i64 m, .string t] 80) = W at hac HD1 HW1 hbA ⊢
      obtain ⟨⟨c0, c1, c2⟩, f0, f1, f2⟩ := HD1.out.cells
      obtain ⟨a0, a1, a2, a3⟩ : _ ∧ _ ∧ _ ∧ _ := ⟨blk_cell hac 0, blk_cell hac 1, blk_cell hac 2, blk_cell hac 3⟩
      have HB := Lib.hid hbA
      have HAC := Lib.hid hac
      clear hbA hac
      refine (value_any HW1.out HD1.out t ht).mono ?_
      rintro e w2 ⟨rfl, hb2⟩
      have HD2 := Lib.hid (HD1.out.below hb2)
      have HB2 := Lib.hid (below_then HB.out HD1.out.le hb2)
      have HAC2 := Lib.hid ((hb2.block _ (lt_of_block HAC.out)).trans HAC.out)
      clear hb2 HB HD1 HAC HW1 c0 c1 c2 f0 f1 f2 a0 a1 a2 a3
      obtain ⟨⟨c0, c1, c2⟩, f0, f1, f2⟩ := HD2.out.cells
      obtain ⟨a0, a1, a2, a3⟩ : _ ∧ _ ∧ _ ∧ _ := ⟨blk_cell HAC2.out 0, blk_cell HAC2.out 1, blk_cell HAC2.out 2, blk_cell HAC2.out 3⟩
      have HD1 := HD2
      have HB := HB2
      have HAC := HAC2
      clear HD2 HB2 HAC2
      simp only [hv, hx]
      go_wp2_with fail
      have HN := Lib.hid (HD1.out.below (below_drew (Below.refl _ _)))
      have HBN := Lib.hid (below_drew HB.out)
      have hgl := lt_of_block HD1.out.blk
      have hal : w.heap.size < w2.heap.size := lt_of_block HAC.out
      clear HB HD1
      go_region_law (refine out_step (W := w2.drew) rfl (.tmp 66) (.tmp 73) rfl B _ s.out 3 n m x rfl _ rfl (by rfl) HN.out.out HN.out.le hlo ?_; intro v1 w1 hT hb1 hg; have hb2 := HBN.out.trans hb1; have hfin := HN.out.putOut hg hT; have hblk := (hg.block g (lt_of_block HN.out.blk) (Kd.R_ne HN.out.out HN.out.blk (by decide))).trans HN.out.blk; have f2' : w1.frozen? ⟨g, 1, none⟩ = false := blk_free hblk 1; have c2' : w1.cell? ⟨g, 1, none⟩ = some vo := blk_cell hblk 1; have hb3 := hb2.setCell (p := ⟨g, 1, none⟩) HN.out.lt v1; obtain ⟨A1, cap1, rfl⟩ := Kd.R_slice hT; rw [List.length_append, List.length_singleton] at hfin hb3; have HF := Lib.hid hfin; have HB3 := Lib.hid hb3; clear hT hb1 hg hb2 hfin hblk hb3 c0 c1 c2 f0 f1 f2 a0 a1 a2 a3)
      all_goals
        go_wp2_with fail
        go_ret
        exact ⟨rfl, HB3.out, _, _, _, HF.out⟩
    · have hone : oneA s ⟨5, n, m, t⟩ = ({ s with out := s.out ++ [⟨5, 0, 0, x⟩] }, true) := by unfold oneA; simp [hv, hx]
      rw [hone]
      clear hone hk hk2 hk4
      have hbA := (Below.refl B w).alloc h.le (.cells #[.int .i64 5, .int .i64 n, .int .i64 m, .string t] 80)
      have hd1 := h.below ((Below.refl _ w).alloc (Nat.le_refl _) (.cells #[.int .i64 5, .int .i64 n, .int .i64 m, .string t] 80))
      have hw1 := hw.below ((Below.refl _ w).alloc (Nat.le_refl _) (.cells #[.int .i64 5, .int .i64 n, .int .i64 m, .string t] 80))
      have hac := blk_new w (.cells #[.int .i64 5, .int .i64 n, .int .i64 m, .string t] 80)
      have HD1 := Lib.hid hd1
      have HW1 := Lib.hid hw1
      clear hd1 h hw1
      go_enter Tryz.func48, Tryz.ntmps48
      go_wp2_with fail
      generalize w.alloc (.cells #[.int .i64 5, .int .i64 n, .int .i64 m, .string t] 80) = W at hac HD1 HW1 hbA ⊢
      obtain ⟨⟨c0, c1, c2⟩, f0, f1, f2⟩ := HD1.out.cells
      obtain ⟨a0, a1, a2, a3⟩ : _ ∧ _ ∧ _ ∧ _ := ⟨blk_cell hac 0, blk_cell hac 1, blk_cell hac 2, blk_cell hac 3⟩
      have HB := Lib.hid hbA
      have HAC := Lib.hid hac
      clear hbA hac
      refine (value_any HW1.out HD1.out t ht).mono ?_
      rintro e w2 ⟨rfl, hb2⟩
      have HD2 := Lib.hid (HD1.out.below hb2)
      have HB2 := Lib.hid (below_then HB.out HD1.out.le hb2)
      have HAC2 := Lib.hid ((hb2.block _ (lt_of_block HAC.out)).trans HAC.out)
      clear hb2 HB HD1 HAC HW1 c0 c1 c2 f0 f1 f2 a0 a1 a2 a3
      obtain ⟨⟨c0, c1, c2⟩, f0, f1, f2⟩ := HD2.out.cells
      obtain ⟨a0, a1, a2, a3⟩ : _ ∧ _ ∧ _ ∧ _ := ⟨blk_cell HAC2.out 0, blk_cell HAC2.out 1, blk_cell HAC2.out 2, blk_cell HAC2.out 3⟩
      have HD1 := HD2
      have HB := HB2
      have HAC := HAC2
      clear HD2 HB2 HAC2
      simp only [hv, hx]
      have HN := HD1
      have HBN := HB
      go_wp2_with (at_builtin; refine out_append rfl (.tmp 85) (.tmp 88) rfl B _ s.out 5 0 0 x rfl _ rfl ?aN85 HN.out.out HN.out.le hlo ?_)
      case aN85 => rfl
      intro v1 w1 hT hb1 hg
      have hb2 := HBN.out.trans hb1
      have hfin := HN.out.putOut hg hT
      have hblk := (hg.block g (lt_of_block HN.out.blk) (Kd.R_ne HN.out.out HN.out.blk (by decide))).trans HN.out.blk
      have f2' : w1.frozen? ⟨g, 1, none⟩ = false := blk_free hblk 1
      have c2' : w1.cell? ⟨g, 1, none⟩ = some vo := blk_cell hblk 1
      have hb3 := hb2.setCell (p := ⟨g, 1, none⟩) HN.out.lt v1
      obtain ⟨A1, cap1, rfl⟩ := Kd.R_slice hT
      rw [List.length_append, List.length_singleton] at hfin hb3
      have HF := Lib.hid hfin
      have HB3 := Lib.hid hb3
      clear hT hb1 hg hb2 hfin hblk hb3 c0 c1 c2 f0 f1 f2 a0 a1 a2 a3
      go_wp2_with fail
      go_ret
      exact ⟨rfl, HB3.out, _, _, _, HF.out⟩
end Go.Proofs.YtemoonhnncopoaaGreatDoor
end
section
set_option linter.unusedVariables false
set_option linter.unusedSimpArgs false
namespace Go.Proofs.YtemoonhnncopoaaGreatDoor
open Go.RowKit Go.Proofs.YtemoonhnncopoaaGreatDoorW.PrintWords
open PX (T V)
theorem nil_none (w : World) (n cap : Nat) : (binOp .eql 23 (.slice none n cap) (.slice none 0 0)).run Tryz.prog w = .ok (.bool true) w := by kernel_rfl
theorem nil_some (w : World) (ad : Addr) (n cap : Nat) : (binOp .eql 23 (.slice (some ad) n cap) (.slice none 0 0)).run Tryz.prog w = .ok (.bool false) w := by kernel_rfl
set_option maxHeartbeats 4000000 in
set_option maxRecDepth 100000 in
theorem clone_any (E : Option Addr) (cap : Nat) (env : List Int) (w : World) (hc : env.length ≤ cap) (hC : NumsC w E env.length env) (hl : env.length ≤ 1000000) :
    Calls Tryz.prog 47 #[.slice E env.length cap] w fun e w' => ∃ ve, e = .returned ve ∧ EnvR w' w.heap.size ve env ∧ Below w.heap.size w w' := by
  have HC := Lib.hid hC
  have z1 := nil_none
  have z2 := nil_some
  cases E with
  | none =>
    obtain rfl : env = [] := by
      cases env with
      | nil => rfl
      | cons a l => obtain ⟨ad, h, _⟩ := hC.2.2 (by simp); cases h
    clear hC
    go_enter Tryz.func47, Tryz.ntmps47
    go_wp2_with fail
    go_ret
    exact ⟨_, rfl, Kd.R_nil _ _ _ _ _, Below.refl _ _⟩
  | some ad =>
    clear hC
    go_enter Tryz.func47, Tryz.ntmps47
    go_wp2_with (at_builtin; refine Kd.R_append_rows (Kd.int .i64) (Rr := (Kd.int .i64).K w) (w0 := w) w.heap.size rfl (.tmp 5) (.tmp 6) 23 2 (.int .i64 0) 8 rfl Tryz.underlying23 (by kernel_rfl) rfl (by decide) (by omega) (.slice (some ⟨w.heap.size, 0, none⟩) 0 0) [] env (some ad) env.length cap (fun _ => True) (fun _ => False) rfl rfl ?aA ?aB (fun _ _ h => h) (fun _ h => h.elim) (fun _ _ => trivial) ?aC ?aD ?aE ?_)
    case aA => exact Kd.R_of_own (enc := Value.int .i64) (h1 := fun _ => rfl) (own_lit_of (enc := Value.int .i64) w w.heap.size 2 [] (Nat.le_refl _) (by simp)) (fun _ _ => trivial)
    case aB => exact Kd.C_alloc HC.out _
    case aC => exact (Below.refl _ w).alloc (Nat.le_refl _) _
    case aD => simp
    case aE => simp; omega
    intro v1 w1 h1 h2 h3 h4
    go_wp2_with fail
    go_ret
    exact ⟨_, rfl, h1, h2⟩
theorem one_len (s : Ds) (a : Ac) : (oneA s a).1.out.length ≤ s.out.length + 1 ∧ (oneA s a).1.inn.length ≤ s.inn.length + 1 := by
  unfold oneA
  repeat' split
  all_goals simp
theorem acts_at {w : World} {A : Option Addr} {l : List Ac} (h : ActsC w A l.length l) (q : Nat) (hq : q < l.length) : ∃ ad, A = some ad ∧ w.cell? (ad.add (q * 4)) = some (.int .i64 l[q].f0) ∧ w.cell? ⟨(ad.add (q * 4)).block, (ad.add (q * 4)).off + 1, none⟩ = some (.int .i64 l[q].f1) ∧ w.cell? ⟨(ad.add (q * 4)).block, (ad.add (q * 4)).off + 2, none⟩ = some (.int .i64 l[q].f2) ∧ w.cell? ⟨(ad.add (q * 4)).block, (ad.add (q * 4)).off + 3, none⟩ = some (.string l[q].f3) := by
  obtain ⟨ad, h1, h2⟩ := PAll.at_T80 h (q : Int) (by omega) (by omega)
  have hr : PAll.rd_T80 l (q : Int) = l[q] := by simp [PAll.rd_T80, List.getD_eq_getElem?_getD, List.getElem?_eq_getElem hq]
  rw [hr, Int.toNat_natCast] at h2
  exact ⟨ad, h1, h2⟩
set_option maxHeartbeats 16000000 in
set_option maxRecDepth 100000 in
theorem do_any (A : Option Addr) (c : Nat) (l : List Ac) (E : Option Addr) (cap : Nat) (env : List Int) (w : World) (hw : Laid w) (hA : ActsC w A l.length l) (hcA : l.length ≤ c) (hC : NumsC w E env.length env) (hc : env.length ≤ cap) (hl : l.length ≤ 1000) (hle : env.length ≤ 1000000) (ht : ∀ a ∈ l, a.f3.size ≤ 281474976710656) :
    Calls Tryz.prog 15 #[.slice A l.length c, .slice E env.length cap] w fun e w' => ∃ ve vo vi, e = .returned (.tuple #[ve, vo, vi]) ∧ EnvR w' w.heap.size ve (doA ⟨env, [], []⟩ l).env ∧ OutR w' w.heap.size vo (doA ⟨env, [], []⟩ l).out ∧ InnR w' w.heap.size vi (doA ⟨env, [], []⟩ l).inn ∧ Below w.heap.size w w' := by
  have HA := Lib.hid hA
  have HT := Lib.hid ht
  clear hA ht
  go_enter Tryz.func15, Tryz.ntmps15
  go_wp2_with fail
  refine (clone_any E cap env w hc hC hle).mono ?_
  rintro e w1 ⟨ve, rfl, hv, hb1⟩
  have HD0 : Hid (Doer w1.heap.size w.heap.size (w1.alloc (.cells #[ve, .slice none 0 0, .slice none 0 0] 84)) ⟨env, [], []⟩ ve (.slice none 0 0) (.slice none 0 0)) :=
    Lib.hid ⟨blk_new _ _, Kd.R_alloc hv _, Kd.R_nil _ _ _ _ _, Kd.R_nil _ _ _ _ _, hb1.size, by have := hb1.size; simp; omega⟩
  have HB0 := Lib.hid (hb1.alloc hb1.size (.cells #[ve, .slice none 0 0, .slice none 0 0] 84))
  obtain ⟨A0, c0, rfl⟩ := Kd.R_slice hv
  generalize hg : w1.heap.size = g at *
  have hf := hg
  clear hf hv hb1 hC
  have hL := fun (a : Ac) (s : Ds) (l : List Ac) => show doA s (a :: l) = if (oneA s a).2 then doA (oneA s a).1 l else { (oneA s a).1 with inn := (oneA s a).1.inn ++ [1001] } from rfl
  have HL := Lib.hid hL
  clear hL
  go_wp2_with fail
  go_loopw [16] (fun i wr => ∃ (q : Nat) (s : Ds) (ve vo vi : Value), i = .int .i64 q ∧ q ≤ l.length ∧ Hid (Doer g w.heap.size wr s ve vo vi) ∧ Hid (Below w.heap.size w wr) ∧ Hid (s.out.length ≤ q ∧ s.inn.length ≤ q) ∧ Hid (doA ⟨env, [], []⟩ l = doA s (l.drop q))) (fun i _ => l.length - (intOf i).toNat)
  case atStart => exact ⟨0, ⟨env, [], []⟩, _, _, _, rfl, by omega, HD0, HB0, Lib.hid ⟨by simp, by simp⟩, Lib.hid rfl⟩
  case round =>
    clear HD0 HB0
    obtain ⟨q, s, ve, vo, vi, rfl, hq, HD, HB, HS, HE⟩ := hrel
    obtain ⟨⟨c0, c1, c2⟩, f0, f1, f2⟩ := HD.out.cells
    by_cases hlt : q < l.length
    · obtain ⟨ad, rfl, a0, a1, a2, a3⟩ := acts_at (Kd.C_below HA.out HB.out) q hlt
      have hds : l.drop q = l[q] :: l.drop (q + 1) := List.drop_eq_getElem_cons hlt
      have HE2 := HE.out
      rw [hds, HL.out] at HE2
      have HT2 := Lib.hid (HT.out l[q] (List.getElem_mem hlt))
      have HLn := Lib.hid (one_len s l[q])
      have p1 : ((q : Int) < (l.length : Int)) = True := eq_true (by omega)
      clear hds HE
      generalize l[q] = a at *
      obtain ⟨k, n, m, t⟩ := a
      have HE := Lib.hid HE2
      clear HE2
      simp only at a0 a1 a2 a3
      go_wp2_with fail
      have HDa := Lib.hid (HD.out.below ((Below.refl _ wr).alloc (Nat.le_refl _) (.cells #[.int .i64 k, .int .i64 n, .int .i64 m, .string t] 80)))
      have HBa := Lib.hid (HB.out.alloc HD.out.le (.cells #[.int .i64 k, .int .i64 n, .int .i64 m, .string t] 80))
      refine (one_any (hw.below HBa.out) HDa.out k n m t HT2.out (by have := HS.out; omega) (by have := HS.out; omega)).mono ?_
      rintro e w3 ⟨rfl, hb3, ve', vo', vi', hD3⟩
      have HD3 := Lib.hid hD3
      have HB3 := Lib.hid (HBa.out.trans hb3)
      clear hb3 hD3 a0 a1 a2 a3 c0 c1 c2 f0 f1 f2
      generalize oneA s ⟨k, n, m, t⟩ = r at HE HLn HD3 ⊢
      obtain ⟨s', ok⟩ := r
      cases ok with
      | true =>
        go_wp2_with fail
        go_roundw
        case rel => exact ⟨q + 1, s', ve', vo', vi', by go_num, by omega, HD3, HB3, Lib.hid (by have h3 := HS.out; have h4 : s'.out.length ≤ s.out.length + 1 := HLn.out.1; have h5 : s'.inn.length ≤ s.inn.length + 1 := HLn.out.2; omega), HE⟩
        case measure => simp [intOf]; omega
      | false =>
        obtain ⟨A3, c3, rfl⟩ := Kd.R_slice HD3.out.inn
        obtain ⟨⟨c0, c1, c2⟩, f0, f1, f2⟩ := HD3.out.cells
        have hi3 : s'.inn.length < 1000000 := by have := HLn.out.2; have := HS.out; have h5 : s'.inn.length ≤ s.inn.length + 1 := HLn.out.2; omega
        go_wp2_with (at_builtin; refine inn_append rfl (.tmp 28) (.tmp 29) rfl w.heap.size _ s'.inn 1001 rfl _ rfl ?aN HD3.out.inn HD3.out.le hi3 ?_)
        case aN => rfl
        intro v1 w4 hT hb1 hg4
        have hb2 := HB3.out.trans hb1
        have hfin := HD3.out.putInn hg4 hT
        have hblk := (hg4.block g (lt_of_block HD3.out.blk) (Kd.R_ne HD3.out.inn HD3.out.blk (by decide))).trans HD3.out.blk
        have f2' : w4.frozen? ⟨g, 2, none⟩ = false := blk_free hblk 2
        have c2' : w4.cell? ⟨g, 2, none⟩ = some _ := blk_cell hblk 2
        have hb3 := hb2.setCell (p := ⟨g, 2, none⟩) HD3.out.lt v1
        obtain ⟨A1, cap1, rfl⟩ := Kd.R_slice hT
        rw [List.length_append, List.length_singleton] at hfin hb3
        have HF := Lib.hid hfin
        have HB4 := Lib.hid hb3
        clear hT hb1 hg4 hb2 hfin hblk hb3 c0 c1 c2 f0 f1 f2
        go_wp2_with fail
        generalize w4.setCell ⟨g, 2, none⟩ (.slice A1 (s'.inn.length + 1) cap1) = w5 at HF HB4 ⊢
        obtain ⟨⟨c0, c1, c2⟩, f0, f1, f2⟩ := HF.out.cells
        repeat (go_quiet (fail); try go_wp2)
        go_ret3
        have HE2 := HE.out
        rw [if_neg (by simp)] at HE2
        rw [HE2]
        exact ⟨_, _, _, rfl, Kd.R_drewN HF.out.env _, Kd.R_drewN HF.out.out _, Kd.R_drewN HF.out.inn _, below_drewN' HB4.out _⟩
    · obtain rfl : q = l.length := by omega
      go_wp2_with fail
      repeat (go_quiet (fail); try go_wp2)
      go_ret3
      have HE2 := HE.out
      rw [List.drop_length] at HE2
      rw [show doA s [] = s from rfl] at HE2
      rw [HE2]
      exact ⟨_, _, _, rfl, Kd.R_drewN HD.out.env _, Kd.R_drewN HD.out.out _, Kd.R_drewN HD.out.inn _, below_drewN' HB.out _⟩
end Go.Proofs.YtemoonhnncopoaaGreatDoor
end
