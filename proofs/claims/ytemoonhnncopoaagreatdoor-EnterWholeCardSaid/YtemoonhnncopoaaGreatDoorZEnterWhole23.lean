/- Texts of this claim, merged (Chst, Chtr, Chk, LaidE, Chup, ActArg, KdArg). -/
import Derived.OpenShut
import Derived.Test.YtemoonhnncopoaaGreatDoorZEnterWhole22
import Derived.Test.YtemoonhnncopoaaGreatDoorZEnterWhole21
import Derived.Test.YtemoonhnncopoaaGreatDoorZEnterWhole19
import Derived.Test.YtemoonhnncopoaaGreatDoorZEnterWhole20
import Derived.Test.YtemoonhnncopoaaGreatDoorZEnterWhole1
set_option linter.unusedVariables false
set_option linter.unusedSimpArgs false
set_option maxRecDepth 100000
set_option maxHeartbeats 32000000
section
namespace Go.Proofs.YtemoonhnncopoaaGreatDoor
open Go.RowKit Go.Proofs.YtemoonhnncopoaaGreatDoorW.PrintWords
open PX (T V)
noncomputable def stateP (v : Int) (st : List Sta) (i : Int) : Int :=
 if (PAll.rd_T54 st i).f0 < 1 ∨ 6 < (PAll.rd_T54 st i).f0 ∨ i = 0 ∧ (PAll.rd_T54 st i).f0 ≠ 2 then 10
 else if parP st i ≠ 0 then parP st i
 else if ((PAll.rd_T54 st i).f0 = 2 ∨ (PAll.rd_T54 st i).f0 = 3) ∧ kidsP st i = [] then 4
 else if iniP st i = false then 11
 else if histP (PAll.rd_T54 st i).f0 = true ∧ 0 < (PAll.rd_T54 st i).f3.length + (PAll.rd_T54 st i).f4.length then 1
 else if actsP v (PAll.rd_T54 st i).f3 = false then 1
 else if actsP v (PAll.rd_T54 st i).f4 = false then 1
 else 0
theorem state_full {A B : Option Addr} {ca cb : Nat} {st : List Sta} {tr : List Tra} {w : World} (h : ChM w A ca st B cb tr) (i : Int) (h0 : 0 ≤ i) (h1 : i < (st.length : Int)) :
  ∃ ad A2 c2 A3 c3 A4 c4, A = some ad ∧ w.cell? (ad.add (i.toNat * 5)) = some (.int .i64 (PAll.rd_T54 st i).f0) ∧ w.cell? ⟨(ad.add (i.toNat * 5)).block, (ad.add (i.toNat * 5)).off + 1, none⟩ = some (.int .i64 (PAll.rd_T54 st i).f1) ∧
   w.cell? ⟨(ad.add (i.toNat * 5)).block, (ad.add (i.toNat * 5)).off + 2, none⟩ = some (.slice A2 (PAll.rd_T54 st i).f2.length c2) ∧ w.cell? ⟨(ad.add (i.toNat * 5)).block, (ad.add (i.toNat * 5)).off + 3, none⟩ = some (.slice A3 (PAll.rd_T54 st i).f3.length c3) ∧
   w.cell? ⟨(ad.add (i.toNat * 5)).block, (ad.add (i.toNat * 5)).off + 4, none⟩ = some (.slice A4 (PAll.rd_T54 st i).f4.length c4) ∧ (PAll.rd_T54 st i).f3.length ≤ c3 ∧ ActsC w A3 (PAll.rd_T54 st i).f3.length (PAll.rd_T54 st i).f3 ∧ (PAll.rd_T54 st i).f4.length ≤ c4 ∧ ActsC w A4 (PAll.rd_T54 st i).f4.length (PAll.rd_T54 st i).f4 := by
 obtain ⟨ad, A2, c2, A3, c3, A4, c4, hA, k0, k1, k2, k3, k4, l2, g2, l3, g3, l4, g4⟩ := PAll.at_T54 h.cs i h0 h1
 exact ⟨ad, A2, c2, A3, c3, A4, c4, hA, k0, k1, k2, k3, k4, l3, g3, l4, g4⟩
theorem state_any (v : Int) (A B : Option Addr) (ca cb : Nat) (st : List Sta) (tr : List Tra) (i : Int) (h0 : 0 ≤ i) (h1 : i < (st.length : Int)) (hn : st.length ≤ 1000) (hsz : ∀ a ∈ (PAll.rd_T54 st i).f3 ++ (PAll.rd_T54 st i).f4, a.f3.size ≤ 281474976710656) (hn3 : (PAll.rd_T54 st i).f3.length ≤ 1000) (hn4 : (PAll.rd_T54 st i).f4.length ≤ 1000) (w : World) (hw : Laid w) (hM : ChM w A ca st B cb tr) :
  Calls Tryz.prog 77 #[ckV v A B st.length tr.length ca cb, .int .i64 i] w fun e w' => e = .returned (.int .i64 (stateP v st i)) ∧ Below w.heap.size w w' := by
 have hM1 := hM.below ((Below.refl _ w).alloc (Nat.le_refl _) (.cells #[.int .i64 v, .slice A st.length ca, .slice B tr.length cb] 124))
 obtain ⟨ad, A2, c2, A3, c3, A4, c4, rfl, a0, a1, a2, a3, a4, l3, g3, l4, g4⟩ := state_full hM1 i h0 h1
 have HP : Hid (stateP v st i = if (PAll.rd_T54 st i).f0 < 1 ∨ 6 < (PAll.rd_T54 st i).f0 ∨ i = 0 ∧ (PAll.rd_T54 st i).f0 ≠ 2 then 10
  else if parP st i ≠ 0 then parP st i
  else if ((PAll.rd_T54 st i).f0 = 2 ∨ (PAll.rd_T54 st i).f0 = 3) ∧ kidsP st i = [] then 4
  else if iniP st i = false then 11
  else if histP (PAll.rd_T54 st i).f0 = true ∧ 0 < (PAll.rd_T54 st i).f3.length + (PAll.rd_T54 st i).f4.length then 1
  else if actsP v (PAll.rd_T54 st i).f3 = false then 1
  else if actsP v (PAll.rd_T54 st i).f4 = false then 1
  else 0) := Lib.hid rfl
 generalize PAll.rd_T54 st i = x at *
 obtain ⟨k, p, ini, en, ex⟩ := x
 simp only at HP a0 a1 a2 a3 a4 l3 g3 l4 g4 hsz hn3 hn4
 have hb0 : Below w.heap.size w ((w.alloc (.cells #[.int .i64 v, .slice (some ad) st.length ca, .slice B tr.length cb] 124)).alloc (.cells #[.int .i64 k, .int .i64 p, .slice A2 ini.length c2, .slice A3 en.length c3, .slice A4 ex.length c4] 54)) :=
  ((Below.refl _ w).alloc (Nat.le_refl _) _).alloc (by simp) _
 have HB0 := Lib.hid hb0
 have HW := Lib.hid (hw.below hb0)
 have HM := Lib.hid (hM.below hb0)
 have H3 := Lib.hid (Kd.C_alloc g3 (.cells #[.int .i64 k, .int .i64 p, .slice A2 ini.length c2, .slice A3 en.length c3, .slice A4 ex.length c4] 54))
 have H4 := Lib.hid (Kd.C_alloc g4 (.cells #[.int .i64 k, .int .i64 p, .slice A2 ini.length c2, .slice A3 en.length c3, .slice A4 ex.length c4] 54))
 have p0 : (0 ≤ i) = True := eq_true h0
 have p1 : (i < (st.length : Int)) = True := eq_true h1
 clear hb0 hw hM hM1 g3 g4
 by_cases hbad : k < 1 ∨ 6 < k ∨ i = 0 ∧ k ≠ 2
 ·have HR : Hid (stateP v st i = 10) := Lib.hid (by rw [HP.out, if_pos hbad])
  have hor : decide (k < 1) = true ∨ (decide (k < 1) = false ∧ decide (k > 6) = true) ∨ (decide (k < 1) = false ∧ decide (k > 6) = false ∧ (i == 0) = true ∧ (k == 2) = false) := by
   by_cases q1 : k < 1
   ·exact .inl (decide_eq_true q1)
   ·by_cases q2 : 6 < k
    ·exact .inr (.inl ⟨decide_eq_false q1, decide_eq_true q2⟩)
    ·rcases hbad with h | h | ⟨h, h'⟩
     ·exact absurd h q1
     ·exact absurd h q2
     ·exact .inr (.inr ⟨decide_eq_false q1, decide_eq_false q2, by simp [h], by simp [h']⟩)
  clear hbad HP
  go_enter Tryz.func77, Tryz.ntmps77
  rcases hor with q1 | ⟨q1, q2⟩ | ⟨q1, q2, q3, q4⟩
  ·go_wp2_with fail
   go_ret
   exact ⟨by rw [HR.out]; rfl, HB0.out⟩
  ·go_wp2_with fail
   go_ret
   exact ⟨by rw [HR.out]; rfl, HB0.out⟩
  ·have q5 : (k != 2) = true := by simpa using q4
   go_wp2_with fail
   go_ret
   exact ⟨by rw [HR.out]; rfl, HB0.out⟩
 have HP1 := HP.out
 rw [if_neg hbad] at HP1
 have HP2 := Lib.hid HP1
 have hfin : ∀ wr, Below ((w.alloc (.cells #[.int .i64 v, .slice (some ad) st.length ca, .slice B tr.length cb] 124)).alloc (.cells #[.int .i64 k, .int .i64 p, .slice A2 ini.length c2, .slice A3 en.length c3, .slice A4 ex.length c4] 54)).heap.size ((w.alloc (.cells #[.int .i64 v, .slice (some ad) st.length ca, .slice B tr.length cb] 124)).alloc (.cells #[.int .i64 k, .int .i64 p, .slice A2 ini.length c2, .slice A3 en.length c3, .slice A4 ex.length c4] 54)) wr → Below w.heap.size w wr := fun wr h => HB0.out.trans (h.mono HB0.out.size)
 have HFin := Lib.hid hfin
 have HBr : Hid (Below ((w.alloc (.cells #[.int .i64 v, .slice (some ad) st.length ca, .slice B tr.length cb] 124)).alloc (.cells #[.int .i64 k, .int .i64 p, .slice A2 ini.length c2, .slice A3 en.length c3, .slice A4 ex.length c4] 54)).heap.size ((w.alloc (.cells #[.int .i64 v, .slice (some ad) st.length ca, .slice B tr.length cb] 124)).alloc (.cells #[.int .i64 k, .int .i64 p, .slice A2 ini.length c2, .slice A3 en.length c3, .slice A4 ex.length c4] 54)) ((w.alloc (.cells #[.int .i64 v, .slice (some ad) st.length ca, .slice B tr.length cb] 124)).alloc (.cells #[.int .i64 k, .int .i64 p, .slice A2 ini.length c2, .slice A3 en.length c3, .slice A4 ex.length c4] 54))) := Lib.hid (Below.refl _ _)
 obtain ⟨hk1, hk2, _, _⟩ := boxed2 HBr.out
 have HCK := Lib.hid hk1
 have HST := Lib.hid hk2
 have HZ := Lib.hid hsz
 clear hfin hk1 hk2 hsz
 have hg1 : decide (k < 1) = false := decide_eq_false (by omega)
 have hg2 : decide (k > 6) = false := decide_eq_false (by omega)
 have hi0 : i = 0 → k = 2 := fun h => Classical.byContradiction fun h' => hbad (.inr (.inr ⟨h, h'⟩))
 clear hbad HP HP1
 by_cases k2 : k = 2
 ·subst k2
  clear hg1 hg2 hi0
  go_enter Tryz.func77, Tryz.ntmps77
  have hor : (i == 0) = false ∨ (i == 0) = true := by cases (i == 0) <;> simp
  rcases hor with q | q
  all_goals
   go_wp2_with fail
   refine (parent_any HM.out v i h0 h1 (by omega)).mono ?_
   by_cases hz : parP st i = 0
   ·rw [hz]
    have HP1 := HP2.out
    rw [if_neg (fun h => h hz)] at HP1
    have HP2 := Lib.hid HP1
    clear HP1
    clear hz
    rintro e w1 ⟨rfl, hb1⟩
    have HB1 := Lib.hid (below_then HBr.out HBr.out.size hb1)
    have hck := (HB1.out.block _ (lt_of_block HCK.out)).trans HCK.out
    have hst := (HB1.out.block _ (lt_of_block HST.out)).trans HST.out
    obtain ⟨y0, y1, y2⟩ := chk_cells hck
    obtain ⟨x0, x1, x2, x3, x4⟩ : _ ∧ _ ∧ _ ∧ _ ∧ _ := ⟨blk_cell hst 0, blk_cell hst 1, blk_cell hst 2, blk_cell hst 3, blk_cell hst 4⟩
    clear hck hst hb1
    go_wp2_with fail
    refine (kids_any (HM.out.below HB1.out) v i (by omega)).mono ?_
    clear y0 y1 y2 x0 x1 x2 x3 x4
    rintro e w2 ⟨u, rfl, hu, hb2⟩
    obtain ⟨U, uc, rfl⟩ := Kd.R_slice hu
    clear hu
    have HB2 := Lib.hid (below_then HB1.out HB1.out.size hb2)
    have hck := (HB2.out.block _ (lt_of_block HCK.out)).trans HCK.out
    have hst := (HB2.out.block _ (lt_of_block HST.out)).trans HST.out
    obtain ⟨y0, y1, y2⟩ := chk_cells hck
    obtain ⟨x0, x1, x2, x3, x4⟩ : _ ∧ _ ∧ _ ∧ _ ∧ _ := ⟨blk_cell hst 0, blk_cell hst 1, blk_cell hst 2, blk_cell hst 3, blk_cell hst 4⟩
    clear hck hst hb2
    by_cases hk : kidsP st i = []
    ·have HR : Hid (stateP v st i = 4) := Lib.hid (by rw [HP2.out]; rw [if_pos ⟨by decide, hk⟩])
     rw [hk]
     clear hk
     go_wp2_with fail
     go_ret
     exact ⟨by rw [HR.out]; rfl, HFin.out _ HB2.out⟩
    ·have HP1 := HP2.out
     rw [if_neg (fun h => hk h.2)] at HP1
     have HP2 := Lib.hid HP1
     clear HP1
     have d7 : (((kidsP st i).length : Int) == 0) = false := by
      have : (kidsP st i).length ≠ 0 := fun h => hk (List.length_eq_zero_iff.1 h)
      simp; exact hk
     clear hk
     go_wp2_with fail
     refine (initial_any (HM.out.below HB2.out) v i h0 h1).mono ?_
     cases e0 : iniP st i with
     | false =>
      have HR : Hid (stateP v st i = 11) := Lib.hid (by rw [HP2.out]; rw [if_pos e0])
      clear e0
      clear y0 y1 y2 x0 x1 x2 x3 x4
      rintro e w3 ⟨rfl, hb3⟩
      have HB3 := Lib.hid (below_then HB2.out HB2.out.size hb3)
      have hck := (HB3.out.block _ (lt_of_block HCK.out)).trans HCK.out
      have hst := (HB3.out.block _ (lt_of_block HST.out)).trans HST.out
      obtain ⟨y0, y1, y2⟩ := chk_cells hck
      obtain ⟨x0, x1, x2, x3, x4⟩ : _ ∧ _ ∧ _ ∧ _ ∧ _ := ⟨blk_cell hst 0, blk_cell hst 1, blk_cell hst 2, blk_cell hst 3, blk_cell hst 4⟩
      clear hck hst hb3
      go_wp2_with fail
      go_ret
      exact ⟨by rw [HR.out]; rfl, HFin.out _ HB3.out⟩
     | true =>
      have HP1 := HP2.out
      rw [if_neg (by rw [e0]; simp)] at HP1
      have HP2 := Lib.hid HP1
      clear HP1
      clear e0
      clear y0 y1 y2 x0 x1 x2 x3 x4
      rintro e w3 ⟨rfl, hb3⟩
      have HB3 := Lib.hid (below_then HB2.out HB2.out.size hb3)
      have hck := (HB3.out.block _ (lt_of_block HCK.out)).trans HCK.out
      have hst := (HB3.out.block _ (lt_of_block HST.out)).trans HST.out
      obtain ⟨y0, y1, y2⟩ := chk_cells hck
      obtain ⟨x0, x1, x2, x3, x4⟩ : _ ∧ _ ∧ _ ∧ _ ∧ _ := ⟨blk_cell hst 0, blk_cell hst 1, blk_cell hst 2, blk_cell hst 3, blk_cell hst 4⟩
      clear hck hst hb3
      go_wp2_with fail
      refine (hist_any _ _).mono ?_
      rw [show histP 2 = false from rfl]
      have HP1 := HP2.out
      rw [if_neg (by rw [show histP 2 = false from rfl]; simp)] at HP1
      have HP2 := Lib.hid HP1
      clear HP1
      clear y0 y1 y2 x0 x1 x2 x3 x4
      rintro e w4 ⟨rfl, hb4⟩
      have HB4 := Lib.hid (below_then HB3.out HB3.out.size hb4)
      have hck := (HB4.out.block _ (lt_of_block HCK.out)).trans HCK.out
      have hst := (HB4.out.block _ (lt_of_block HST.out)).trans HST.out
      obtain ⟨y0, y1, y2⟩ := chk_cells hck
      obtain ⟨x0, x1, x2, x3, x4⟩ : _ ∧ _ ∧ _ ∧ _ ∧ _ := ⟨blk_cell hst 0, blk_cell hst 1, blk_cell hst 2, blk_cell hst 3, blk_cell hst 4⟩
      clear hck hst hb4
      go_wp2_with fail
      refine (acts_any v (some ad) B st.length tr.length ca cb A3 c3 en (fun a ha => HZ.out a (by simp [ha])) _ (HW.out.below HB4.out) (Kd.C_below H3.out HB4.out) l3).mono ?_
      cases e1 : actsP v en with
      | false =>
       have HR : Hid (stateP v st i = 1) := Lib.hid (by rw [HP2.out]; rw [if_pos e1])
       clear e1
       clear y0 y1 y2 x0 x1 x2 x3 x4
       rintro e w5 ⟨rfl, hb5⟩
       have HB5 := Lib.hid (below_then HB4.out HB4.out.size hb5)
       have hck := (HB5.out.block _ (lt_of_block HCK.out)).trans HCK.out
       have hst := (HB5.out.block _ (lt_of_block HST.out)).trans HST.out
       obtain ⟨y0, y1, y2⟩ := chk_cells hck
       obtain ⟨x0, x1, x2, x3, x4⟩ : _ ∧ _ ∧ _ ∧ _ ∧ _ := ⟨blk_cell hst 0, blk_cell hst 1, blk_cell hst 2, blk_cell hst 3, blk_cell hst 4⟩
       clear hck hst hb5
       go_wp2_with fail
       go_ret
       exact ⟨by rw [HR.out]; rfl, HFin.out _ HB5.out⟩
      | true =>
       have HP1 := HP2.out
       rw [if_neg (by rw [e1]; simp)] at HP1
       have HP2 := Lib.hid HP1
       clear HP1
       clear e1
       clear y0 y1 y2 x0 x1 x2 x3 x4
       rintro e w5 ⟨rfl, hb5⟩
       have HB5 := Lib.hid (below_then HB4.out HB4.out.size hb5)
       have hck := (HB5.out.block _ (lt_of_block HCK.out)).trans HCK.out
       have hst := (HB5.out.block _ (lt_of_block HST.out)).trans HST.out
       obtain ⟨y0, y1, y2⟩ := chk_cells hck
       obtain ⟨x0, x1, x2, x3, x4⟩ : _ ∧ _ ∧ _ ∧ _ ∧ _ := ⟨blk_cell hst 0, blk_cell hst 1, blk_cell hst 2, blk_cell hst 3, blk_cell hst 4⟩
       clear hck hst hb5
       go_wp2_with fail
       refine (acts_any v (some ad) B st.length tr.length ca cb A4 c4 ex (fun a ha => HZ.out a (by simp [ha])) _ (HW.out.below HB5.out) (Kd.C_below H4.out HB5.out) l4).mono ?_
       cases e2 : actsP v ex with
       | false =>
        have HR : Hid (stateP v st i = 1) := Lib.hid (by rw [HP2.out]; rw [if_pos e2])
        clear e2
        clear y0 y1 y2 x0 x1 x2 x3 x4
        rintro e w6 ⟨rfl, hb6⟩
        have HB6 := Lib.hid (below_then HB5.out HB5.out.size hb6)
        have hck := (HB6.out.block _ (lt_of_block HCK.out)).trans HCK.out
        have hst := (HB6.out.block _ (lt_of_block HST.out)).trans HST.out
        obtain ⟨y0, y1, y2⟩ := chk_cells hck
        obtain ⟨x0, x1, x2, x3, x4⟩ : _ ∧ _ ∧ _ ∧ _ ∧ _ := ⟨blk_cell hst 0, blk_cell hst 1, blk_cell hst 2, blk_cell hst 3, blk_cell hst 4⟩
        clear hck hst hb6
        go_wp2_with fail
        go_ret
        exact ⟨by rw [HR.out]; rfl, HFin.out _ HB6.out⟩
       | true =>
        have HR : Hid (stateP v st i = 0) := Lib.hid (by rw [HP2.out]; rw [if_neg (by rw [e2]; simp)])
        clear e2
        clear y0 y1 y2 x0 x1 x2 x3 x4
        rintro e w6 ⟨rfl, hb6⟩
        have HB6 := Lib.hid (below_then HB5.out HB5.out.size hb6)
        have hck := (HB6.out.block _ (lt_of_block HCK.out)).trans HCK.out
        have hst := (HB6.out.block _ (lt_of_block HST.out)).trans HST.out
        obtain ⟨y0, y1, y2⟩ := chk_cells hck
        obtain ⟨x0, x1, x2, x3, x4⟩ : _ ∧ _ ∧ _ ∧ _ ∧ _ := ⟨blk_cell hst 0, blk_cell hst 1, blk_cell hst 2, blk_cell hst 3, blk_cell hst 4⟩
        clear hck hst hb6
        go_wp2_with fail
        go_ret
        exact ⟨by rw [HR.out]; rfl, HFin.out _ HB6.out⟩
   ·have HR : Hid (stateP v st i = parP st i) := Lib.hid (by rw [HP2.out]; rw [if_pos hz])
    have d0 : (parP st i == 0) = false := by simp [hz]
    have d00 : (parP st i != 0) = true := by simp [hz]
    generalize parP st i = pc at HR d0 d00 ⊢
    clear hz
    rintro e w1 ⟨rfl, hb1⟩
    have HB1 := Lib.hid (below_then HBr.out HBr.out.size hb1)
    have hck := (HB1.out.block _ (lt_of_block HCK.out)).trans HCK.out
    have hst := (HB1.out.block _ (lt_of_block HST.out)).trans HST.out
    obtain ⟨y0, y1, y2⟩ := chk_cells hck
    obtain ⟨x0, x1, x2, x3, x4⟩ : _ ∧ _ ∧ _ ∧ _ ∧ _ := ⟨blk_cell hst 0, blk_cell hst 1, blk_cell hst 2, blk_cell hst 3, blk_cell hst 4⟩
    clear hck hst hb1
    go_wp2_with fail
    go_ret
    exact ⟨by rw [HR.out]; rfl, HFin.out _ HB1.out⟩
 have hin : i ≠ 0 := fun h => k2 (hi0 h)
 have q : (i == 0) = false := by simp [hin]
 clear hi0
 by_cases k3 : k = 3
 ·subst k3
  clear hg1 hg2 k2
  go_enter Tryz.func77, Tryz.ntmps77
  go_wp2_with fail
  refine (parent_any HM.out v i h0 h1 (by omega)).mono ?_
  by_cases hz : parP st i = 0
  ·rw [hz]
   have HP1 := HP2.out
   rw [if_neg (fun h => h hz)] at HP1
   have HP2 := Lib.hid HP1
   clear HP1
   clear hz
   rintro e w7 ⟨rfl, hb7⟩
   have HB7 := Lib.hid (below_then HBr.out HBr.out.size hb7)
   have hck := (HB7.out.block _ (lt_of_block HCK.out)).trans HCK.out
   have hst := (HB7.out.block _ (lt_of_block HST.out)).trans HST.out
   obtain ⟨y0, y1, y2⟩ := chk_cells hck
   obtain ⟨x0, x1, x2, x3, x4⟩ : _ ∧ _ ∧ _ ∧ _ ∧ _ := ⟨blk_cell hst 0, blk_cell hst 1, blk_cell hst 2, blk_cell hst 3, blk_cell hst 4⟩
   clear hck hst hb7
   go_wp2_with fail
   refine (kids_any (HM.out.below HB7.out) v i (by omega)).mono ?_
   clear y0 y1 y2 x0 x1 x2 x3 x4
   rintro e w8 ⟨u, rfl, hu, hb8⟩
   obtain ⟨U, uc, rfl⟩ := Kd.R_slice hu
   clear hu
   have HB8 := Lib.hid (below_then HB7.out HB7.out.size hb8)
   have hck := (HB8.out.block _ (lt_of_block HCK.out)).trans HCK.out
   have hst := (HB8.out.block _ (lt_of_block HST.out)).trans HST.out
   obtain ⟨y0, y1, y2⟩ := chk_cells hck
   obtain ⟨x0, x1, x2, x3, x4⟩ : _ ∧ _ ∧ _ ∧ _ ∧ _ := ⟨blk_cell hst 0, blk_cell hst 1, blk_cell hst 2, blk_cell hst 3, blk_cell hst 4⟩
   clear hck hst hb8
   by_cases hk : kidsP st i = []
   ·have HR : Hid (stateP v st i = 4) := Lib.hid (by rw [HP2.out]; rw [if_pos ⟨by decide, hk⟩])
    rw [hk]
    clear hk
    go_wp2_with fail
    go_ret
    exact ⟨by rw [HR.out]; rfl, HFin.out _ HB8.out⟩
   ·have HP1 := HP2.out
    rw [if_neg (fun h => hk h.2)] at HP1
    have HP2 := Lib.hid HP1
    clear HP1
    have d7 : (((kidsP st i).length : Int) == 0) = false := by
     have : (kidsP st i).length ≠ 0 := fun h => hk (List.length_eq_zero_iff.1 h)
     simp; exact hk
    clear hk
    go_wp2_with fail
    refine (initial_any (HM.out.below HB8.out) v i h0 h1).mono ?_
    cases e0 : iniP st i with
    | false =>
     have HR : Hid (stateP v st i = 11) := Lib.hid (by rw [HP2.out]; rw [if_pos e0])
     clear e0
     clear y0 y1 y2 x0 x1 x2 x3 x4
     rintro e w9 ⟨rfl, hb9⟩
     have HB9 := Lib.hid (below_then HB8.out HB8.out.size hb9)
     have hck := (HB9.out.block _ (lt_of_block HCK.out)).trans HCK.out
     have hst := (HB9.out.block _ (lt_of_block HST.out)).trans HST.out
     obtain ⟨y0, y1, y2⟩ := chk_cells hck
     obtain ⟨x0, x1, x2, x3, x4⟩ : _ ∧ _ ∧ _ ∧ _ ∧ _ := ⟨blk_cell hst 0, blk_cell hst 1, blk_cell hst 2, blk_cell hst 3, blk_cell hst 4⟩
     clear hck hst hb9
     go_wp2_with fail
     go_ret
     exact ⟨by rw [HR.out]; rfl, HFin.out _ HB9.out⟩
    | true =>
     have HP1 := HP2.out
     rw [if_neg (by rw [e0]; simp)] at HP1
     have HP2 := Lib.hid HP1
     clear HP1
     clear e0
     clear y0 y1 y2 x0 x1 x2 x3 x4
     rintro e w9 ⟨rfl, hb9⟩
     have HB9 := Lib.hid (below_then HB8.out HB8.out.size hb9)
     have hck := (HB9.out.block _ (lt_of_block HCK.out)).trans HCK.out
     have hst := (HB9.out.block _ (lt_of_block HST.out)).trans HST.out
     obtain ⟨y0, y1, y2⟩ := chk_cells hck
     obtain ⟨x0, x1, x2, x3, x4⟩ : _ ∧ _ ∧ _ ∧ _ ∧ _ := ⟨blk_cell hst 0, blk_cell hst 1, blk_cell hst 2, blk_cell hst 3, blk_cell hst 4⟩
     clear hck hst hb9
     go_wp2_with fail
     refine (hist_any _ _).mono ?_
     rw [show histP 3 = false from rfl]
     have HP1 := HP2.out
     rw [if_neg (by rw [show histP 3 = false from rfl]; simp)] at HP1
     have HP2 := Lib.hid HP1
     clear HP1
     clear y0 y1 y2 x0 x1 x2 x3 x4
     rintro e w10 ⟨rfl, hb10⟩
     have HB10 := Lib.hid (below_then HB9.out HB9.out.size hb10)
     have hck := (HB10.out.block _ (lt_of_block HCK.out)).trans HCK.out
     have hst := (HB10.out.block _ (lt_of_block HST.out)).trans HST.out
     obtain ⟨y0, y1, y2⟩ := chk_cells hck
     obtain ⟨x0, x1, x2, x3, x4⟩ : _ ∧ _ ∧ _ ∧ _ ∧ _ := ⟨blk_cell hst 0, blk_cell hst 1, blk_cell hst 2, blk_cell hst 3, blk_cell hst 4⟩
     clear hck hst hb10
     go_wp2_with fail
     refine (acts_any v (some ad) B st.length tr.length ca cb A3 c3 en (fun a ha => HZ.out a (by simp [ha])) _ (HW.out.below HB10.out) (Kd.C_below H3.out HB10.out) l3).mono ?_
     cases e1 : actsP v en with
     | false =>
      have HR : Hid (stateP v st i = 1) := Lib.hid (by rw [HP2.out]; rw [if_pos e1])
      clear e1
      clear y0 y1 y2 x0 x1 x2 x3 x4
      rintro e w11 ⟨rfl, hb11⟩
      have HB11 := Lib.hid (below_then HB10.out HB10.out.size hb11)
      have hck := (HB11.out.block _ (lt_of_block HCK.out)).trans HCK.out
      have hst := (HB11.out.block _ (lt_of_block HST.out)).trans HST.out
      obtain ⟨y0, y1, y2⟩ := chk_cells hck
      obtain ⟨x0, x1, x2, x3, x4⟩ : _ ∧ _ ∧ _ ∧ _ ∧ _ := ⟨blk_cell hst 0, blk_cell hst 1, blk_cell hst 2, blk_cell hst 3, blk_cell hst 4⟩
      clear hck hst hb11
      go_wp2_with fail
      go_ret
      exact ⟨by rw [HR.out]; rfl, HFin.out _ HB11.out⟩
     | true =>
      have HP1 := HP2.out
      rw [if_neg (by rw [e1]; simp)] at HP1
      have HP2 := Lib.hid HP1
      clear HP1
      clear e1
      clear y0 y1 y2 x0 x1 x2 x3 x4
      rintro e w11 ⟨rfl, hb11⟩
      have HB11 := Lib.hid (below_then HB10.out HB10.out.size hb11)
      have hck := (HB11.out.block _ (lt_of_block HCK.out)).trans HCK.out
      have hst := (HB11.out.block _ (lt_of_block HST.out)).trans HST.out
      obtain ⟨y0, y1, y2⟩ := chk_cells hck
      obtain ⟨x0, x1, x2, x3, x4⟩ : _ ∧ _ ∧ _ ∧ _ ∧ _ := ⟨blk_cell hst 0, blk_cell hst 1, blk_cell hst 2, blk_cell hst 3, blk_cell hst 4⟩
      clear hck hst hb11
      go_wp2_with fail
      refine (acts_any v (some ad) B st.length tr.length ca cb A4 c4 ex (fun a ha => HZ.out a (by simp [ha])) _ (HW.out.below HB11.out) (Kd.C_below H4.out HB11.out) l4).mono ?_
      cases e2 : actsP v ex with
      | false =>
       have HR : Hid (stateP v st i = 1) := Lib.hid (by rw [HP2.out]; rw [if_pos e2])
       clear e2
       clear y0 y1 y2 x0 x1 x2 x3 x4
       rintro e w12 ⟨rfl, hb12⟩
       have HB12 := Lib.hid (below_then HB11.out HB11.out.size hb12)
       have hck := (HB12.out.block _ (lt_of_block HCK.out)).trans HCK.out
       have hst := (HB12.out.block _ (lt_of_block HST.out)).trans HST.out
       obtain ⟨y0, y1, y2⟩ := chk_cells hck
       obtain ⟨x0, x1, x2, x3, x4⟩ : _ ∧ _ ∧ _ ∧ _ ∧ _ := ⟨blk_cell hst 0, blk_cell hst 1, blk_cell hst 2, blk_cell hst 3, blk_cell hst 4⟩
       clear hck hst hb12
       go_wp2_with fail
       go_ret
       exact ⟨by rw [HR.out]; rfl, HFin.out _ HB12.out⟩
      | true =>
       have HR : Hid (stateP v st i = 0) := Lib.hid (by rw [HP2.out]; rw [if_neg (by rw [e2]; simp)])
       clear e2
       clear y0 y1 y2 x0 x1 x2 x3 x4
       rintro e w12 ⟨rfl, hb12⟩
       have HB12 := Lib.hid (below_then HB11.out HB11.out.size hb12)
       have hck := (HB12.out.block _ (lt_of_block HCK.out)).trans HCK.out
       have hst := (HB12.out.block _ (lt_of_block HST.out)).trans HST.out
       obtain ⟨y0, y1, y2⟩ := chk_cells hck
       obtain ⟨x0, x1, x2, x3, x4⟩ : _ ∧ _ ∧ _ ∧ _ ∧ _ := ⟨blk_cell hst 0, blk_cell hst 1, blk_cell hst 2, blk_cell hst 3, blk_cell hst 4⟩
       clear hck hst hb12
       go_wp2_with fail
       go_ret
       exact ⟨by rw [HR.out]; rfl, HFin.out _ HB12.out⟩
  ·have HR : Hid (stateP v st i = parP st i) := Lib.hid (by rw [HP2.out]; rw [if_pos hz])
   have d0 : (parP st i == 0) = false := by simp [hz]
   have d00 : (parP st i != 0) = true := by simp [hz]
   generalize parP st i = pc at HR d0 d00 ⊢
   clear hz
   rintro e w7 ⟨rfl, hb7⟩
   have HB7 := Lib.hid (below_then HBr.out HBr.out.size hb7)
   have hck := (HB7.out.block _ (lt_of_block HCK.out)).trans HCK.out
   have hst := (HB7.out.block _ (lt_of_block HST.out)).trans HST.out
   obtain ⟨y0, y1, y2⟩ := chk_cells hck
   obtain ⟨x0, x1, x2, x3, x4⟩ : _ ∧ _ ∧ _ ∧ _ ∧ _ := ⟨blk_cell hst 0, blk_cell hst 1, blk_cell hst 2, blk_cell hst 3, blk_cell hst 4⟩
   clear hck hst hb7
   go_wp2_with fail
   go_ret
   exact ⟨by rw [HR.out]; rfl, HFin.out _ HB7.out⟩
 have f2 : (k == 2) = false := by simp [k2]
 have f3 : (k == 3) = false := by simp [k3]
 go_enter Tryz.func77, Tryz.ntmps77
 go_wp2_with fail
 refine (parent_any HM.out v i h0 h1 (by omega)).mono ?_
 by_cases hz : parP st i = 0
 ·rw [hz]
  have HP1 := HP2.out
  rw [if_neg (fun h => h hz)] at HP1
  have HP2 := Lib.hid HP1
  clear HP1
  clear hz
  rintro e w13 ⟨rfl, hb13⟩
  have HB13 := Lib.hid (below_then HBr.out HBr.out.size hb13)
  have hck := (HB13.out.block _ (lt_of_block HCK.out)).trans HCK.out
  have hst := (HB13.out.block _ (lt_of_block HST.out)).trans HST.out
  obtain ⟨y0, y1, y2⟩ := chk_cells hck
  obtain ⟨x0, x1, x2, x3, x4⟩ : _ ∧ _ ∧ _ ∧ _ ∧ _ := ⟨blk_cell hst 0, blk_cell hst 1, blk_cell hst 2, blk_cell hst 3, blk_cell hst 4⟩
  clear hck hst hb13
  go_wp2_with fail
  have HP1 := HP2.out
  rw [if_neg (fun h => by rcases h.1 with h | h; exact k2 h; exact k3 h)] at HP1
  have HP2 := Lib.hid HP1
  clear HP1
  refine (initial_any (HM.out.below HB13.out) v i h0 h1).mono ?_
  cases e0 : iniP st i with
  | false =>
   have HR : Hid (stateP v st i = 11) := Lib.hid (by rw [HP2.out]; rw [if_pos e0])
   clear e0
   clear y0 y1 y2 x0 x1 x2 x3 x4
   rintro e w14 ⟨rfl, hb14⟩
   have HB14 := Lib.hid (below_then HB13.out HB13.out.size hb14)
   have hck := (HB14.out.block _ (lt_of_block HCK.out)).trans HCK.out
   have hst := (HB14.out.block _ (lt_of_block HST.out)).trans HST.out
   obtain ⟨y0, y1, y2⟩ := chk_cells hck
   obtain ⟨x0, x1, x2, x3, x4⟩ : _ ∧ _ ∧ _ ∧ _ ∧ _ := ⟨blk_cell hst 0, blk_cell hst 1, blk_cell hst 2, blk_cell hst 3, blk_cell hst 4⟩
   clear hck hst hb14
   go_wp2_with fail
   go_ret
   exact ⟨by rw [HR.out]; rfl, HFin.out _ HB14.out⟩
  | true =>
   have HP1 := HP2.out
   rw [if_neg (by rw [e0]; simp)] at HP1
   have HP2 := Lib.hid HP1
   clear HP1
   clear e0
   clear y0 y1 y2 x0 x1 x2 x3 x4
   rintro e w14 ⟨rfl, hb14⟩
   have HB14 := Lib.hid (below_then HB13.out HB13.out.size hb14)
   have hck := (HB14.out.block _ (lt_of_block HCK.out)).trans HCK.out
   have hst := (HB14.out.block _ (lt_of_block HST.out)).trans HST.out
   obtain ⟨y0, y1, y2⟩ := chk_cells hck
   obtain ⟨x0, x1, x2, x3, x4⟩ : _ ∧ _ ∧ _ ∧ _ ∧ _ := ⟨blk_cell hst 0, blk_cell hst 1, blk_cell hst 2, blk_cell hst 3, blk_cell hst 4⟩
   clear hck hst hb14
   go_wp2_with fail
   refine (hist_any _ _).mono ?_
   cases eh : histP k with
   | false =>
    have HP1 := HP2.out
    rw [if_neg (by rw [eh]; simp)] at HP1
    have HP2 := Lib.hid HP1
    clear HP1
    clear eh
    clear y0 y1 y2 x0 x1 x2 x3 x4
    rintro e w15 ⟨rfl, hb15⟩
    have HB15 := Lib.hid (below_then HB14.out HB14.out.size hb15)
    have hck := (HB15.out.block _ (lt_of_block HCK.out)).trans HCK.out
    have hst := (HB15.out.block _ (lt_of_block HST.out)).trans HST.out
    obtain ⟨y0, y1, y2⟩ := chk_cells hck
    obtain ⟨x0, x1, x2, x3, x4⟩ : _ ∧ _ ∧ _ ∧ _ ∧ _ := ⟨blk_cell hst 0, blk_cell hst 1, blk_cell hst 2, blk_cell hst 3, blk_cell hst 4⟩
    clear hck hst hb15
    go_wp2_with fail
    refine (acts_any v (some ad) B st.length tr.length ca cb A3 c3 en (fun a ha => HZ.out a (by simp [ha])) _ (HW.out.below HB15.out) (Kd.C_below H3.out HB15.out) l3).mono ?_
    cases e1 : actsP v en with
    | false =>
     have HR : Hid (stateP v st i = 1) := Lib.hid (by rw [HP2.out]; rw [if_pos e1])
     clear e1
     clear y0 y1 y2 x0 x1 x2 x3 x4
     rintro e w16 ⟨rfl, hb16⟩
     have HB16 := Lib.hid (below_then HB15.out HB15.out.size hb16)
     have hck := (HB16.out.block _ (lt_of_block HCK.out)).trans HCK.out
     have hst := (HB16.out.block _ (lt_of_block HST.out)).trans HST.out
     obtain ⟨y0, y1, y2⟩ := chk_cells hck
     obtain ⟨x0, x1, x2, x3, x4⟩ : _ ∧ _ ∧ _ ∧ _ ∧ _ := ⟨blk_cell hst 0, blk_cell hst 1, blk_cell hst 2, blk_cell hst 3, blk_cell hst 4⟩
     clear hck hst hb16
     go_wp2_with fail
     go_ret
     exact ⟨by rw [HR.out]; rfl, HFin.out _ HB16.out⟩
    | true =>
     have HP1 := HP2.out
     rw [if_neg (by rw [e1]; simp)] at HP1
     have HP2 := Lib.hid HP1
     clear HP1
     clear e1
     clear y0 y1 y2 x0 x1 x2 x3 x4
     rintro e w16 ⟨rfl, hb16⟩
     have HB16 := Lib.hid (below_then HB15.out HB15.out.size hb16)
     have hck := (HB16.out.block _ (lt_of_block HCK.out)).trans HCK.out
     have hst := (HB16.out.block _ (lt_of_block HST.out)).trans HST.out
     obtain ⟨y0, y1, y2⟩ := chk_cells hck
     obtain ⟨x0, x1, x2, x3, x4⟩ : _ ∧ _ ∧ _ ∧ _ ∧ _ := ⟨blk_cell hst 0, blk_cell hst 1, blk_cell hst 2, blk_cell hst 3, blk_cell hst 4⟩
     clear hck hst hb16
     go_wp2_with fail
     refine (acts_any v (some ad) B st.length tr.length ca cb A4 c4 ex (fun a ha => HZ.out a (by simp [ha])) _ (HW.out.below HB16.out) (Kd.C_below H4.out HB16.out) l4).mono ?_
     cases e2 : actsP v ex with
     | false =>
      have HR : Hid (stateP v st i = 1) := Lib.hid (by rw [HP2.out]; rw [if_pos e2])
      clear e2
      clear y0 y1 y2 x0 x1 x2 x3 x4
      rintro e w17 ⟨rfl, hb17⟩
      have HB17 := Lib.hid (below_then HB16.out HB16.out.size hb17)
      have hck := (HB17.out.block _ (lt_of_block HCK.out)).trans HCK.out
      have hst := (HB17.out.block _ (lt_of_block HST.out)).trans HST.out
      obtain ⟨y0, y1, y2⟩ := chk_cells hck
      obtain ⟨x0, x1, x2, x3, x4⟩ : _ ∧ _ ∧ _ ∧ _ ∧ _ := ⟨blk_cell hst 0, blk_cell hst 1, blk_cell hst 2, blk_cell hst 3, blk_cell hst 4⟩
      clear hck hst hb17
      go_wp2_with fail
      go_ret
      exact ⟨by rw [HR.out]; rfl, HFin.out _ HB17.out⟩
     | true =>
      have HR : Hid (stateP v st i = 0) := Lib.hid (by rw [HP2.out]; rw [if_neg (by rw [e2]; simp)])
      clear e2
      clear y0 y1 y2 x0 x1 x2 x3 x4
      rintro e w17 ⟨rfl, hb17⟩
      have HB17 := Lib.hid (below_then HB16.out HB16.out.size hb17)
      have hck := (HB17.out.block _ (lt_of_block HCK.out)).trans HCK.out
      have hst := (HB17.out.block _ (lt_of_block HST.out)).trans HST.out
      obtain ⟨y0, y1, y2⟩ := chk_cells hck
      obtain ⟨x0, x1, x2, x3, x4⟩ : _ ∧ _ ∧ _ ∧ _ ∧ _ := ⟨blk_cell hst 0, blk_cell hst 1, blk_cell hst 2, blk_cell hst 3, blk_cell hst 4⟩
      clear hck hst hb17
      go_wp2_with fail
      go_ret
      exact ⟨by rw [HR.out]; rfl, HFin.out _ HB17.out⟩
   | true =>
    by_cases hs : 0 < en.length + ex.length
    ·have HR : Hid (stateP v st i = 1) := Lib.hid (by rw [HP2.out]; rw [if_pos ⟨eh, hs⟩])
     have d9 : decide ((en.length : Int) + (ex.length : Int) > 0) = true := decide_eq_true (by omega)
     clear eh hs
     clear y0 y1 y2 x0 x1 x2 x3 x4
     rintro e w15 ⟨rfl, hb15⟩
     have HB15 := Lib.hid (below_then HB14.out HB14.out.size hb15)
     have hck := (HB15.out.block _ (lt_of_block HCK.out)).trans HCK.out
     have hst := (HB15.out.block _ (lt_of_block HST.out)).trans HST.out
     obtain ⟨y0, y1, y2⟩ := chk_cells hck
     obtain ⟨x0, x1, x2, x3, x4⟩ : _ ∧ _ ∧ _ ∧ _ ∧ _ := ⟨blk_cell hst 0, blk_cell hst 1, blk_cell hst 2, blk_cell hst 3, blk_cell hst 4⟩
     clear hck hst hb15
     go_wp2_with fail
     go_ret
     exact ⟨by rw [HR.out]; rfl, HFin.out _ HB15.out⟩
    ·have HP1 := HP2.out
     rw [if_neg (fun h => hs h.2)] at HP1
     have HP2 := Lib.hid HP1
     clear HP1
     have d9 : decide ((en.length : Int) + (ex.length : Int) > 0) = false := decide_eq_false (by omega)
     have d8 : (0 < (en.length : Int) + (ex.length : Int)) = False := eq_false (by omega)
     clear eh hs
     clear y0 y1 y2 x0 x1 x2 x3 x4
     rintro e w15 ⟨rfl, hb15⟩
     have HB15 := Lib.hid (below_then HB14.out HB14.out.size hb15)
     have hck := (HB15.out.block _ (lt_of_block HCK.out)).trans HCK.out
     have hst := (HB15.out.block _ (lt_of_block HST.out)).trans HST.out
     obtain ⟨y0, y1, y2⟩ := chk_cells hck
     obtain ⟨x0, x1, x2, x3, x4⟩ : _ ∧ _ ∧ _ ∧ _ ∧ _ := ⟨blk_cell hst 0, blk_cell hst 1, blk_cell hst 2, blk_cell hst 3, blk_cell hst 4⟩
     clear hck hst hb15
     go_wp2_with fail
     refine (acts_any v (some ad) B st.length tr.length ca cb A3 c3 en (fun a ha => HZ.out a (by simp [ha])) _ (HW.out.below HB15.out) (Kd.C_below H3.out HB15.out) l3).mono ?_
     cases e1 : actsP v en with
     | false =>
      have HR : Hid (stateP v st i = 1) := Lib.hid (by rw [HP2.out]; rw [if_pos e1])
      clear e1
      clear y0 y1 y2 x0 x1 x2 x3 x4
      rintro e w18 ⟨rfl, hb18⟩
      have HB18 := Lib.hid (below_then HB15.out HB15.out.size hb18)
      have hck := (HB18.out.block _ (lt_of_block HCK.out)).trans HCK.out
      have hst := (HB18.out.block _ (lt_of_block HST.out)).trans HST.out
      obtain ⟨y0, y1, y2⟩ := chk_cells hck
      obtain ⟨x0, x1, x2, x3, x4⟩ : _ ∧ _ ∧ _ ∧ _ ∧ _ := ⟨blk_cell hst 0, blk_cell hst 1, blk_cell hst 2, blk_cell hst 3, blk_cell hst 4⟩
      clear hck hst hb18
      go_wp2_with fail
      go_ret
      exact ⟨by rw [HR.out]; rfl, HFin.out _ HB18.out⟩
     | true =>
      have HP1 := HP2.out
      rw [if_neg (by rw [e1]; simp)] at HP1
      have HP2 := Lib.hid HP1
      clear HP1
      clear e1
      clear y0 y1 y2 x0 x1 x2 x3 x4
      rintro e w18 ⟨rfl, hb18⟩
      have HB18 := Lib.hid (below_then HB15.out HB15.out.size hb18)
      have hck := (HB18.out.block _ (lt_of_block HCK.out)).trans HCK.out
      have hst := (HB18.out.block _ (lt_of_block HST.out)).trans HST.out
      obtain ⟨y0, y1, y2⟩ := chk_cells hck
      obtain ⟨x0, x1, x2, x3, x4⟩ : _ ∧ _ ∧ _ ∧ _ ∧ _ := ⟨blk_cell hst 0, blk_cell hst 1, blk_cell hst 2, blk_cell hst 3, blk_cell hst 4⟩
      clear hck hst hb18
      go_wp2_with fail
      refine (acts_any v (some ad) B st.length tr.length ca cb A4 c4 ex (fun a ha => HZ.out a (by simp [ha])) _ (HW.out.below HB18.out) (Kd.C_below H4.out HB18.out) l4).mono ?_
      cases e2 : actsP v ex with
      | false =>
       have HR : Hid (stateP v st i = 1) := Lib.hid (by rw [HP2.out]; rw [if_pos e2])
       clear e2
       clear y0 y1 y2 x0 x1 x2 x3 x4
       rintro e w19 ⟨rfl, hb19⟩
       have HB19 := Lib.hid (below_then HB18.out HB18.out.size hb19)
       have hck := (HB19.out.block _ (lt_of_block HCK.out)).trans HCK.out
       have hst := (HB19.out.block _ (lt_of_block HST.out)).trans HST.out
       obtain ⟨y0, y1, y2⟩ := chk_cells hck
       obtain ⟨x0, x1, x2, x3, x4⟩ : _ ∧ _ ∧ _ ∧ _ ∧ _ := ⟨blk_cell hst 0, blk_cell hst 1, blk_cell hst 2, blk_cell hst 3, blk_cell hst 4⟩
       clear hck hst hb19
       go_wp2_with fail
       go_ret
       exact ⟨by rw [HR.out]; rfl, HFin.out _ HB19.out⟩
      | true =>
       have HR : Hid (stateP v st i = 0) := Lib.hid (by rw [HP2.out]; rw [if_neg (by rw [e2]; simp)])
       clear e2
       clear y0 y1 y2 x0 x1 x2 x3 x4
       rintro e w19 ⟨rfl, hb19⟩
       have HB19 := Lib.hid (below_then HB18.out HB18.out.size hb19)
       have hck := (HB19.out.block _ (lt_of_block HCK.out)).trans HCK.out
       have hst := (HB19.out.block _ (lt_of_block HST.out)).trans HST.out
       obtain ⟨y0, y1, y2⟩ := chk_cells hck
       obtain ⟨x0, x1, x2, x3, x4⟩ : _ ∧ _ ∧ _ ∧ _ ∧ _ := ⟨blk_cell hst 0, blk_cell hst 1, blk_cell hst 2, blk_cell hst 3, blk_cell hst 4⟩
       clear hck hst hb19
       go_wp2_with fail
       go_ret
       exact ⟨by rw [HR.out]; rfl, HFin.out _ HB19.out⟩
 ·have HR : Hid (stateP v st i = parP st i) := Lib.hid (by rw [HP2.out]; rw [if_pos hz])
  have d0 : (parP st i == 0) = false := by simp [hz]
  have d00 : (parP st i != 0) = true := by simp [hz]
  generalize parP st i = pc at HR d0 d00 ⊢
  clear hz
  rintro e w13 ⟨rfl, hb13⟩
  have HB13 := Lib.hid (below_then HBr.out HBr.out.size hb13)
  have hck := (HB13.out.block _ (lt_of_block HCK.out)).trans HCK.out
  have hst := (HB13.out.block _ (lt_of_block HST.out)).trans HST.out
  obtain ⟨y0, y1, y2⟩ := chk_cells hck
  obtain ⟨x0, x1, x2, x3, x4⟩ : _ ∧ _ ∧ _ ∧ _ ∧ _ := ⟨blk_cell hst 0, blk_cell hst 1, blk_cell hst 2, blk_cell hst 3, blk_cell hst 4⟩
  clear hck hst hb13
  go_wp2_with fail
  go_ret
  exact ⟨by rw [HR.out]; rfl, HFin.out _ HB13.out⟩
end Go.Proofs.YtemoonhnncopoaaGreatDoor
end
section
namespace Go.Proofs.YtemoonhnncopoaaGreatDoor
open Go.RowKit Go.Proofs.YtemoonhnncopoaaGreatDoorW.PrintWords
open PX (T V)
noncomputable def transP (v : Int) (st : List Sta) (t : Tra) : Int :=
 if t.f0 = 0 ∨ ¬ (0 ≤ t.f0 ∧ t.f0 < (st.length : Int)) ∨ 3 < (PAll.rd_T54 st t.f0).f0 then 10
 else if t.f1 ≠ 0 ∧ ¬ (1 ≤ t.f1 ∧ t.f1 ≤ 1000) ∧ t.f1 ≠ 1001 ∧ t.f1 ≠ 1002 ∧ ¬ (2000 ≤ t.f1 ∧ t.f1 < 2000 + (st.length : Int)) then 1
 else if tgtP st t.f3 = false then 11
 else if t.f2.toList.isEmpty = false ∧ typP t.f2 2 v = false then 8
 else if actsP v t.f5 = false then 1
 else 0
theorem trans_any (v : Int) (A B : Option Addr) (ca cb : Nat) (st : List Sta) (tr : List Tra) (ha : Ahead st) (hn : st.length ≤ 1000) (f0 f1 : Int) (f2 : ByteArray) (hs : f2.size ≤ 281474976710656) (A3 : Option Addr) (c3 : Nat) (f3 : List Int) (l3 : f3.length ≤ c3) (f4 : Bool) (A5 : Option Addr) (c5 : Nat) (f5 : List Ac) (l5 : f5.length ≤ c5)
  (hz : ∀ a ∈ f5, a.f3.size ≤ 281474976710656) (w : World) (hw : Laid w) (hM : ChM w A ca st B cb tr) (g3 : NumsC w A3 f3.length f3) (g5 : ActsC w A5 f5.length f5) :
  Calls Tryz.prog 78 #[ckV v A B st.length tr.length ca cb, .agg #[.int .i64 f0, .int .i64 f1, .string f2, .slice A3 f3.length c3, .bool f4, .slice A5 f5.length c5]] w fun e w' => e = .returned (.int .i64 (transP v st ⟨f0, f1, f2, f3, f4, f5⟩)) ∧ Below w.heap.size w w' := by
 have HP2 : Hid (transP v st ⟨f0, f1, f2, f3, f4, f5⟩ = if f0 = 0 ∨ ¬ (0 ≤ f0 ∧ f0 < (st.length : Int)) ∨ 3 < (PAll.rd_T54 st f0).f0 then 10
  else if f1 ≠ 0 ∧ ¬ (1 ≤ f1 ∧ f1 ≤ 1000) ∧ f1 ≠ 1001 ∧ f1 ≠ 1002 ∧ ¬ (2000 ≤ f1 ∧ f1 < 2000 + (st.length : Int)) then 1
  else if tgtP st f3 = false then 11
  else if f2.toList.isEmpty = false ∧ typP f2 2 v = false then 8
  else if actsP v f5 = false then 1
  else 0) := Lib.hid rfl
 have hb0 : Below w.heap.size w ((w.alloc (.cells #[.int .i64 v, .slice A st.length ca, .slice B tr.length cb] 124)).alloc (.cells #[.int .i64 f0, .int .i64 f1, .string f2, .slice A3 f3.length c3, .bool f4, .slice A5 f5.length c5] 56)) := ((Below.refl _ w).alloc (Nat.le_refl _) _).alloc (by simp) _
 have HB0 := Lib.hid hb0
 have HW := Lib.hid (hw.below hb0)
 have HM := Lib.hid (hM.below hb0)
 have H3 := Lib.hid (Kd.C_below g3 hb0)
 have H5 := Lib.hid (Kd.C_below g5 hb0)
 have HZ := Lib.hid hz
 have hfin : ∀ wr, Below ((w.alloc (.cells #[.int .i64 v, .slice A st.length ca, .slice B tr.length cb] 124)).alloc (.cells #[.int .i64 f0, .int .i64 f1, .string f2, .slice A3 f3.length c3, .bool f4, .slice A5 f5.length c5] 56)).heap.size ((w.alloc (.cells #[.int .i64 v, .slice A st.length ca, .slice B tr.length cb] 124)).alloc (.cells #[.int .i64 f0, .int .i64 f1, .string f2, .slice A3 f3.length c3, .bool f4, .slice A5 f5.length c5] 56)) wr → Below w.heap.size w wr := fun wr h => HB0.out.trans (h.mono HB0.out.size)
 have HFin := Lib.hid hfin
 have HBr : Hid (Below ((w.alloc (.cells #[.int .i64 v, .slice A st.length ca, .slice B tr.length cb] 124)).alloc (.cells #[.int .i64 f0, .int .i64 f1, .string f2, .slice A3 f3.length c3, .bool f4, .slice A5 f5.length c5] 56)).heap.size ((w.alloc (.cells #[.int .i64 v, .slice A st.length ca, .slice B tr.length cb] 124)).alloc (.cells #[.int .i64 f0, .int .i64 f1, .string f2, .slice A3 f3.length c3, .bool f4, .slice A5 f5.length c5] 56)) ((w.alloc (.cells #[.int .i64 v, .slice A st.length ca, .slice B tr.length cb] 124)).alloc (.cells #[.int .i64 f0, .int .i64 f1, .string f2, .slice A3 f3.length c3, .bool f4, .slice A5 f5.length c5] 56))) := Lib.hid (Below.refl _ _)
 obtain ⟨hk1, hk2, _, _⟩ := boxed2 HBr.out
 have HCK := Lib.hid hk1
 have HTR := Lib.hid hk2
 clear hfin hk1 hk2 hz hb0 hw hM g3 g5
 by_cases s0 : f0 = 0
 ·have HR : Hid (transP v st ⟨f0, f1, f2, f3, f4, f5⟩ = 10) := Lib.hid (by rw [HP2.out]; rw [if_pos (.inl s0)])
  subst s0
  go_enter Tryz.func78, Tryz.ntmps78
  go_wp2_with fail
  all_goals
   go_ret
   exact ⟨by rw [HR.out]; rfl, HFin.out _ HBr.out⟩
 have z0 : (f0 == 0) = false := by simp [s0]
 by_cases sw : ¬ (0 ≤ f0 ∧ f0 < (st.length : Int))
 ·have htd : decide (0 ≤ f0 ∧ f0 < (st.length : Int)) = false := decide_eq_false sw
  have HTd := Lib.hid htd
  have HR : Hid (transP v st ⟨f0, f1, f2, f3, f4, f5⟩ = 10) := Lib.hid (by rw [HP2.out]; rw [if_pos (.inr (.inl sw))])
  clear s0 sw htd
  go_enter Tryz.func78, Tryz.ntmps78
  go_wp2_with fail
  all_goals
   refine (there_any HM.out v f0).mono ?_
   rw [HTd.out]
   rintro e w1 ⟨rfl, hb1⟩
   have HB1 := Lib.hid (below_then HBr.out HBr.out.size hb1)
   have hck := (HB1.out.block _ (lt_of_block HCK.out)).trans HCK.out
   have htr := (HB1.out.block _ (lt_of_block HTR.out)).trans HTR.out
   obtain ⟨y0, y1, y2⟩ := chk_cells hck
   obtain ⟨x0, x1, x2, x3, x4, x5⟩ : _ ∧ _ ∧ _ ∧ _ ∧ _ ∧ _ := ⟨blk_cell htr 0, blk_cell htr 1, blk_cell htr 2, blk_cell htr 3, blk_cell htr 4, blk_cell htr 5⟩
   clear hck htr hb1
   go_wp2_with fail
   go_ret
   exact ⟨by rw [HR.out]; rfl, HFin.out _ HB1.out⟩
 have sw := Classical.not_not.1 sw
 have htd : decide (0 ≤ f0 ∧ f0 < (st.length : Int)) = true := decide_eq_true sw
 have HTd := Lib.hid htd
 have q0 : (0 ≤ f0) = True := eq_true sw.1
 have q1 : (f0 < (st.length : Int)) = True := eq_true sw.2
 have HSW := Lib.hid sw
 clear htd
 by_cases sk : 3 < (PAll.rd_T54 st f0).f0
 ·have HR : Hid (transP v st ⟨f0, f1, f2, f3, f4, f5⟩ = 10) := Lib.hid (by rw [HP2.out]; rw [if_pos (.inr (.inr sk))])
  clear s0 sw
  go_enter Tryz.func78, Tryz.ntmps78
  go_wp2_with fail
  all_goals
   refine (there_any HM.out v f0).mono ?_
   rw [HTd.out]
   rintro e w2 ⟨rfl, hb2⟩
   have HB2 := Lib.hid (below_then HBr.out HBr.out.size hb2)
   have hck := (HB2.out.block _ (lt_of_block HCK.out)).trans HCK.out
   have htr := (HB2.out.block _ (lt_of_block HTR.out)).trans HTR.out
   obtain ⟨y0, y1, y2⟩ := chk_cells hck
   obtain ⟨x0, x1, x2, x3, x4, x5⟩ : _ ∧ _ ∧ _ ∧ _ ∧ _ ∧ _ := ⟨blk_cell htr 0, blk_cell htr 1, blk_cell htr 2, blk_cell htr 3, blk_cell htr 4, blk_cell htr 5⟩
   clear hck htr hb2
   obtain ⟨sd, rfl, c0⟩ := state_at (HM.out.below HB2.out) f0 HSW.out.1 HSW.out.2
   generalize (PAll.rd_T54 st f0).f0 = kk at c0 sk
   have d3 : decide (kk > 3) = true := decide_eq_true sk
   clear sk
   go_wp2_with fail
   go_ret
   exact ⟨by rw [HR.out]; rfl, HFin.out _ HB2.out⟩
 have HP1 := HP2.out
 rw [if_neg (by rintro (h | h | h); exact s0 h; exact h sw; exact sk h)] at HP1
 have HP2 := Lib.hid HP1
 clear HP1
 clear s0 sw
 by_cases v0 : f1 = 0
 ·subst v0
  have HP1 := HP2.out
  rw [if_neg (fun h => h.1 rfl)] at HP1
  have HP2 := Lib.hid HP1
  clear HP1
  go_enter Tryz.func78, Tryz.ntmps78
  go_wp2_with fail
  refine (there_any HM.out v f0).mono ?_
  rw [HTd.out]
  rintro e w3 ⟨rfl, hb3⟩
  have HB3 := Lib.hid (below_then HBr.out HBr.out.size hb3)
  have hck := (HB3.out.block _ (lt_of_block HCK.out)).trans HCK.out
  have htr := (HB3.out.block _ (lt_of_block HTR.out)).trans HTR.out
  obtain ⟨y0, y1, y2⟩ := chk_cells hck
  obtain ⟨x0, x1, x2, x3, x4, x5⟩ : _ ∧ _ ∧ _ ∧ _ ∧ _ ∧ _ := ⟨blk_cell htr 0, blk_cell htr 1, blk_cell htr 2, blk_cell htr 3, blk_cell htr 4, blk_cell htr 5⟩
  clear hck htr hb3
  obtain ⟨sd, rfl, c0⟩ := state_at (HM.out.below HB3.out) f0 HSW.out.1 HSW.out.2
  generalize (PAll.rd_T54 st f0).f0 = kk at c0 sk
  have d3 : decide (kk > 3) = false := decide_eq_false (by omega)
  clear sk
  go_wp2_with fail
  refine (targets_any v _ B ca cb st tr ha A3 c3 f3 _ (HM.out.below HB3.out) (Kd.C_below H3.out HB3.out) l3).mono ?_
  cases e0 : tgtP st f3 with
  | false =>
   have HR : Hid (transP v st ⟨f0, 0, f2, f3, f4, f5⟩ = 11) := Lib.hid (by rw [HP2.out]; rw [if_pos e0])
   clear e0
   clear y0 y1 y2 x0 x1 x2 x3 x4 x5
   rintro e w4 ⟨rfl, hb4⟩
   have HB4 := Lib.hid (below_then HB3.out HB3.out.size hb4)
   have hck := (HB4.out.block _ (lt_of_block HCK.out)).trans HCK.out
   have htr := (HB4.out.block _ (lt_of_block HTR.out)).trans HTR.out
   obtain ⟨y0, y1, y2⟩ := chk_cells hck
   obtain ⟨x0, x1, x2, x3, x4, x5⟩ : _ ∧ _ ∧ _ ∧ _ ∧ _ ∧ _ := ⟨blk_cell htr 0, blk_cell htr 1, blk_cell htr 2, blk_cell htr 3, blk_cell htr 4, blk_cell htr 5⟩
   clear hck htr hb4
   go_wp2_with fail
   go_ret
   exact ⟨by rw [HR.out]; rfl, HFin.out _ HB4.out⟩
  | true =>
   have HP1 := HP2.out
   rw [if_neg (by rw [e0]; simp)] at HP1
   have HP2 := Lib.hid HP1
   clear HP1
   clear e0
   clear y0 y1 y2 x0 x1 x2 x3 x4 x5
   rintro e w4 ⟨rfl, hb4⟩
   have HB4 := Lib.hid (below_then HB3.out HB3.out.size hb4)
   have hck := (HB4.out.block _ (lt_of_block HCK.out)).trans HCK.out
   have htr := (HB4.out.block _ (lt_of_block HTR.out)).trans HTR.out
   obtain ⟨y0, y1, y2⟩ := chk_cells hck
   obtain ⟨x0, x1, x2, x3, x4, x5⟩ : _ ∧ _ ∧ _ ∧ _ ∧ _ ∧ _ := ⟨blk_cell htr 0, blk_cell htr 1, blk_cell htr 2, blk_cell htr 3, blk_cell htr 4, blk_cell htr 5⟩
   clear hck htr hb4
   cases eg : f2.toList.isEmpty with
   | true =>
    have HP1 := HP2.out
    rw [if_neg (fun h => by rw [eg] at h; exact absurd h.1 (by simp))] at HP1
    have HP2 := Lib.hid HP1
    clear HP1
    go_wp2_with fail
    refine (acts_any v _ B st.length tr.length ca cb A5 c5 f5 HZ.out _ (HW.out.below HB4.out) (Kd.C_below H5.out HB4.out) l5).mono ?_
    cases e1 : actsP v f5 with
    | false =>
     have HR : Hid (transP v st ⟨f0, 0, f2, f3, f4, f5⟩ = 1) := Lib.hid (by rw [HP2.out]; rw [if_pos e1])
     clear e1
     clear y0 y1 y2 x0 x1 x2 x3 x4 x5
     rintro e w6 ⟨rfl, hb6⟩
     have HB6 := Lib.hid (below_then HB4.out HB4.out.size hb6)
     have hck := (HB6.out.block _ (lt_of_block HCK.out)).trans HCK.out
     have htr := (HB6.out.block _ (lt_of_block HTR.out)).trans HTR.out
     obtain ⟨y0, y1, y2⟩ := chk_cells hck
     obtain ⟨x0, x1, x2, x3, x4, x5⟩ : _ ∧ _ ∧ _ ∧ _ ∧ _ ∧ _ := ⟨blk_cell htr 0, blk_cell htr 1, blk_cell htr 2, blk_cell htr 3, blk_cell htr 4, blk_cell htr 5⟩
     clear hck htr hb6
     go_wp2_with fail
     go_ret
     exact ⟨by rw [HR.out]; rfl, HFin.out _ HB6.out⟩
    | true =>
     have HR : Hid (transP v st ⟨f0, 0, f2, f3, f4, f5⟩ = 0) := Lib.hid (by rw [HP2.out]; rw [if_neg (by rw [e1]; simp)])
     clear e1
     clear y0 y1 y2 x0 x1 x2 x3 x4 x5
     rintro e w6 ⟨rfl, hb6⟩
     have HB6 := Lib.hid (below_then HB4.out HB4.out.size hb6)
     have hck := (HB6.out.block _ (lt_of_block HCK.out)).trans HCK.out
     have htr := (HB6.out.block _ (lt_of_block HTR.out)).trans HTR.out
     obtain ⟨y0, y1, y2⟩ := chk_cells hck
     obtain ⟨x0, x1, x2, x3, x4, x5⟩ : _ ∧ _ ∧ _ ∧ _ ∧ _ ∧ _ := ⟨blk_cell htr 0, blk_cell htr 1, blk_cell htr 2, blk_cell htr 3, blk_cell htr 4, blk_cell htr 5⟩
     clear hck htr hb6
     go_wp2_with fail
     go_ret
     exact ⟨by rw [HR.out]; rfl, HFin.out _ HB6.out⟩
   | false =>
    go_wp2_with fail
    refine (typed_any v _ B st.length tr.length ca cb f2 hs 2 _ (HW.out.below HB4.out)).mono ?_
    cases et : typP f2 2 v with
    | false =>
     have HR : Hid (transP v st ⟨f0, 0, f2, f3, f4, f5⟩ = 8) := Lib.hid (by rw [HP2.out]; rw [if_pos ⟨eg, et⟩])
     clear et
     clear y0 y1 y2 x0 x1 x2 x3 x4 x5
     rintro e w5 ⟨rfl, hb5⟩
     have HB5 := Lib.hid (below_then HB4.out HB4.out.size hb5)
     have hck := (HB5.out.block _ (lt_of_block HCK.out)).trans HCK.out
     have htr := (HB5.out.block _ (lt_of_block HTR.out)).trans HTR.out
     obtain ⟨y0, y1, y2⟩ := chk_cells hck
     obtain ⟨x0, x1, x2, x3, x4, x5⟩ : _ ∧ _ ∧ _ ∧ _ ∧ _ ∧ _ := ⟨blk_cell htr 0, blk_cell htr 1, blk_cell htr 2, blk_cell htr 3, blk_cell htr 4, blk_cell htr 5⟩
     clear hck htr hb5
     go_wp2_with fail
     go_ret
     exact ⟨by rw [HR.out]; rfl, HFin.out _ HB5.out⟩
    | true =>
     have HP1 := HP2.out
     rw [if_neg (fun h => by rw [et] at h; exact absurd h.2 (by simp))] at HP1
     have HP2 := Lib.hid HP1
     clear HP1
     clear et
     clear y0 y1 y2 x0 x1 x2 x3 x4 x5
     rintro e w5 ⟨rfl, hb5⟩
     have HB5 := Lib.hid (below_then HB4.out HB4.out.size hb5)
     have hck := (HB5.out.block _ (lt_of_block HCK.out)).trans HCK.out
     have htr := (HB5.out.block _ (lt_of_block HTR.out)).trans HTR.out
     obtain ⟨y0, y1, y2⟩ := chk_cells hck
     obtain ⟨x0, x1, x2, x3, x4, x5⟩ : _ ∧ _ ∧ _ ∧ _ ∧ _ ∧ _ := ⟨blk_cell htr 0, blk_cell htr 1, blk_cell htr 2, blk_cell htr 3, blk_cell htr 4, blk_cell htr 5⟩
     clear hck htr hb5
     go_wp2_with fail
     refine (acts_any v _ B st.length tr.length ca cb A5 c5 f5 HZ.out _ (HW.out.below HB5.out) (Kd.C_below H5.out HB5.out) l5).mono ?_
     cases e1 : actsP v f5 with
     | false =>
      have HR : Hid (transP v st ⟨f0, 0, f2, f3, f4, f5⟩ = 1) := Lib.hid (by rw [HP2.out]; rw [if_pos e1])
      clear e1
      clear y0 y1 y2 x0 x1 x2 x3 x4 x5
      rintro e w7 ⟨rfl, hb7⟩
      have HB7 := Lib.hid (below_then HB5.out HB5.out.size hb7)
      have hck := (HB7.out.block _ (lt_of_block HCK.out)).trans HCK.out
      have htr := (HB7.out.block _ (lt_of_block HTR.out)).trans HTR.out
      obtain ⟨y0, y1, y2⟩ := chk_cells hck
      obtain ⟨x0, x1, x2, x3, x4, x5⟩ : _ ∧ _ ∧ _ ∧ _ ∧ _ ∧ _ := ⟨blk_cell htr 0, blk_cell htr 1, blk_cell htr 2, blk_cell htr 3, blk_cell htr 4, blk_cell htr 5⟩
      clear hck htr hb7
      go_wp2_with fail
      go_ret
      exact ⟨by rw [HR.out]; rfl, HFin.out _ HB7.out⟩
     | true =>
      have HR : Hid (transP v st ⟨f0, 0, f2, f3, f4, f5⟩ = 0) := Lib.hid (by rw [HP2.out]; rw [if_neg (by rw [e1]; simp)])
      clear e1
      clear y0 y1 y2 x0 x1 x2 x3 x4 x5
      rintro e w7 ⟨rfl, hb7⟩
      have HB7 := Lib.hid (below_then HB5.out HB5.out.size hb7)
      have hck := (HB7.out.block _ (lt_of_block HCK.out)).trans HCK.out
      have htr := (HB7.out.block _ (lt_of_block HTR.out)).trans HTR.out
      obtain ⟨y0, y1, y2⟩ := chk_cells hck
      obtain ⟨x0, x1, x2, x3, x4, x5⟩ : _ ∧ _ ∧ _ ∧ _ ∧ _ ∧ _ := ⟨blk_cell htr 0, blk_cell htr 1, blk_cell htr 2, blk_cell htr 3, blk_cell htr 4, blk_cell htr 5⟩
      clear hck htr hb7
      go_wp2_with fail
      go_ret
      exact ⟨by rw [HR.out]; rfl, HFin.out _ HB7.out⟩
 have z1 : (f1 == 0) = false := by simp [v0]
 have z2 : (f1 != 0) = true := by simp [v0]
 by_cases v1 : 1 ≤ f1 ∧ f1 ≤ 1000
 ·have HP1 := HP2.out
  rw [if_neg (fun h => h.2.1 v1)] at HP1
  have HP2 := Lib.hid HP1
  clear HP1
  have d1 : decide (f1 ≥ 2000) = false := decide_eq_false (by omega)
  have HEv := Lib.hid (decide_eq_true v1)
  clear v0 v1
  go_enter Tryz.func78, Tryz.ntmps78
  go_wp2_with fail
  refine (there_any HM.out v f0).mono ?_
  rw [HTd.out]
  rintro e w8 ⟨rfl, hb8⟩
  have HB8 := Lib.hid (below_then HBr.out HBr.out.size hb8)
  have hck := (HB8.out.block _ (lt_of_block HCK.out)).trans HCK.out
  have htr := (HB8.out.block _ (lt_of_block HTR.out)).trans HTR.out
  obtain ⟨y0, y1, y2⟩ := chk_cells hck
  obtain ⟨x0, x1, x2, x3, x4, x5⟩ : _ ∧ _ ∧ _ ∧ _ ∧ _ ∧ _ := ⟨blk_cell htr 0, blk_cell htr 1, blk_cell htr 2, blk_cell htr 3, blk_cell htr 4, blk_cell htr 5⟩
  clear hck htr hb8
  obtain ⟨sd, rfl, c0⟩ := state_at (HM.out.below HB8.out) f0 HSW.out.1 HSW.out.2
  generalize (PAll.rd_T54 st f0).f0 = kk at c0 sk
  have d3 : decide (kk > 3) = false := decide_eq_false (by omega)
  clear sk
  go_wp2_with fail
  refine (event_any f1 _).mono ?_
  rw [show decide (1 ≤ f1 ∧ f1 ≤ 1000) = true from HEv.out]
  clear y0 y1 y2 x0 x1 x2 x3 x4 x5
  rintro e w9 ⟨rfl, hb9⟩
  have HB9 := Lib.hid (below_then HB8.out HB8.out.size hb9)
  have hck := (HB9.out.block _ (lt_of_block HCK.out)).trans HCK.out
  have htr := (HB9.out.block _ (lt_of_block HTR.out)).trans HTR.out
  obtain ⟨y0, y1, y2⟩ := chk_cells hck
  obtain ⟨x0, x1, x2, x3, x4, x5⟩ : _ ∧ _ ∧ _ ∧ _ ∧ _ ∧ _ := ⟨blk_cell htr 0, blk_cell htr 1, blk_cell htr 2, blk_cell htr 3, blk_cell htr 4, blk_cell htr 5⟩
  clear hck htr hb9
  go_wp2_with fail
  refine (targets_any v _ B ca cb st tr ha A3 c3 f3 _ (HM.out.below HB9.out) (Kd.C_below H3.out HB9.out) l3).mono ?_
  cases e0 : tgtP st f3 with
  | false =>
   have HR : Hid (transP v st ⟨f0, f1, f2, f3, f4, f5⟩ = 11) := Lib.hid (by rw [HP2.out]; rw [if_pos e0])
   clear e0
   clear y0 y1 y2 x0 x1 x2 x3 x4 x5
   rintro e w10 ⟨rfl, hb10⟩
   have HB10 := Lib.hid (below_then HB9.out HB9.out.size hb10)
   have hck := (HB10.out.block _ (lt_of_block HCK.out)).trans HCK.out
   have htr := (HB10.out.block _ (lt_of_block HTR.out)).trans HTR.out
   obtain ⟨y0, y1, y2⟩ := chk_cells hck
   obtain ⟨x0, x1, x2, x3, x4, x5⟩ : _ ∧ _ ∧ _ ∧ _ ∧ _ ∧ _ := ⟨blk_cell htr 0, blk_cell htr 1, blk_cell htr 2, blk_cell htr 3, blk_cell htr 4, blk_cell htr 5⟩
   clear hck htr hb10
   go_wp2_with fail
   go_ret
   exact ⟨by rw [HR.out]; rfl, HFin.out _ HB10.out⟩
  | true =>
   have HP1 := HP2.out
   rw [if_neg (by rw [e0]; simp)] at HP1
   have HP2 := Lib.hid HP1
   clear HP1
   clear e0
   clear y0 y1 y2 x0 x1 x2 x3 x4 x5
   rintro e w10 ⟨rfl, hb10⟩
   have HB10 := Lib.hid (below_then HB9.out HB9.out.size hb10)
   have hck := (HB10.out.block _ (lt_of_block HCK.out)).trans HCK.out
   have htr := (HB10.out.block _ (lt_of_block HTR.out)).trans HTR.out
   obtain ⟨y0, y1, y2⟩ := chk_cells hck
   obtain ⟨x0, x1, x2, x3, x4, x5⟩ : _ ∧ _ ∧ _ ∧ _ ∧ _ ∧ _ := ⟨blk_cell htr 0, blk_cell htr 1, blk_cell htr 2, blk_cell htr 3, blk_cell htr 4, blk_cell htr 5⟩
   clear hck htr hb10
   cases eg : f2.toList.isEmpty with
   | true =>
    have HP1 := HP2.out
    rw [if_neg (fun h => by rw [eg] at h; exact absurd h.1 (by simp))] at HP1
    have HP2 := Lib.hid HP1
    clear HP1
    go_wp2_with fail
    refine (acts_any v _ B st.length tr.length ca cb A5 c5 f5 HZ.out _ (HW.out.below HB10.out) (Kd.C_below H5.out HB10.out) l5).mono ?_
    cases e1 : actsP v f5 with
    | false =>
     have HR : Hid (transP v st ⟨f0, f1, f2, f3, f4, f5⟩ = 1) := Lib.hid (by rw [HP2.out]; rw [if_pos e1])
     clear e1
     clear y0 y1 y2 x0 x1 x2 x3 x4 x5
     rintro e w12 ⟨rfl, hb12⟩
     have HB12 := Lib.hid (below_then HB10.out HB10.out.size hb12)
     have hck := (HB12.out.block _ (lt_of_block HCK.out)).trans HCK.out
     have htr := (HB12.out.block _ (lt_of_block HTR.out)).trans HTR.out
     obtain ⟨y0, y1, y2⟩ := chk_cells hck
     obtain ⟨x0, x1, x2, x3, x4, x5⟩ : _ ∧ _ ∧ _ ∧ _ ∧ _ ∧ _ := ⟨blk_cell htr 0, blk_cell htr 1, blk_cell htr 2, blk_cell htr 3, blk_cell htr 4, blk_cell htr 5⟩
     clear hck htr hb12
     go_wp2_with fail
     go_ret
     exact ⟨by rw [HR.out]; rfl, HFin.out _ HB12.out⟩
    | true =>
     have HR : Hid (transP v st ⟨f0, f1, f2, f3, f4, f5⟩ = 0) := Lib.hid (by rw [HP2.out]; rw [if_neg (by rw [e1]; simp)])
     clear e1
     clear y0 y1 y2 x0 x1 x2 x3 x4 x5
     rintro e w12 ⟨rfl, hb12⟩
     have HB12 := Lib.hid (below_then HB10.out HB10.out.size hb12)
     have hck := (HB12.out.block _ (lt_of_block HCK.out)).trans HCK.out
     have htr := (HB12.out.block _ (lt_of_block HTR.out)).trans HTR.out
     obtain ⟨y0, y1, y2⟩ := chk_cells hck
     obtain ⟨x0, x1, x2, x3, x4, x5⟩ : _ ∧ _ ∧ _ ∧ _ ∧ _ ∧ _ := ⟨blk_cell htr 0, blk_cell htr 1, blk_cell htr 2, blk_cell htr 3, blk_cell htr 4, blk_cell htr 5⟩
     clear hck htr hb12
     go_wp2_with fail
     go_ret
     exact ⟨by rw [HR.out]; rfl, HFin.out _ HB12.out⟩
   | false =>
    go_wp2_with fail
    refine (typed_any v _ B st.length tr.length ca cb f2 hs 2 _ (HW.out.below HB10.out)).mono ?_
    cases et : typP f2 2 v with
    | false =>
     have HR : Hid (transP v st ⟨f0, f1, f2, f3, f4, f5⟩ = 8) := Lib.hid (by rw [HP2.out]; rw [if_pos ⟨eg, et⟩])
     clear et
     clear y0 y1 y2 x0 x1 x2 x3 x4 x5
     rintro e w11 ⟨rfl, hb11⟩
     have HB11 := Lib.hid (below_then HB10.out HB10.out.size hb11)
     have hck := (HB11.out.block _ (lt_of_block HCK.out)).trans HCK.out
     have htr := (HB11.out.block _ (lt_of_block HTR.out)).trans HTR.out
     obtain ⟨y0, y1, y2⟩ := chk_cells hck
     obtain ⟨x0, x1, x2, x3, x4, x5⟩ : _ ∧ _ ∧ _ ∧ _ ∧ _ ∧ _ := ⟨blk_cell htr 0, blk_cell htr 1, blk_cell htr 2, blk_cell htr 3, blk_cell htr 4, blk_cell htr 5⟩
     clear hck htr hb11
     go_wp2_with fail
     go_ret
     exact ⟨by rw [HR.out]; rfl, HFin.out _ HB11.out⟩
    | true =>
     have HP1 := HP2.out
     rw [if_neg (fun h => by rw [et] at h; exact absurd h.2 (by simp))] at HP1
     have HP2 := Lib.hid HP1
     clear HP1
     clear et
     clear y0 y1 y2 x0 x1 x2 x3 x4 x5
     rintro e w11 ⟨rfl, hb11⟩
     have HB11 := Lib.hid (below_then HB10.out HB10.out.size hb11)
     have hck := (HB11.out.block _ (lt_of_block HCK.out)).trans HCK.out
     have htr := (HB11.out.block _ (lt_of_block HTR.out)).trans HTR.out
     obtain ⟨y0, y1, y2⟩ := chk_cells hck
     obtain ⟨x0, x1, x2, x3, x4, x5⟩ : _ ∧ _ ∧ _ ∧ _ ∧ _ ∧ _ := ⟨blk_cell htr 0, blk_cell htr 1, blk_cell htr 2, blk_cell htr 3, blk_cell htr 4, blk_cell htr 5⟩
     clear hck htr hb11
     go_wp2_with fail
     refine (acts_any v _ B st.length tr.length ca cb A5 c5 f5 HZ.out _ (HW.out.below HB11.out) (Kd.C_below H5.out HB11.out) l5).mono ?_
     cases e1 : actsP v f5 with
     | false =>
      have HR : Hid (transP v st ⟨f0, f1, f2, f3, f4, f5⟩ = 1) := Lib.hid (by rw [HP2.out]; rw [if_pos e1])
      clear e1
      clear y0 y1 y2 x0 x1 x2 x3 x4 x5
      rintro e w13 ⟨rfl, hb13⟩
      have HB13 := Lib.hid (below_then HB11.out HB11.out.size hb13)
      have hck := (HB13.out.block _ (lt_of_block HCK.out)).trans HCK.out
      have htr := (HB13.out.block _ (lt_of_block HTR.out)).trans HTR.out
      obtain ⟨y0, y1, y2⟩ := chk_cells hck
      obtain ⟨x0, x1, x2, x3, x4, x5⟩ : _ ∧ _ ∧ _ ∧ _ ∧ _ ∧ _ := ⟨blk_cell htr 0, blk_cell htr 1, blk_cell htr 2, blk_cell htr 3, blk_cell htr 4, blk_cell htr 5⟩
      clear hck htr hb13
      go_wp2_with fail
      go_ret
      exact ⟨by rw [HR.out]; rfl, HFin.out _ HB13.out⟩
     | true =>
      have HR : Hid (transP v st ⟨f0, f1, f2, f3, f4, f5⟩ = 0) := Lib.hid (by rw [HP2.out]; rw [if_neg (by rw [e1]; simp)])
      clear e1
      clear y0 y1 y2 x0 x1 x2 x3 x4 x5
      rintro e w13 ⟨rfl, hb13⟩
      have HB13 := Lib.hid (below_then HB11.out HB11.out.size hb13)
      have hck := (HB13.out.block _ (lt_of_block HCK.out)).trans HCK.out
      have htr := (HB13.out.block _ (lt_of_block HTR.out)).trans HTR.out
      obtain ⟨y0, y1, y2⟩ := chk_cells hck
      obtain ⟨x0, x1, x2, x3, x4, x5⟩ : _ ∧ _ ∧ _ ∧ _ ∧ _ ∧ _ := ⟨blk_cell htr 0, blk_cell htr 1, blk_cell htr 2, blk_cell htr 3, blk_cell htr 4, blk_cell htr 5⟩
      clear hck htr hb13
      go_wp2_with fail
      go_ret
      exact ⟨by rw [HR.out]; rfl, HFin.out _ HB13.out⟩
 have HEv := Lib.hid (decide_eq_false v1)
 by_cases v1001 : f1 = 1001
 ·subst v1001
  have HP1 := HP2.out
  rw [if_neg (fun h => h.2.2.1 rfl)] at HP1
  have HP2 := Lib.hid HP1
  clear HP1
  clear v0 v1
  go_enter Tryz.func78, Tryz.ntmps78
  go_wp2_with fail
  refine (there_any HM.out v f0).mono ?_
  rw [HTd.out]
  rintro e w14 ⟨rfl, hb14⟩
  have HB14 := Lib.hid (below_then HBr.out HBr.out.size hb14)
  have hck := (HB14.out.block _ (lt_of_block HCK.out)).trans HCK.out
  have htr := (HB14.out.block _ (lt_of_block HTR.out)).trans HTR.out
  obtain ⟨y0, y1, y2⟩ := chk_cells hck
  obtain ⟨x0, x1, x2, x3, x4, x5⟩ : _ ∧ _ ∧ _ ∧ _ ∧ _ ∧ _ := ⟨blk_cell htr 0, blk_cell htr 1, blk_cell htr 2, blk_cell htr 3, blk_cell htr 4, blk_cell htr 5⟩
  clear hck htr hb14
  obtain ⟨sd, rfl, c0⟩ := state_at (HM.out.below HB14.out) f0 HSW.out.1 HSW.out.2
  generalize (PAll.rd_T54 st f0).f0 = kk at c0 sk
  have d3 : decide (kk > 3) = false := decide_eq_false (by omega)
  clear sk
  go_wp2_with fail
  refine (event_any 1001 _).mono ?_
  rw [show decide (1 ≤ (1001 : Int) ∧ (1001 : Int) ≤ 1000) = false from HEv.out]
  clear y0 y1 y2 x0 x1 x2 x3 x4 x5
  rintro e w15 ⟨rfl, hb15⟩
  have HB15 := Lib.hid (below_then HB14.out HB14.out.size hb15)
  have hck := (HB15.out.block _ (lt_of_block HCK.out)).trans HCK.out
  have htr := (HB15.out.block _ (lt_of_block HTR.out)).trans HTR.out
  obtain ⟨y0, y1, y2⟩ := chk_cells hck
  obtain ⟨x0, x1, x2, x3, x4, x5⟩ : _ ∧ _ ∧ _ ∧ _ ∧ _ ∧ _ := ⟨blk_cell htr 0, blk_cell htr 1, blk_cell htr 2, blk_cell htr 3, blk_cell htr 4, blk_cell htr 5⟩
  clear hck htr hb15
  go_wp2_with fail
  refine (targets_any v _ B ca cb st tr ha A3 c3 f3 _ (HM.out.below HB15.out) (Kd.C_below H3.out HB15.out) l3).mono ?_
  cases e0 : tgtP st f3 with
  | false =>
   have HR : Hid (transP v st ⟨f0, 1001, f2, f3, f4, f5⟩ = 11) := Lib.hid (by rw [HP2.out]; rw [if_pos e0])
   clear e0
   clear y0 y1 y2 x0 x1 x2 x3 x4 x5
   rintro e w16 ⟨rfl, hb16⟩
   have HB16 := Lib.hid (below_then HB15.out HB15.out.size hb16)
   have hck := (HB16.out.block _ (lt_of_block HCK.out)).trans HCK.out
   have htr := (HB16.out.block _ (lt_of_block HTR.out)).trans HTR.out
   obtain ⟨y0, y1, y2⟩ := chk_cells hck
   obtain ⟨x0, x1, x2, x3, x4, x5⟩ : _ ∧ _ ∧ _ ∧ _ ∧ _ ∧ _ := ⟨blk_cell htr 0, blk_cell htr 1, blk_cell htr 2, blk_cell htr 3, blk_cell htr 4, blk_cell htr 5⟩
   clear hck htr hb16
   go_wp2_with fail
   go_ret
   exact ⟨by rw [HR.out]; rfl, HFin.out _ HB16.out⟩
  | true =>
   have HP1 := HP2.out
   rw [if_neg (by rw [e0]; simp)] at HP1
   have HP2 := Lib.hid HP1
   clear HP1
   clear e0
   clear y0 y1 y2 x0 x1 x2 x3 x4 x5
   rintro e w16 ⟨rfl, hb16⟩
   have HB16 := Lib.hid (below_then HB15.out HB15.out.size hb16)
   have hck := (HB16.out.block _ (lt_of_block HCK.out)).trans HCK.out
   have htr := (HB16.out.block _ (lt_of_block HTR.out)).trans HTR.out
   obtain ⟨y0, y1, y2⟩ := chk_cells hck
   obtain ⟨x0, x1, x2, x3, x4, x5⟩ : _ ∧ _ ∧ _ ∧ _ ∧ _ ∧ _ := ⟨blk_cell htr 0, blk_cell htr 1, blk_cell htr 2, blk_cell htr 3, blk_cell htr 4, blk_cell htr 5⟩
   clear hck htr hb16
   cases eg : f2.toList.isEmpty with
   | true =>
    have HP1 := HP2.out
    rw [if_neg (fun h => by rw [eg] at h; exact absurd h.1 (by simp))] at HP1
    have HP2 := Lib.hid HP1
    clear HP1
    go_wp2_with fail
    refine (acts_any v _ B st.length tr.length ca cb A5 c5 f5 HZ.out _ (HW.out.below HB16.out) (Kd.C_below H5.out HB16.out) l5).mono ?_
    cases e1 : actsP v f5 with
    | false =>
     have HR : Hid (transP v st ⟨f0, 1001, f2, f3, f4, f5⟩ = 1) := Lib.hid (by rw [HP2.out]; rw [if_pos e1])
     clear e1
     clear y0 y1 y2 x0 x1 x2 x3 x4 x5
     rintro e w18 ⟨rfl, hb18⟩
     have HB18 := Lib.hid (below_then HB16.out HB16.out.size hb18)
     have hck := (HB18.out.block _ (lt_of_block HCK.out)).trans HCK.out
     have htr := (HB18.out.block _ (lt_of_block HTR.out)).trans HTR.out
     obtain ⟨y0, y1, y2⟩ := chk_cells hck
     obtain ⟨x0, x1, x2, x3, x4, x5⟩ : _ ∧ _ ∧ _ ∧ _ ∧ _ ∧ _ := ⟨blk_cell htr 0, blk_cell htr 1, blk_cell htr 2, blk_cell htr 3, blk_cell htr 4, blk_cell htr 5⟩
     clear hck htr hb18
     go_wp2_with fail
     go_ret
     exact ⟨by rw [HR.out]; rfl, HFin.out _ HB18.out⟩
    | true =>
     have HR : Hid (transP v st ⟨f0, 1001, f2, f3, f4, f5⟩ = 0) := Lib.hid (by rw [HP2.out]; rw [if_neg (by rw [e1]; simp)])
     clear e1
     clear y0 y1 y2 x0 x1 x2 x3 x4 x5
     rintro e w18 ⟨rfl, hb18⟩
     have HB18 := Lib.hid (below_then HB16.out HB16.out.size hb18)
     have hck := (HB18.out.block _ (lt_of_block HCK.out)).trans HCK.out
     have htr := (HB18.out.block _ (lt_of_block HTR.out)).trans HTR.out
     obtain ⟨y0, y1, y2⟩ := chk_cells hck
     obtain ⟨x0, x1, x2, x3, x4, x5⟩ : _ ∧ _ ∧ _ ∧ _ ∧ _ ∧ _ := ⟨blk_cell htr 0, blk_cell htr 1, blk_cell htr 2, blk_cell htr 3, blk_cell htr 4, blk_cell htr 5⟩
     clear hck htr hb18
     go_wp2_with fail
     go_ret
     exact ⟨by rw [HR.out]; rfl, HFin.out _ HB18.out⟩
   | false =>
    go_wp2_with fail
    refine (typed_any v _ B st.length tr.length ca cb f2 hs 2 _ (HW.out.below HB16.out)).mono ?_
    cases et : typP f2 2 v with
    | false =>
     have HR : Hid (transP v st ⟨f0, 1001, f2, f3, f4, f5⟩ = 8) := Lib.hid (by rw [HP2.out]; rw [if_pos ⟨eg, et⟩])
     clear et
     clear y0 y1 y2 x0 x1 x2 x3 x4 x5
     rintro e w17 ⟨rfl, hb17⟩
     have HB17 := Lib.hid (below_then HB16.out HB16.out.size hb17)
     have hck := (HB17.out.block _ (lt_of_block HCK.out)).trans HCK.out
     have htr := (HB17.out.block _ (lt_of_block HTR.out)).trans HTR.out
     obtain ⟨y0, y1, y2⟩ := chk_cells hck
     obtain ⟨x0, x1, x2, x3, x4, x5⟩ : _ ∧ _ ∧ _ ∧ _ ∧ _ ∧ _ := ⟨blk_cell htr 0, blk_cell htr 1, blk_cell htr 2, blk_cell htr 3, blk_cell htr 4, blk_cell htr 5⟩
     clear hck htr hb17
     go_wp2_with fail
     go_ret
     exact ⟨by rw [HR.out]; rfl, HFin.out _ HB17.out⟩
    | true =>
     have HP1 := HP2.out
     rw [if_neg (fun h => by rw [et] at h; exact absurd h.2 (by simp))] at HP1
     have HP2 := Lib.hid HP1
     clear HP1
     clear et
     clear y0 y1 y2 x0 x1 x2 x3 x4 x5
     rintro e w17 ⟨rfl, hb17⟩
     have HB17 := Lib.hid (below_then HB16.out HB16.out.size hb17)
     have hck := (HB17.out.block _ (lt_of_block HCK.out)).trans HCK.out
     have htr := (HB17.out.block _ (lt_of_block HTR.out)).trans HTR.out
     obtain ⟨y0, y1, y2⟩ := chk_cells hck
     obtain ⟨x0, x1, x2, x3, x4, x5⟩ : _ ∧ _ ∧ _ ∧ _ ∧ _ ∧ _ := ⟨blk_cell htr 0, blk_cell htr 1, blk_cell htr 2, blk_cell htr 3, blk_cell htr 4, blk_cell htr 5⟩
     clear hck htr hb17
     go_wp2_with fail
     refine (acts_any v _ B st.length tr.length ca cb A5 c5 f5 HZ.out _ (HW.out.below HB17.out) (Kd.C_below H5.out HB17.out) l5).mono ?_
     cases e1 : actsP v f5 with
     | false =>
      have HR : Hid (transP v st ⟨f0, 1001, f2, f3, f4, f5⟩ = 1) := Lib.hid (by rw [HP2.out]; rw [if_pos e1])
      clear e1
      clear y0 y1 y2 x0 x1 x2 x3 x4 x5
      rintro e w19 ⟨rfl, hb19⟩
      have HB19 := Lib.hid (below_then HB17.out HB17.out.size hb19)
      have hck := (HB19.out.block _ (lt_of_block HCK.out)).trans HCK.out
      have htr := (HB19.out.block _ (lt_of_block HTR.out)).trans HTR.out
      obtain ⟨y0, y1, y2⟩ := chk_cells hck
      obtain ⟨x0, x1, x2, x3, x4, x5⟩ : _ ∧ _ ∧ _ ∧ _ ∧ _ ∧ _ := ⟨blk_cell htr 0, blk_cell htr 1, blk_cell htr 2, blk_cell htr 3, blk_cell htr 4, blk_cell htr 5⟩
      clear hck htr hb19
      go_wp2_with fail
      go_ret
      exact ⟨by rw [HR.out]; rfl, HFin.out _ HB19.out⟩
     | true =>
      have HR : Hid (transP v st ⟨f0, 1001, f2, f3, f4, f5⟩ = 0) := Lib.hid (by rw [HP2.out]; rw [if_neg (by rw [e1]; simp)])
      clear e1
      clear y0 y1 y2 x0 x1 x2 x3 x4 x5
      rintro e w19 ⟨rfl, hb19⟩
      have HB19 := Lib.hid (below_then HB17.out HB17.out.size hb19)
      have hck := (HB19.out.block _ (lt_of_block HCK.out)).trans HCK.out
      have htr := (HB19.out.block _ (lt_of_block HTR.out)).trans HTR.out
      obtain ⟨y0, y1, y2⟩ := chk_cells hck
      obtain ⟨x0, x1, x2, x3, x4, x5⟩ : _ ∧ _ ∧ _ ∧ _ ∧ _ ∧ _ := ⟨blk_cell htr 0, blk_cell htr 1, blk_cell htr 2, blk_cell htr 3, blk_cell htr 4, blk_cell htr 5⟩
      clear hck htr hb19
      go_wp2_with fail
      go_ret
      exact ⟨by rw [HR.out]; rfl, HFin.out _ HB19.out⟩
 by_cases v1002 : f1 = 1002
 ·subst v1002
  have HP1 := HP2.out
  rw [if_neg (fun h => h.2.2.2.1 rfl)] at HP1
  have HP2 := Lib.hid HP1
  clear HP1
  clear v0 v1
  go_enter Tryz.func78, Tryz.ntmps78
  go_wp2_with fail
  refine (there_any HM.out v f0).mono ?_
  rw [HTd.out]
  rintro e w20 ⟨rfl, hb20⟩
  have HB20 := Lib.hid (below_then HBr.out HBr.out.size hb20)
  have hck := (HB20.out.block _ (lt_of_block HCK.out)).trans HCK.out
  have htr := (HB20.out.block _ (lt_of_block HTR.out)).trans HTR.out
  obtain ⟨y0, y1, y2⟩ := chk_cells hck
  obtain ⟨x0, x1, x2, x3, x4, x5⟩ : _ ∧ _ ∧ _ ∧ _ ∧ _ ∧ _ := ⟨blk_cell htr 0, blk_cell htr 1, blk_cell htr 2, blk_cell htr 3, blk_cell htr 4, blk_cell htr 5⟩
  clear hck htr hb20
  obtain ⟨sd, rfl, c0⟩ := state_at (HM.out.below HB20.out) f0 HSW.out.1 HSW.out.2
  generalize (PAll.rd_T54 st f0).f0 = kk at c0 sk
  have d3 : decide (kk > 3) = false := decide_eq_false (by omega)
  clear sk
  go_wp2_with fail
  refine (event_any 1002 _).mono ?_
  rw [show decide (1 ≤ (1002 : Int) ∧ (1002 : Int) ≤ 1000) = false from HEv.out]
  clear y0 y1 y2 x0 x1 x2 x3 x4 x5
  rintro e w21 ⟨rfl, hb21⟩
  have HB21 := Lib.hid (below_then HB20.out HB20.out.size hb21)
  have hck := (HB21.out.block _ (lt_of_block HCK.out)).trans HCK.out
  have htr := (HB21.out.block _ (lt_of_block HTR.out)).trans HTR.out
  obtain ⟨y0, y1, y2⟩ := chk_cells hck
  obtain ⟨x0, x1, x2, x3, x4, x5⟩ : _ ∧ _ ∧ _ ∧ _ ∧ _ ∧ _ := ⟨blk_cell htr 0, blk_cell htr 1, blk_cell htr 2, blk_cell htr 3, blk_cell htr 4, blk_cell htr 5⟩
  clear hck htr hb21
  go_wp2_with fail
  refine (targets_any v _ B ca cb st tr ha A3 c3 f3 _ (HM.out.below HB21.out) (Kd.C_below H3.out HB21.out) l3).mono ?_
  cases e0 : tgtP st f3 with
  | false =>
   have HR : Hid (transP v st ⟨f0, 1002, f2, f3, f4, f5⟩ = 11) := Lib.hid (by rw [HP2.out]; rw [if_pos e0])
   clear e0
   clear y0 y1 y2 x0 x1 x2 x3 x4 x5
   rintro e w22 ⟨rfl, hb22⟩
   have HB22 := Lib.hid (below_then HB21.out HB21.out.size hb22)
   have hck := (HB22.out.block _ (lt_of_block HCK.out)).trans HCK.out
   have htr := (HB22.out.block _ (lt_of_block HTR.out)).trans HTR.out
   obtain ⟨y0, y1, y2⟩ := chk_cells hck
   obtain ⟨x0, x1, x2, x3, x4, x5⟩ : _ ∧ _ ∧ _ ∧ _ ∧ _ ∧ _ := ⟨blk_cell htr 0, blk_cell htr 1, blk_cell htr 2, blk_cell htr 3, blk_cell htr 4, blk_cell htr 5⟩
   clear hck htr hb22
   go_wp2_with fail
   go_ret
   exact ⟨by rw [HR.out]; rfl, HFin.out _ HB22.out⟩
  | true =>
   have HP1 := HP2.out
   rw [if_neg (by rw [e0]; simp)] at HP1
   have HP2 := Lib.hid HP1
   clear HP1
   clear e0
   clear y0 y1 y2 x0 x1 x2 x3 x4 x5
   rintro e w22 ⟨rfl, hb22⟩
   have HB22 := Lib.hid (below_then HB21.out HB21.out.size hb22)
   have hck := (HB22.out.block _ (lt_of_block HCK.out)).trans HCK.out
   have htr := (HB22.out.block _ (lt_of_block HTR.out)).trans HTR.out
   obtain ⟨y0, y1, y2⟩ := chk_cells hck
   obtain ⟨x0, x1, x2, x3, x4, x5⟩ : _ ∧ _ ∧ _ ∧ _ ∧ _ ∧ _ := ⟨blk_cell htr 0, blk_cell htr 1, blk_cell htr 2, blk_cell htr 3, blk_cell htr 4, blk_cell htr 5⟩
   clear hck htr hb22
   cases eg : f2.toList.isEmpty with
   | true =>
    have HP1 := HP2.out
    rw [if_neg (fun h => by rw [eg] at h; exact absurd h.1 (by simp))] at HP1
    have HP2 := Lib.hid HP1
    clear HP1
    go_wp2_with fail
    refine (acts_any v _ B st.length tr.length ca cb A5 c5 f5 HZ.out _ (HW.out.below HB22.out) (Kd.C_below H5.out HB22.out) l5).mono ?_
    cases e1 : actsP v f5 with
    | false =>
     have HR : Hid (transP v st ⟨f0, 1002, f2, f3, f4, f5⟩ = 1) := Lib.hid (by rw [HP2.out]; rw [if_pos e1])
     clear e1
     clear y0 y1 y2 x0 x1 x2 x3 x4 x5
     rintro e w24 ⟨rfl, hb24⟩
     have HB24 := Lib.hid (below_then HB22.out HB22.out.size hb24)
     have hck := (HB24.out.block _ (lt_of_block HCK.out)).trans HCK.out
     have htr := (HB24.out.block _ (lt_of_block HTR.out)).trans HTR.out
     obtain ⟨y0, y1, y2⟩ := chk_cells hck
     obtain ⟨x0, x1, x2, x3, x4, x5⟩ : _ ∧ _ ∧ _ ∧ _ ∧ _ ∧ _ := ⟨blk_cell htr 0, blk_cell htr 1, blk_cell htr 2, blk_cell htr 3, blk_cell htr 4, blk_cell htr 5⟩
     clear hck htr hb24
     go_wp2_with fail
     go_ret
     exact ⟨by rw [HR.out]; rfl, HFin.out _ HB24.out⟩
    | true =>
     have HR : Hid (transP v st ⟨f0, 1002, f2, f3, f4, f5⟩ = 0) := Lib.hid (by rw [HP2.out]; rw [if_neg (by rw [e1]; simp)])
     clear e1
     clear y0 y1 y2 x0 x1 x2 x3 x4 x5
     rintro e w24 ⟨rfl, hb24⟩
     have HB24 := Lib.hid (below_then HB22.out HB22.out.size hb24)
     have hck := (HB24.out.block _ (lt_of_block HCK.out)).trans HCK.out
     have htr := (HB24.out.block _ (lt_of_block HTR.out)).trans HTR.out
     obtain ⟨y0, y1, y2⟩ := chk_cells hck
     obtain ⟨x0, x1, x2, x3, x4, x5⟩ : _ ∧ _ ∧ _ ∧ _ ∧ _ ∧ _ := ⟨blk_cell htr 0, blk_cell htr 1, blk_cell htr 2, blk_cell htr 3, blk_cell htr 4, blk_cell htr 5⟩
     clear hck htr hb24
     go_wp2_with fail
     go_ret
     exact ⟨by rw [HR.out]; rfl, HFin.out _ HB24.out⟩
   | false =>
    go_wp2_with fail
    refine (typed_any v _ B st.length tr.length ca cb f2 hs 2 _ (HW.out.below HB22.out)).mono ?_
    cases et : typP f2 2 v with
    | false =>
     have HR : Hid (transP v st ⟨f0, 1002, f2, f3, f4, f5⟩ = 8) := Lib.hid (by rw [HP2.out]; rw [if_pos ⟨eg, et⟩])
     clear et
     clear y0 y1 y2 x0 x1 x2 x3 x4 x5
     rintro e w23 ⟨rfl, hb23⟩
     have HB23 := Lib.hid (below_then HB22.out HB22.out.size hb23)
     have hck := (HB23.out.block _ (lt_of_block HCK.out)).trans HCK.out
     have htr := (HB23.out.block _ (lt_of_block HTR.out)).trans HTR.out
     obtain ⟨y0, y1, y2⟩ := chk_cells hck
     obtain ⟨x0, x1, x2, x3, x4, x5⟩ : _ ∧ _ ∧ _ ∧ _ ∧ _ ∧ _ := ⟨blk_cell htr 0, blk_cell htr 1, blk_cell htr 2, blk_cell htr 3, blk_cell htr 4, blk_cell htr 5⟩
     clear hck htr hb23
     go_wp2_with fail
     go_ret
     exact ⟨by rw [HR.out]; rfl, HFin.out _ HB23.out⟩
    | true =>
     have HP1 := HP2.out
     rw [if_neg (fun h => by rw [et] at h; exact absurd h.2 (by simp))] at HP1
     have HP2 := Lib.hid HP1
     clear HP1
     clear et
     clear y0 y1 y2 x0 x1 x2 x3 x4 x5
     rintro e w23 ⟨rfl, hb23⟩
     have HB23 := Lib.hid (below_then HB22.out HB22.out.size hb23)
     have hck := (HB23.out.block _ (lt_of_block HCK.out)).trans HCK.out
     have htr := (HB23.out.block _ (lt_of_block HTR.out)).trans HTR.out
     obtain ⟨y0, y1, y2⟩ := chk_cells hck
     obtain ⟨x0, x1, x2, x3, x4, x5⟩ : _ ∧ _ ∧ _ ∧ _ ∧ _ ∧ _ := ⟨blk_cell htr 0, blk_cell htr 1, blk_cell htr 2, blk_cell htr 3, blk_cell htr 4, blk_cell htr 5⟩
     clear hck htr hb23
     go_wp2_with fail
     refine (acts_any v _ B st.length tr.length ca cb A5 c5 f5 HZ.out _ (HW.out.below HB23.out) (Kd.C_below H5.out HB23.out) l5).mono ?_
     cases e1 : actsP v f5 with
     | false =>
      have HR : Hid (transP v st ⟨f0, 1002, f2, f3, f4, f5⟩ = 1) := Lib.hid (by rw [HP2.out]; rw [if_pos e1])
      clear e1
      clear y0 y1 y2 x0 x1 x2 x3 x4 x5
      rintro e w25 ⟨rfl, hb25⟩
      have HB25 := Lib.hid (below_then HB23.out HB23.out.size hb25)
      have hck := (HB25.out.block _ (lt_of_block HCK.out)).trans HCK.out
      have htr := (HB25.out.block _ (lt_of_block HTR.out)).trans HTR.out
      obtain ⟨y0, y1, y2⟩ := chk_cells hck
      obtain ⟨x0, x1, x2, x3, x4, x5⟩ : _ ∧ _ ∧ _ ∧ _ ∧ _ ∧ _ := ⟨blk_cell htr 0, blk_cell htr 1, blk_cell htr 2, blk_cell htr 3, blk_cell htr 4, blk_cell htr 5⟩
      clear hck htr hb25
      go_wp2_with fail
      go_ret
      exact ⟨by rw [HR.out]; rfl, HFin.out _ HB25.out⟩
     | true =>
      have HR : Hid (transP v st ⟨f0, 1002, f2, f3, f4, f5⟩ = 0) := Lib.hid (by rw [HP2.out]; rw [if_neg (by rw [e1]; simp)])
      clear e1
      clear y0 y1 y2 x0 x1 x2 x3 x4 x5
      rintro e w25 ⟨rfl, hb25⟩
      have HB25 := Lib.hid (below_then HB23.out HB23.out.size hb25)
      have hck := (HB25.out.block _ (lt_of_block HCK.out)).trans HCK.out
      have htr := (HB25.out.block _ (lt_of_block HTR.out)).trans HTR.out
      obtain ⟨y0, y1, y2⟩ := chk_cells hck
      obtain ⟨x0, x1, x2, x3, x4, x5⟩ : _ ∧ _ ∧ _ ∧ _ ∧ _ ∧ _ := ⟨blk_cell htr 0, blk_cell htr 1, blk_cell htr 2, blk_cell htr 3, blk_cell htr 4, blk_cell htr 5⟩
      clear hck htr hb25
      go_wp2_with fail
      go_ret
      exact ⟨by rw [HR.out]; rfl, HFin.out _ HB25.out⟩
 have z3 : (f1 == 1001) = false := by simp [v1001]
 have z4 : (f1 != 1001) = true := by simp [v1001]
 have z5 : (f1 == 1002) = false := by simp [v1002]
 have z6 : (f1 != 1002) = true := by simp [v1002]
 by_cases vd : 2000 ≤ f1 ∧ f1 < 2000 + (st.length : Int)
 ·have HP1 := HP2.out
  rw [if_neg (fun h => h.2.2.2.2 vd)] at HP1
  have HP2 := Lib.hid HP1
  clear HP1
  have d1 : decide (f1 ≥ 2000) = true := decide_eq_true vd.1
  have d2 : decide (f1 < 2000 + (st.length : Int)) = true := decide_eq_true vd.2
  clear v0 v1 v1001 v1002 vd
  go_enter Tryz.func78, Tryz.ntmps78
  go_wp2_with fail
  refine (there_any HM.out v f0).mono ?_
  rw [HTd.out]
  rintro e w26 ⟨rfl, hb26⟩
  have HB26 := Lib.hid (below_then HBr.out HBr.out.size hb26)
  have hck := (HB26.out.block _ (lt_of_block HCK.out)).trans HCK.out
  have htr := (HB26.out.block _ (lt_of_block HTR.out)).trans HTR.out
  obtain ⟨y0, y1, y2⟩ := chk_cells hck
  obtain ⟨x0, x1, x2, x3, x4, x5⟩ : _ ∧ _ ∧ _ ∧ _ ∧ _ ∧ _ := ⟨blk_cell htr 0, blk_cell htr 1, blk_cell htr 2, blk_cell htr 3, blk_cell htr 4, blk_cell htr 5⟩
  clear hck htr hb26
  obtain ⟨sd, rfl, c0⟩ := state_at (HM.out.below HB26.out) f0 HSW.out.1 HSW.out.2
  generalize (PAll.rd_T54 st f0).f0 = kk at c0 sk
  have d3 : decide (kk > 3) = false := decide_eq_false (by omega)
  clear sk
  go_wp2_with fail
  refine (event_any f1 _).mono ?_
  rw [show decide (1 ≤ f1 ∧ f1 ≤ 1000) = false from HEv.out]
  clear y0 y1 y2 x0 x1 x2 x3 x4 x5
  rintro e w27 ⟨rfl, hb27⟩
  have HB27 := Lib.hid (below_then HB26.out HB26.out.size hb27)
  have hck := (HB27.out.block _ (lt_of_block HCK.out)).trans HCK.out
  have htr := (HB27.out.block _ (lt_of_block HTR.out)).trans HTR.out
  obtain ⟨y0, y1, y2⟩ := chk_cells hck
  obtain ⟨x0, x1, x2, x3, x4, x5⟩ : _ ∧ _ ∧ _ ∧ _ ∧ _ ∧ _ := ⟨blk_cell htr 0, blk_cell htr 1, blk_cell htr 2, blk_cell htr 3, blk_cell htr 4, blk_cell htr 5⟩
  clear hck htr hb27
  go_wp2_with fail
  refine (targets_any v _ B ca cb st tr ha A3 c3 f3 _ (HM.out.below HB27.out) (Kd.C_below H3.out HB27.out) l3).mono ?_
  cases e0 : tgtP st f3 with
  | false =>
   have HR : Hid (transP v st ⟨f0, f1, f2, f3, f4, f5⟩ = 11) := Lib.hid (by rw [HP2.out]; rw [if_pos e0])
   clear e0
   clear y0 y1 y2 x0 x1 x2 x3 x4 x5
   rintro e w28 ⟨rfl, hb28⟩
   have HB28 := Lib.hid (below_then HB27.out HB27.out.size hb28)
   have hck := (HB28.out.block _ (lt_of_block HCK.out)).trans HCK.out
   have htr := (HB28.out.block _ (lt_of_block HTR.out)).trans HTR.out
   obtain ⟨y0, y1, y2⟩ := chk_cells hck
   obtain ⟨x0, x1, x2, x3, x4, x5⟩ : _ ∧ _ ∧ _ ∧ _ ∧ _ ∧ _ := ⟨blk_cell htr 0, blk_cell htr 1, blk_cell htr 2, blk_cell htr 3, blk_cell htr 4, blk_cell htr 5⟩
   clear hck htr hb28
   go_wp2_with fail
   go_ret
   exact ⟨by rw [HR.out]; rfl, HFin.out _ HB28.out⟩
  | true =>
   have HP1 := HP2.out
   rw [if_neg (by rw [e0]; simp)] at HP1
   have HP2 := Lib.hid HP1
   clear HP1
   clear e0
   clear y0 y1 y2 x0 x1 x2 x3 x4 x5
   rintro e w28 ⟨rfl, hb28⟩
   have HB28 := Lib.hid (below_then HB27.out HB27.out.size hb28)
   have hck := (HB28.out.block _ (lt_of_block HCK.out)).trans HCK.out
   have htr := (HB28.out.block _ (lt_of_block HTR.out)).trans HTR.out
   obtain ⟨y0, y1, y2⟩ := chk_cells hck
   obtain ⟨x0, x1, x2, x3, x4, x5⟩ : _ ∧ _ ∧ _ ∧ _ ∧ _ ∧ _ := ⟨blk_cell htr 0, blk_cell htr 1, blk_cell htr 2, blk_cell htr 3, blk_cell htr 4, blk_cell htr 5⟩
   clear hck htr hb28
   cases eg : f2.toList.isEmpty with
   | true =>
    have HP1 := HP2.out
    rw [if_neg (fun h => by rw [eg] at h; exact absurd h.1 (by simp))] at HP1
    have HP2 := Lib.hid HP1
    clear HP1
    go_wp2_with fail
    refine (acts_any v _ B st.length tr.length ca cb A5 c5 f5 HZ.out _ (HW.out.below HB28.out) (Kd.C_below H5.out HB28.out) l5).mono ?_
    cases e1 : actsP v f5 with
    | false =>
     have HR : Hid (transP v st ⟨f0, f1, f2, f3, f4, f5⟩ = 1) := Lib.hid (by rw [HP2.out]; rw [if_pos e1])
     clear e1
     clear y0 y1 y2 x0 x1 x2 x3 x4 x5
     rintro e w30 ⟨rfl, hb30⟩
     have HB30 := Lib.hid (below_then HB28.out HB28.out.size hb30)
     have hck := (HB30.out.block _ (lt_of_block HCK.out)).trans HCK.out
     have htr := (HB30.out.block _ (lt_of_block HTR.out)).trans HTR.out
     obtain ⟨y0, y1, y2⟩ := chk_cells hck
     obtain ⟨x0, x1, x2, x3, x4, x5⟩ : _ ∧ _ ∧ _ ∧ _ ∧ _ ∧ _ := ⟨blk_cell htr 0, blk_cell htr 1, blk_cell htr 2, blk_cell htr 3, blk_cell htr 4, blk_cell htr 5⟩
     clear hck htr hb30
     go_wp2_with fail
     go_ret
     exact ⟨by rw [HR.out]; rfl, HFin.out _ HB30.out⟩
    | true =>
     have HR : Hid (transP v st ⟨f0, f1, f2, f3, f4, f5⟩ = 0) := Lib.hid (by rw [HP2.out]; rw [if_neg (by rw [e1]; simp)])
     clear e1
     clear y0 y1 y2 x0 x1 x2 x3 x4 x5
     rintro e w30 ⟨rfl, hb30⟩
     have HB30 := Lib.hid (below_then HB28.out HB28.out.size hb30)
     have hck := (HB30.out.block _ (lt_of_block HCK.out)).trans HCK.out
     have htr := (HB30.out.block _ (lt_of_block HTR.out)).trans HTR.out
     obtain ⟨y0, y1, y2⟩ := chk_cells hck
     obtain ⟨x0, x1, x2, x3, x4, x5⟩ : _ ∧ _ ∧ _ ∧ _ ∧ _ ∧ _ := ⟨blk_cell htr 0, blk_cell htr 1, blk_cell htr 2, blk_cell htr 3, blk_cell htr 4, blk_cell htr 5⟩
     clear hck htr hb30
     go_wp2_with fail
     go_ret
     exact ⟨by rw [HR.out]; rfl, HFin.out _ HB30.out⟩
   | false =>
    go_wp2_with fail
    refine (typed_any v _ B st.length tr.length ca cb f2 hs 2 _ (HW.out.below HB28.out)).mono ?_
    cases et : typP f2 2 v with
    | false =>
     have HR : Hid (transP v st ⟨f0, f1, f2, f3, f4, f5⟩ = 8) := Lib.hid (by rw [HP2.out]; rw [if_pos ⟨eg, et⟩])
     clear et
     clear y0 y1 y2 x0 x1 x2 x3 x4 x5
     rintro e w29 ⟨rfl, hb29⟩
     have HB29 := Lib.hid (below_then HB28.out HB28.out.size hb29)
     have hck := (HB29.out.block _ (lt_of_block HCK.out)).trans HCK.out
     have htr := (HB29.out.block _ (lt_of_block HTR.out)).trans HTR.out
     obtain ⟨y0, y1, y2⟩ := chk_cells hck
     obtain ⟨x0, x1, x2, x3, x4, x5⟩ : _ ∧ _ ∧ _ ∧ _ ∧ _ ∧ _ := ⟨blk_cell htr 0, blk_cell htr 1, blk_cell htr 2, blk_cell htr 3, blk_cell htr 4, blk_cell htr 5⟩
     clear hck htr hb29
     go_wp2_with fail
     go_ret
     exact ⟨by rw [HR.out]; rfl, HFin.out _ HB29.out⟩
    | true =>
     have HP1 := HP2.out
     rw [if_neg (fun h => by rw [et] at h; exact absurd h.2 (by simp))] at HP1
     have HP2 := Lib.hid HP1
     clear HP1
     clear et
     clear y0 y1 y2 x0 x1 x2 x3 x4 x5
     rintro e w29 ⟨rfl, hb29⟩
     have HB29 := Lib.hid (below_then HB28.out HB28.out.size hb29)
     have hck := (HB29.out.block _ (lt_of_block HCK.out)).trans HCK.out
     have htr := (HB29.out.block _ (lt_of_block HTR.out)).trans HTR.out
     obtain ⟨y0, y1, y2⟩ := chk_cells hck
     obtain ⟨x0, x1, x2, x3, x4, x5⟩ : _ ∧ _ ∧ _ ∧ _ ∧ _ ∧ _ := ⟨blk_cell htr 0, blk_cell htr 1, blk_cell htr 2, blk_cell htr 3, blk_cell htr 4, blk_cell htr 5⟩
     clear hck htr hb29
     go_wp2_with fail
     refine (acts_any v _ B st.length tr.length ca cb A5 c5 f5 HZ.out _ (HW.out.below HB29.out) (Kd.C_below H5.out HB29.out) l5).mono ?_
     cases e1 : actsP v f5 with
     | false =>
      have HR : Hid (transP v st ⟨f0, f1, f2, f3, f4, f5⟩ = 1) := Lib.hid (by rw [HP2.out]; rw [if_pos e1])
      clear e1
      clear y0 y1 y2 x0 x1 x2 x3 x4 x5
      rintro e w31 ⟨rfl, hb31⟩
      have HB31 := Lib.hid (below_then HB29.out HB29.out.size hb31)
      have hck := (HB31.out.block _ (lt_of_block HCK.out)).trans HCK.out
      have htr := (HB31.out.block _ (lt_of_block HTR.out)).trans HTR.out
      obtain ⟨y0, y1, y2⟩ := chk_cells hck
      obtain ⟨x0, x1, x2, x3, x4, x5⟩ : _ ∧ _ ∧ _ ∧ _ ∧ _ ∧ _ := ⟨blk_cell htr 0, blk_cell htr 1, blk_cell htr 2, blk_cell htr 3, blk_cell htr 4, blk_cell htr 5⟩
      clear hck htr hb31
      go_wp2_with fail
      go_ret
      exact ⟨by rw [HR.out]; rfl, HFin.out _ HB31.out⟩
     | true =>
      have HR : Hid (transP v st ⟨f0, f1, f2, f3, f4, f5⟩ = 0) := Lib.hid (by rw [HP2.out]; rw [if_neg (by rw [e1]; simp)])
      clear e1
      clear y0 y1 y2 x0 x1 x2 x3 x4 x5
      rintro e w31 ⟨rfl, hb31⟩
      have HB31 := Lib.hid (below_then HB29.out HB29.out.size hb31)
      have hck := (HB31.out.block _ (lt_of_block HCK.out)).trans HCK.out
      have htr := (HB31.out.block _ (lt_of_block HTR.out)).trans HTR.out
      obtain ⟨y0, y1, y2⟩ := chk_cells hck
      obtain ⟨x0, x1, x2, x3, x4, x5⟩ : _ ∧ _ ∧ _ ∧ _ ∧ _ ∧ _ := ⟨blk_cell htr 0, blk_cell htr 1, blk_cell htr 2, blk_cell htr 3, blk_cell htr 4, blk_cell htr 5⟩
      clear hck htr hb31
      go_wp2_with fail
      go_ret
      exact ⟨by rw [HR.out]; rfl, HFin.out _ HB31.out⟩
 have HR : Hid (transP v st ⟨f0, f1, f2, f3, f4, f5⟩ = 1) := Lib.hid (by rw [HP2.out]; rw [if_pos ⟨v0, v1, v1001, v1002, vd⟩])
 have hor : decide (f1 ≥ 2000) = false ∨ decide (f1 ≥ 2000) = true ∧ decide (f1 < 2000 + (st.length : Int)) = false := by
  by_cases h : 2000 ≤ f1
  ·exact .inr ⟨decide_eq_true h, decide_eq_false (fun h' => vd ⟨h, h'⟩)⟩
  ·exact .inl (decide_eq_false h)
 clear v0 v1 v1001 v1002 vd
 go_enter Tryz.func78, Tryz.ntmps78
 rcases hor with d1 | ⟨d1, d2⟩
 all_goals
  go_wp2_with fail
  refine (there_any HM.out v f0).mono ?_
  rw [HTd.out]
  rintro e w32 ⟨rfl, hb32⟩
  have HB32 := Lib.hid (below_then HBr.out HBr.out.size hb32)
  have hck := (HB32.out.block _ (lt_of_block HCK.out)).trans HCK.out
  have htr := (HB32.out.block _ (lt_of_block HTR.out)).trans HTR.out
  obtain ⟨y0, y1, y2⟩ := chk_cells hck
  obtain ⟨x0, x1, x2, x3, x4, x5⟩ : _ ∧ _ ∧ _ ∧ _ ∧ _ ∧ _ := ⟨blk_cell htr 0, blk_cell htr 1, blk_cell htr 2, blk_cell htr 3, blk_cell htr 4, blk_cell htr 5⟩
  clear hck htr hb32
  obtain ⟨sd, rfl, c0⟩ := state_at (HM.out.below HB32.out) f0 HSW.out.1 HSW.out.2
  generalize (PAll.rd_T54 st f0).f0 = kk at c0 sk
  have d3 : decide (kk > 3) = false := decide_eq_false (by omega)
  clear sk
  go_wp2_with fail
  refine (event_any f1 _).mono ?_
  rw [show decide (1 ≤ f1 ∧ f1 ≤ 1000) = false from HEv.out]
  clear y0 y1 y2 x0 x1 x2 x3 x4 x5
  rintro e w33 ⟨rfl, hb33⟩
  have HB33 := Lib.hid (below_then HB32.out HB32.out.size hb33)
  have hck := (HB33.out.block _ (lt_of_block HCK.out)).trans HCK.out
  have htr := (HB33.out.block _ (lt_of_block HTR.out)).trans HTR.out
  obtain ⟨y0, y1, y2⟩ := chk_cells hck
  obtain ⟨x0, x1, x2, x3, x4, x5⟩ : _ ∧ _ ∧ _ ∧ _ ∧ _ ∧ _ := ⟨blk_cell htr 0, blk_cell htr 1, blk_cell htr 2, blk_cell htr 3, blk_cell htr 4, blk_cell htr 5⟩
  clear hck htr hb33
  go_wp2_with fail
  go_ret
  exact ⟨by rw [HR.out]; rfl, HFin.out _ HB33.out⟩
end Go.Proofs.YtemoonhnncopoaaGreatDoor
end
section
namespace Go.Proofs.YtemoonhnncopoaaGreatDoor
open Go.RowKit Go.Proofs.YtemoonhnncopoaaGreatDoorW.PrintWords
open PX (T V)
def findBad (f : Int → Int) : Nat → Int → Option (Int × Int)
 | 0, _ => none
 | n + 1, i => if f i ≠ 0 then some (i, f i) else findBad f n (i + 1)
theorem findBad_none (f : Int → Int) (n : Nat) : ∀ i : Int, findBad f n i = none ↔ ∀ j : Int, i ≤ j → j < i + n → f j = 0 := by
 induction n with
 | zero => intro i; simp [findBad]; intro j h1 h2; omega
 | succ n ih =>
  intro i
  simp only [findBad]
  by_cases h : f i = 0
  ·rw [if_neg (fun h' => h' h), ih (i + 1)]
   constructor
   ·intro hh j h1 h2
    by_cases e : j = i
    ·rw [e]; exact h
    ·exact hh j (by omega) (by push_cast at h2; omega)
   ·intro hh j h1 h2
    exact hh j (by omega) (by push_cast; omega)
  ·rw [if_pos h]
   constructor
   ·intro hh; cases hh
   ·intro hh; exact absurd (hh i (Int.le_refl _) (by push_cast; omega)) h
noncomputable def chkP (v : Int) (st : List Sta) (tr : List Tra) : Er :=
 if v < 0 ∨ 8 < v ∨ st.length < 1 ∨ 24 < st.length ∨ 40 < tr.length then .code 3
 else match findBad (stateP v st) st.length 0 with
  | some (i, c) => .spot i c
  | none => match findBad (fun i => transP v st (PAll.rd_T56 tr i)) tr.length 0 with
   | some (i, c) => .spot ((st.length : Int) + i) c
   | none => .none
structure FewC (st : List Sta) (tr : List Tra) : Prop where
 s : ∀ x ∈ st, x.f3.length ≤ 1000 ∧ x.f4.length ≤ 1000 ∧ ∀ a ∈ x.f3 ++ x.f4, a.f3.size ≤ 281474976710656
 t : ∀ x ∈ tr, x.f2.size ≤ 281474976710656 ∧ ∀ a ∈ x.f5, a.f3.size ≤ 281474976710656
theorem rdS_mem (st : List Sta) (q : Nat) (h : q < st.length) : PAll.rd_T54 st (q : Int) ∈ st := by
 have : PAll.rd_T54 st (q : Int) = st[q] := by simp [PAll.rd_T54, List.getD_eq_getElem?_getD, List.getElem?_eq_getElem h]
 rw [this]; exact List.getElem_mem h
theorem rdT_mem (tr : List Tra) (q : Nat) (h : q < tr.length) : PAll.rd_T56 tr (q : Int) ∈ tr := by
 have : PAll.rd_T56 tr (q : Int) = tr[q] := by simp [PAll.rd_T56, List.getD_eq_getElem?_getD, List.getElem?_eq_getElem h]
 rw [this]; exact List.getElem_mem h
theorem state_par {v : Int} {st : List Sta} {i : Int} (h : stateP v st i = 0) : (i = 0 → (PAll.rd_T54 st i).f0 = 2) ∧ parP st i = 0 := by
 unfold stateP at h
 split at h
 ·omega
 ·rename_i h1
  split at h
  ·rename_i h2; exact absurd h h2
  ·rename_i h2
   exact ⟨fun e => Classical.byContradiction fun h' => h1 (.inr (.inr ⟨e, h'⟩)), Classical.not_not.1 h2⟩
theorem par_ok {st : List Sta} {i : Int} (h0 : 0 < i) (h : parP st i = 0) : 0 ≤ (PAll.rd_T54 st i).f1 ∧ ((PAll.rd_T54 st i).f1 = i - 1 ∨ inC st (i - 1) (PAll.rd_T54 st i).f1 = true) := by
 unfold parP at h
 rw [if_neg (by omega)] at h
 split at h
 ·omega
 ·rename_i h1
  split at h
  ·omega
  ·rename_i h2
   refine ⟨by omega, ?_⟩
   by_cases e : (PAll.rd_T54 st i).f1 = i - 1
   ·exact .inl e
   ·exact .inr (by
     cases hh : inC st (i - 1) (PAll.rd_T54 st i).f1 with
     | true => rfl
     | false => exact absurd ⟨e, hh⟩ h2)
theorem ahead_of {v : Int} {st : List Sta} (h : ∀ j : Int, 0 ≤ j → j < (st.length : Int) → stateP v st j = 0) : Ahead st := by
 intro i h0 h1
 obtain ⟨p1, p2⟩ := state_par (h i h0 h1)
 by_cases z : i = 0
 ·subst z
  have hk := p1 rfl
  have hp : (PAll.rd_T54 st 0).f1 = -1 := by
   unfold parP at p2
   rw [if_pos rfl] at p2
   split at p2
   ·assumption
   ·omega
  exact ⟨by omega, fun h => by omega, fun _ => by rw [hk]; rfl⟩
 ·obtain ⟨q1, q2⟩ := par_ok (by omega) p2
  refine ⟨?_, fun _ => q1, fun h => absurd h z⟩
  rcases q2 with q2 | q2
  ·omega
  ·have := inC_lt q2; omega
theorem check_any (v : Int) (A B : Option Addr) (ca cb : Nat) (st : List Sta) (tr : List Tra) (hF : FewC st tr) (w : World) (hw : Laid w) (hM : ChM w A ca st B cb tr) :
  Calls Tryz.prog 45 #[ckV v A B st.length tr.length ca cb] w fun e w' => ∃ ev, e = .returned ev ∧ ErV w.heap.size w' ev (chkP v st tr) ∧ Below w.heap.size w w' := by
 have hb1 : Below w.heap.size w (w.alloc (.cells #[.int .i64 v, .slice A st.length ca, .slice B tr.length cb] 47)) := (Below.refl _ w).alloc (Nat.le_refl _) _
 by_cases hbad : v < 0 ∨ 8 < v ∨ st.length < 1 ∨ 24 < st.length ∨ 40 < tr.length
 ·have HR : Hid (chkP v st tr = .code 3) := Lib.hid (by unfold chkP; rw [if_pos hbad])
  have HB1 := Lib.hid hb1
  have hor : decide (v < 0) = true ∨ (decide (v < 0) = false ∧ decide (v > 8) = true) ∨ (decide (v < 0) = false ∧ decide (v > 8) = false ∧ decide ((st.length : Int) < 1) = true) ∨ (decide (v < 0) = false ∧ decide (v > 8) = false ∧ decide ((st.length : Int) < 1) = false ∧ decide ((st.length : Int) > 24) = true) ∨ (decide (v < 0) = false ∧ decide (v > 8) = false ∧ decide ((st.length : Int) < 1) = false ∧ decide ((st.length : Int) > 24) = false ∧ decide ((tr.length : Int) > 40) = true) := by
   by_cases c1 : v < 0
   ·exact .inl (decide_eq_true c1)
   by_cases c2 : 8 < v
   ·exact .inr (.inl ⟨decide_eq_false c1, decide_eq_true c2⟩)
   by_cases c3 : st.length < 1
   ·exact .inr (.inr (.inl ⟨decide_eq_false c1, decide_eq_false c2, decide_eq_true (by omega)⟩))
   by_cases c4 : 24 < st.length
   ·exact .inr (.inr (.inr (.inl ⟨decide_eq_false c1, decide_eq_false c2, decide_eq_false (by omega), decide_eq_true (by omega)⟩)))
   exact .inr (.inr (.inr (.inr ⟨decide_eq_false c1, decide_eq_false c2, decide_eq_false (by omega), decide_eq_false (by omega), decide_eq_true (by omega)⟩)))
  clear hbad hb1
  go_enter Tryz.func45, Tryz.ntmps45
  rcases hor with q1 | ⟨q1, q2⟩ | ⟨q1, q2, q3⟩ | ⟨q1, q2, q3, q4⟩ | ⟨q1, q2, q3, q4, q5⟩
  all_goals
   go_wp2_with fail
   go_ret
   exact ⟨_, rfl, by rw [HR.out]; rfl, HB1.out⟩
 have hb0 : Below w.heap.size w ((w.alloc (.cells #[.int .i64 v, .slice A st.length ca, .slice B tr.length cb] 47)).alloc (.cells #[.int .i64 v, .slice A st.length ca, .slice B tr.length cb] 124)) := hb1.alloc (by simp) _
 have HB0 := Lib.hid hb0
 have HW := Lib.hid (hw.below hb0)
 have HM := Lib.hid (hM.below hb0)
 have HFs := Lib.hid hF.s
 have HFt := Lib.hid hF.t
 obtain ⟨hk1, hk2, _, _⟩ := boxed2 (Below.refl _ ((w.alloc (.cells #[.int .i64 v, .slice A st.length ca, .slice B tr.length cb] 47)).alloc (.cells #[.int .i64 v, .slice A st.length ca, .slice B tr.length cb] 124)))
 have HCC := Lib.hid hk1
 have HCK := Lib.hid hk2
 have hP : chkP v st tr = match findBad (stateP v st) st.length 0 with
  | some (i, c) => .spot i c
  | none => match findBad (fun i => transP v st (PAll.rd_T56 tr i)) tr.length 0 with
   | some (i, c) => .spot ((st.length : Int) + i) c
   | none => .none := by unfold chkP; rw [if_neg hbad]
 have HP := Lib.hid hP
 have q1 : decide (v < 0) = false := decide_eq_false (by omega)
 have q2 : decide (v > 8) = false := decide_eq_false (by omega)
 have q3 : decide ((st.length : Int) < 1) = false := decide_eq_false (by omega)
 have q4 : decide ((st.length : Int) > 24) = false := decide_eq_false (by omega)
 have q5 : decide ((tr.length : Int) > 40) = false := decide_eq_false (by omega)
 have hn : st.length ≤ 24 := by omega
 have hm : tr.length ≤ 40 := by omega
 have hlt0 : w.heap.size + 1 < ((w.alloc (.cells #[.int .i64 v, .slice A st.length ca, .slice B tr.length cb] 47)).alloc (.cells #[.int .i64 v, .slice A st.length ca, .slice B tr.length cb] 124)).heap.size := by simp
 clear hbad hb1 hb0 hw hM hF hk1 hk2 hP
 go_enter Tryz.func45, Tryz.ntmps45
 go_wp2_with fail
 generalize hw0 : (w.alloc (.cells #[.int .i64 v, .slice A st.length ca, .slice B tr.length cb] 47)).alloc (.cells #[.int .i64 v, .slice A st.length ca, .slice B tr.length cb] 124) = w0 at HB0 HW HM HCC HCK hlt0 ⊢
 have hfin : ∀ wr, Below w0.heap.size w0 wr → Below w.heap.size w wr := fun wr h => HB0.out.trans (h.mono HB0.out.size)
 have HFin := Lib.hid hfin
 clear hw0 hfin q1 q2 q3 q4 q5
 go_loopw [41] (fun i wr => ∃ q : Nat, i = .int .i64 q ∧ q ≤ st.length ∧ Hid (Below w0.heap.size w0 wr) ∧ Hid (findBad (stateP v st) st.length 0 = findBad (stateP v st) (st.length - q) (q : Int)) ∧ Hid (∀ j : Int, 0 ≤ j → j < (q : Int) → stateP v st j = 0)) (fun i _ => st.length - (intOf i).toNat)
 case atStart => exact ⟨0, rfl, Nat.zero_le _, Lib.hid (Below.refl _ _), Lib.hid rfl, Lib.hid (fun j h1 h2 => by omega)⟩
 case round =>
  obtain ⟨q, rfl, hq, HB, HE, HZ⟩ := hrel
  have hcc := (HB.out.block _ (lt_of_block HCC.out)).trans HCC.out
  have hck := (HB.out.block _ (lt_of_block HCK.out)).trans HCK.out
  obtain ⟨y0, y1, y2⟩ := chk_cells hck
  by_cases hlt : q < st.length
  ·have p1 : ((q : Int) < (st.length : Int)) = True := eq_true (by omega)
   have hmem := HFs.out _ (rdS_mem st q hlt)
   have HMem := Lib.hid hmem
   have HE2 := HE.out
   rw [show st.length - q = (st.length - (q + 1)) + 1 by omega] at HE2
   simp only [findBad] at HE2
   have HE := Lib.hid HE2
   clear hcc hck hmem HE2
   go_wp2_with fail
   refine (state_any v A B ca cb st tr (q : Int) (by omega) (by omega) (by omega) HMem.out.2.2 HMem.out.1 HMem.out.2.1 _ (HW.out.below HB.out) (HM.out.below HB.out)).mono ?_
   by_cases hz : stateP v st (q : Int) = 0
   ·have HE3 : Hid (findBad (stateP v st) st.length 0 = findBad (stateP v st) (st.length - (q + 1)) ((q + 1 : Nat) : Int)) := Lib.hid (by rw [HE.out, if_neg (fun h => h hz)]; push_cast; rfl)
    have HZ2 : Hid (∀ j : Int, 0 ≤ j → j < ((q + 1 : Nat) : Int) → stateP v st j = 0) := Lib.hid (fun j h1 h2 => by
     by_cases e : j = (q : Int)
     ·rw [e]; exact hz
     ·exact HZ.out j h1 (by push_cast at h2; omega))
    rw [hz]
    clear hz HE HZ
    rintro e w2 ⟨rfl, hb2⟩
    have HB2 := Lib.hid (below_then HB.out HB.out.size hb2)
    clear hb2 y0 y1 y2
    go_wp2_with fail
    go_roundw
    case rel => exact ⟨q + 1, by go_num, by omega, HB2, HE3, HZ2⟩
    case measure => simp [intOf]; omega
   ·have HR : Hid (chkP v st tr = .spot q (stateP v st (q : Int))) := Lib.hid (by rw [HP.out, HE.out, if_pos hz])
    have d1 : (stateP v st (q : Int) == 0) = false := by simp [hz]
    have d2 : (stateP v st (q : Int) != 0) = true := by simp [hz]
    generalize stateP v st (q : Int) = c at HR d1 d2 ⊢
    clear hz HE HZ
    rintro e w2 ⟨rfl, hb2⟩
    have HB2 := Lib.hid (below_then HB.out HB.out.size hb2)
    clear hb2 y0 y1 y2
    go_wp2_with fail
    go_ret
    exact ⟨_, rfl, by rw [HR.out]; exact ⟨w2.heap.size, rfl, by have := HB2.out.size; have := HB0.out.size; omega, blk_new w2 _⟩, HFin.out _ (HB2.out.alloc HB2.out.size _)⟩
  ·obtain rfl : q = st.length := by omega
   have ha : Ahead st := ahead_of (v := v) (fun j h1 h2 => HZ.out j h1 h2)
   have HP1 : Hid (chkP v st tr = match findBad (fun i => transP v st (PAll.rd_T56 tr i)) tr.length 0 with
    | some (i, c) => .spot ((st.length : Int) + i) c
    | none => .none) := Lib.hid (by rw [HP.out, HE.out, Nat.sub_self]; rfl)
   have z0 : wr.cell? ⟨w.heap.size, 0, none⟩ = some (.int .i64 v) := blk_cell hcc 0
   have z1 : wr.cell? ⟨w.heap.size, 1, none⟩ = some (.slice A st.length ca) := blk_cell hcc 1
   have z2 : wr.cell? ⟨w.heap.size, 2, none⟩ = some (.slice B tr.length cb) := blk_cell hcc 2
   have p1 : ((st.length : Int) < (st.length : Int)) = False := eq_false (by omega)
   have HB1 := HB
   clear hcc hck HP HE HZ hq hlt HB
   go_wp2_with fail
   go_loopw [58] (fun i wr => ∃ q : Nat, i = .int .i64 q ∧ q ≤ tr.length ∧ Hid (Below w0.heap.size w0 wr) ∧ Hid (findBad (fun i => transP v st (PAll.rd_T56 tr i)) tr.length 0 = findBad (fun i => transP v st (PAll.rd_T56 tr i)) (tr.length - q) (q : Int))) (fun i _ => tr.length - (intOf i).toNat)
   case atStart => exact ⟨0, rfl, Nat.zero_le _, HB1, Lib.hid rfl⟩
   case round =>
    clear HB1 y0 y1 y2 z0 z1 z2
    obtain ⟨q, rfl, hq, HB, HE⟩ := hrel
    by_cases hlt : q < tr.length
    ·have p2 : ((q : Int) < (tr.length : Int)) = True := eq_true (by omega)
     have hmem := HFt.out _ (rdT_mem tr q hlt)
     obtain ⟨ad, A3, c3, A5, c5, rfl, a0, a1, a2, a3, a4, a5, l3, g3, l5, g5⟩ := PAll.at_T56 (HM.out.below HB.out).ct (q : Int) (by omega) (by omega)
     rw [Int.toNat_natCast] at a0 a1 a2 a3 a4 a5
     have HE2 := HE.out
     rw [show tr.length - q = (tr.length - (q + 1)) + 1 by omega] at HE2
     simp only [findBad] at HE2
     generalize PAll.rd_T56 tr (q : Int) = x at a0 a1 a2 a3 a4 a5 l3 g3 l5 g5 hmem HE2
     obtain ⟨f0, f1, f2, f3, f4, f5⟩ := x
     simp only at a0 a1 a2 a3 a4 a5 l3 g3 l5 g5 hmem
     have HMem := Lib.hid hmem
     have HE := Lib.hid HE2
     have HBA := Lib.hid (HB.out.alloc HB.out.size (.cells #[.int .i64 f0, .int .i64 f1, .string f2, .slice A3 f3.length c3, .bool f4, .slice A5 f5.length c5] 56))
     have HMA := Lib.hid (HM.out.below HBA.out)
     have H3 := Lib.hid (Kd.C_alloc g3 (.cells #[.int .i64 f0, .int .i64 f1, .string f2, .slice A3 f3.length c3, .bool f4, .slice A5 f5.length c5] 56))
     have H5 := Lib.hid (Kd.C_alloc g5 (.cells #[.int .i64 f0, .int .i64 f1, .string f2, .slice A3 f3.length c3, .bool f4, .slice A5 f5.length c5] 56))
     have hck := (HBA.out.block _ (lt_of_block HCK.out)).trans HCK.out
     obtain ⟨y0, y1, y2⟩ := chk_cells hck
     clear hmem HE2 g3 g5 hck
     go_wp2_with fail
     refine (trans_any v A (some ad) ca cb st tr ha (by omega) f0 f1 f2 HMem.out.1 A3 c3 f3 l3 f4 A5 c5 f5 l5 HMem.out.2 _ (HW.out.below HBA.out) HMA.out H3.out H5.out).mono ?_
     by_cases hz : transP v st ⟨f0, f1, f2, f3, f4, f5⟩ = 0
     ·have HE3 : Hid (findBad (fun i => transP v st (PAll.rd_T56 tr i)) tr.length 0 = findBad (fun i => transP v st (PAll.rd_T56 tr i)) (tr.length - (q + 1)) ((q + 1 : Nat) : Int)) := Lib.hid (by rw [HE.out, if_neg (fun h => h hz)]; push_cast; rfl)
      rw [hz]
      clear hz HE
      rintro e w2 ⟨rfl, hb2⟩
      have HB2 := Lib.hid (below_then HBA.out HBA.out.size hb2)
      clear hb2 y0 y1 y2 a0 a1 a2 a3 a4 a5
      go_wp2_with fail
      go_roundw
      case rel => exact ⟨q + 1, by go_num, by omega, HB2, HE3⟩
      case measure => simp [intOf]; omega
     ·have HR : Hid (chkP v st tr = .spot ((st.length : Int) + q) (transP v st ⟨f0, f1, f2, f3, f4, f5⟩)) := Lib.hid (by rw [HP1.out, HE.out, if_pos hz])
      have d1 : (transP v st ⟨f0, f1, f2, f3, f4, f5⟩ == 0) = false := by simp [hz]
      have d2 : (transP v st ⟨f0, f1, f2, f3, f4, f5⟩ != 0) = true := by simp [hz]
      generalize transP v st ⟨f0, f1, f2, f3, f4, f5⟩ = c at HR d1 d2 ⊢
      clear hz HE
      rintro e w2 ⟨rfl, hb2⟩
      have HB2 := Lib.hid (below_then HBA.out HBA.out.size hb2)
      have hcc := (HB2.out.block _ (lt_of_block HCC.out)).trans HCC.out
      have z1 : w2.cell? ⟨w.heap.size, 1, none⟩ = some (.slice A st.length ca) := blk_cell hcc 1
      clear hb2 y0 y1 y2 a0 a1 a2 a3 a4 a5 hcc
      go_wp2_with fail
      go_ret
      exact ⟨_, rfl, by rw [HR.out]; exact ⟨w2.heap.size, rfl, by have := HB2.out.size; have := HB0.out.size; omega, blk_new w2 _⟩, HFin.out _ (HB2.out.alloc HB2.out.size _)⟩
    ·obtain rfl : q = tr.length := by omega
     have HR : Hid (chkP v st tr = .none) := Lib.hid (by rw [HP1.out, HE.out, Nat.sub_self]; rfl)
     have p2 : ((tr.length : Int) < (tr.length : Int)) = False := eq_false (by omega)
     go_wp2_with fail
     go_ret
     exact ⟨_, rfl, by rw [HR.out]; rfl, HFin.out _ HB.out⟩
end Go.Proofs.YtemoonhnncopoaaGreatDoor
end
section
namespace Go.Proofs.YtemoonhnncopoaaGreatDoor
open Go.RowKit PX Go.Proofs.YtemoonhnncopoaaGreatDoorW.PrintWords
structure LaidE (w : World) : Prop extends Laid w where
 typ : w.cell? ⟨0, 0, none⟩ = some (.iface 213 (.agg #[.pointer (some ⟨6, 37, none⟩)]))
end Go.Proofs.YtemoonhnncopoaaGreatDoor
end
section
namespace Go.Proofs.YtemoonhnncopoaaGreatDoor
open Go.RowKit Go.Proofs.YtemoonhnncopoaaGreatDoorW.PrintWords
open PX (T V)
theorem nilC {α : Type} (d : Kd α) (w : World) : d.C w none ([] : List α).length [] := ⟨rfl, by simp, fun h => by simp at h⟩
theorem one_new {W : World} {g ty : Nat} {x : Int} (h : W.heap[g]? = some (.cells #[.int .i64 x] ty (0, 0))) : (Kd.int .i64).C W (some ⟨g, 0, none⟩) ([x] : List Int).length [x] := by
 refine ⟨rfl, by simp, fun _ => ⟨_, rfl, ?_⟩⟩
 intro j p hj
 match j, hj with
 | 0, hj =>
  simp only [List.getElem?_cons_zero, Option.some.injEq] at hj
  subst hj
  refine ⟨[.int .i64 x], rfl, rfl, ?_⟩
  intro i u hi
  rw [add_at]
  match i, hi with
  | 0, hi => simp only [List.getElem?_cons_zero, Option.some.injEq] at hi; subst hi; exact blk_cell h 0
  | n + 1, hi => simp at hi
 | n + 1, hj => simp at hj
end Go.Proofs.YtemoonhnncopoaaGreatDoor
end
section
namespace Go.Proofs.YtemoonhnncopoaaGreatDoor
open Go.RowKit Go.Proofs.YtemoonhnncopoaaGreatDoorW.PrintWords
def RAct : Rep (Int × Int × Int × ByteArray × Unit) := (Rep.int .i64).pair ((Rep.int .i64).pair ((Rep.int .i64).pair (Rep.str.pair Rep.unit)))
theorem RAct.reads : Reads Tryz.prog 80 RAct :=
 reads_struct Tryz.underlying80 (fields_cons rfl (reads_int Tryz.underlying3 (by kernel_rfl)) (fields_cons rfl (reads_int Tryz.underlying3 (by kernel_rfl)) (fields_cons rfl (reads_int Tryz.underlying3 (by kernel_rfl)) (fields_cons rfl (reads_str Tryz.underlying9 (by kernel_rfl)) (fields_nil _ _))))) (by kernel_rfl)
end Go.Proofs.YtemoonhnncopoaaGreatDoor
end
section
namespace Go.Proofs.YtemoonhnncopoaaGreatDoor
open Go.RowKit Go.Proofs.YtemoonhnncopoaaGreatDoorW.PrintWords
def RepK {α β : Type} (R : Rep α) (d : Kd β) (f : α → β) : Prop := ∀ F w cs x, R.ok F w cs x → d.K w (f x) cs
theorem repK_int (k : IntKind) : RepK (Rep.int k) (Kd.int k) id := fun F w cs x h => h.1
theorem repK_slice {α β : Type} {R : Rep α} {d : Kd β} {f : α → β} (e : Nat) (h : RepK R d f) (hs : R.size = d.sz) : RepK R.slice (Kd.slice e d) (List.map f) := by
 intro F w cs xs hx
 rcases hx with ⟨a, cap, rfl, rfl⟩ | ⟨b, off, cap, rfl, hF, hlt, hne, hl, hcap, hel⟩
 ·exact ⟨a, cap, rfl, Nat.zero_le _, ⟨rfl, by simp, fun h => by simp at h⟩⟩
 ·unfold maxLen at hcap
  refine ⟨some ⟨b, off, none⟩, cap, by rw [List.length_map], by rw [List.length_map]; exact hl, ⟨rfl, by rw [List.length_map]; omega, fun _ => ⟨_, rfl, ?_⟩⟩⟩
  intro j p hj
  rw [List.getElem?_map] at hj
  obtain ⟨t, ht, rfl⟩ := Option.map_eq_some_iff.1 hj
  obtain ⟨hjl, rfl⟩ := List.getElem?_eq_some_iff.1 ht
  obtain ⟨c, hc, hcell, hok⟩ := hel j hjl
  refine ⟨c, hc.trans hs, h _ _ _ _ hok, ?_⟩
  intro i u hi
  obtain ⟨hil, rfl⟩ := List.getElem?_eq_some_iff.1 hi
  rw [add_at, ← hs, ← Nat.add_assoc]
  exact hcell i hil
theorem slice_all {α : Type} {R : Rep α} {F : Nat → Prop} {w : World} {cs : List Value} {xs : List α} (h : R.slice.ok F w cs xs) : ∀ x ∈ xs, ∃ cs', R.ok F w cs' x := by
 rcases h with ⟨a, cap, rfl, rfl⟩ | ⟨b, off, cap, rfl, hF, hlt, hne, hl, hcap, hel⟩
 ·intro x hx; cases hx
 ·intro x hx
  obtain ⟨i, hi, rfl⟩ := List.mem_iff_getElem.1 hx
  obtain ⟨c, _, _, hok⟩ := hel i hi
  exact ⟨c, hok⟩
end Go.Proofs.YtemoonhnncopoaaGreatDoor
end
