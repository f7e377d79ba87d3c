/- Texts of this claim, merged (Chtr, Chk, LaidE, Chup, ChFeww, ActArg, KdArg, ChFew, ChLaw, Actone, Tre). -/
import Derived.OpenShut
import Derived.Deep.RegionLawGrows
import Derived.Test.YtcjlpkegkehghaaGreatDoorZChooseKept14
import Derived.Test.YtcjlpkegkehghaaGreatDoorZChooseKept12
import Derived.Test.YtcjlpkegkehghaaGreatDoorZChooseKept10
import Derived.Test.YtcjlpkegkehghaaGreatDoorZChooseKept11
import Derived.Test.YtcjlpkegkehghaaGreatDoorZChooseKept1
import Derived.Test.YtcjlpkegkehghaaGreatDoorZChooseKept6
import Derived.Test.YtcjlpkegkehghaaGreatDoorZChooseKept7
import Derived.Test.YtcjlpkegkehghaaGreatDoorZChooseKept13
set_option linter.unusedVariables false
set_option linter.unusedSimpArgs false
set_option maxRecDepth 100000
set_option maxHeartbeats 32000000
section
namespace Go.Proofs.YtcjlpkegkehghaaGreatDoor
open Go.RowKit Go.Proofs.YtcjlpkegkehghaaGreatDoorW.PrintWords
open PX (T V)
noncomputable def transP (v : Int) (st : List Sta) (t : Tra) : Int :=
 if t.f0 = 0 ∨ ¬ (0 ≤ t.f0 ∧ t.f0 < (st.length : Int)) ∨ 3 < (PAll.rd_T93 st t.f0).f0 then 10
 else if t.f1 ≠ 0 ∧ ¬ (1 ≤ t.f1 ∧ t.f1 ≤ 1000) ∧ t.f1 ≠ 1001 ∧ t.f1 ≠ 1002 ∧ ¬ (2000 ≤ t.f1 ∧ t.f1 < 2000 + (st.length : Int)) then 1
 else if tgtP st t.f3 = false then 11
 else if t.f2.toList.isEmpty = false ∧ typP t.f2 2 v = false then 8
 else if actsP v t.f5 = false then 1
 else 0
theorem trans_any (v : Int) (A B : Option Addr) (ca cb : Nat) (st : List Sta) (tr : List Tra) (ha : Ahead st) (hn : st.length ≤ 1000) (f0 f1 : Int) (f2 : ByteArray) (hs : f2.size ≤ 281474976710656) (A3 : Option Addr) (c3 : Nat) (f3 : List Int) (l3 : f3.length ≤ c3) (f4 : Bool) (A5 : Option Addr) (c5 : Nat) (f5 : List Ac) (l5 : f5.length ≤ c5)
  (hz : ∀ a ∈ f5, a.f3.size ≤ 281474976710656) (w : World) (hw : Laid w) (hM : ChM w A ca st B cb tr) (g3 : NumsC w A3 f3.length f3) (g5 : ActsC w A5 f5.length f5) :
  Calls Tryz.prog 124 #[ckV v A B st.length tr.length ca cb, .agg #[.int .i64 f0, .int .i64 f1, .string f2, .slice A3 f3.length c3, .bool f4, .slice A5 f5.length c5]] w fun e w' => e = .returned (.int .i64 (transP v st ⟨f0, f1, f2, f3, f4, f5⟩)) ∧ Below w.heap.size w w' := by
 have HP2 : Hid (transP v st ⟨f0, f1, f2, f3, f4, f5⟩ = if f0 = 0 ∨ ¬ (0 ≤ f0 ∧ f0 < (st.length : Int)) ∨ 3 < (PAll.rd_T93 st f0).f0 then 10
  else if f1 ≠ 0 ∧ ¬ (1 ≤ f1 ∧ f1 ≤ 1000) ∧ f1 ≠ 1001 ∧ f1 ≠ 1002 ∧ ¬ (2000 ≤ f1 ∧ f1 < 2000 + (st.length : Int)) then 1
  else if tgtP st f3 = false then 11
  else if f2.toList.isEmpty = false ∧ typP f2 2 v = false then 8
  else if actsP v f5 = false then 1
  else 0) := Lib.hid rfl
 have hb0 : Below w.heap.size w ((w.alloc (.cells #[.int .i64 v, .slice A st.length ca, .slice B tr.length cb] 176)).alloc (.cells #[.int .i64 f0, .int .i64 f1, .string f2, .slice A3 f3.length c3, .bool f4, .slice A5 f5.length c5] 46)) := ((Below.refl _ w).alloc (Nat.le_refl _) _).alloc (by simp) _
 have HB0 := Lib.hid hb0
 have HW := Lib.hid (hw.below hb0)
 have HM := Lib.hid (hM.below hb0)
 have H3 := Lib.hid (Kd.C_below g3 hb0)
 have H5 := Lib.hid (Kd.C_below g5 hb0)
 have HZ := Lib.hid hz
 have hfin : ∀ wr, Below ((w.alloc (.cells #[.int .i64 v, .slice A st.length ca, .slice B tr.length cb] 176)).alloc (.cells #[.int .i64 f0, .int .i64 f1, .string f2, .slice A3 f3.length c3, .bool f4, .slice A5 f5.length c5] 46)).heap.size ((w.alloc (.cells #[.int .i64 v, .slice A st.length ca, .slice B tr.length cb] 176)).alloc (.cells #[.int .i64 f0, .int .i64 f1, .string f2, .slice A3 f3.length c3, .bool f4, .slice A5 f5.length c5] 46)) wr → Below w.heap.size w wr := fun wr h => HB0.out.trans (h.mono HB0.out.size)
 have HFin := Lib.hid hfin
 have HBr : Hid (Below ((w.alloc (.cells #[.int .i64 v, .slice A st.length ca, .slice B tr.length cb] 176)).alloc (.cells #[.int .i64 f0, .int .i64 f1, .string f2, .slice A3 f3.length c3, .bool f4, .slice A5 f5.length c5] 46)).heap.size ((w.alloc (.cells #[.int .i64 v, .slice A st.length ca, .slice B tr.length cb] 176)).alloc (.cells #[.int .i64 f0, .int .i64 f1, .string f2, .slice A3 f3.length c3, .bool f4, .slice A5 f5.length c5] 46)) ((w.alloc (.cells #[.int .i64 v, .slice A st.length ca, .slice B tr.length cb] 176)).alloc (.cells #[.int .i64 f0, .int .i64 f1, .string f2, .slice A3 f3.length c3, .bool f4, .slice A5 f5.length c5] 46))) := Lib.hid (Below.refl _ _)
 obtain ⟨hk1, hk2, _, _⟩ := boxed2 HBr.out
 have HCK := Lib.hid hk1
 have HTR := Lib.hid hk2
 clear hfin hk1 hk2 hz hb0 hw hM g3 g5
 by_cases s0 : f0 = 0
 ·have HR : Hid (transP v st ⟨f0, f1, f2, f3, f4, f5⟩ = 10) := Lib.hid (by rw [HP2.out]; rw [if_pos (.inl s0)])
  subst s0
  go_enter Tryz.func124, Tryz.ntmps124
  go_wp2_with fail
  all_goals
   go_ret
   exact ⟨by rw [HR.out]; rfl, HFin.out _ HBr.out⟩
 have z0 : (f0 == 0) = false := by simp [s0]
 by_cases sw : ¬ (0 ≤ f0 ∧ f0 < (st.length : Int))
 ·have htd : decide (0 ≤ f0 ∧ f0 < (st.length : Int)) = false := decide_eq_false sw
  have HTd := Lib.hid htd
  have HR : Hid (transP v st ⟨f0, f1, f2, f3, f4, f5⟩ = 10) := Lib.hid (by rw [HP2.out]; rw [if_pos (.inr (.inl sw))])
  clear s0 sw htd
  go_enter Tryz.func124, Tryz.ntmps124
  go_wp2_with fail
  all_goals
   refine (there_any HM.out v f0).mono ?_
   rw [HTd.out]
   rintro e w1 ⟨rfl, hb1⟩
   have HB1 := Lib.hid (below_then HBr.out HBr.out.size hb1)
   have hck := (HB1.out.block _ (lt_of_block HCK.out)).trans HCK.out
   have htr := (HB1.out.block _ (lt_of_block HTR.out)).trans HTR.out
   obtain ⟨y0, y1, y2⟩ := chk_cells hck
   obtain ⟨x0, x1, x2, x3, x4, x5⟩ : _ ∧ _ ∧ _ ∧ _ ∧ _ ∧ _ := ⟨blk_cell htr 0, blk_cell htr 1, blk_cell htr 2, blk_cell htr 3, blk_cell htr 4, blk_cell htr 5⟩
   clear hck htr hb1
   go_wp2_with fail
   go_ret
   exact ⟨by rw [HR.out]; rfl, HFin.out _ HB1.out⟩
 have sw := Classical.not_not.1 sw
 have htd : decide (0 ≤ f0 ∧ f0 < (st.length : Int)) = true := decide_eq_true sw
 have HTd := Lib.hid htd
 have q0 : (0 ≤ f0) = True := eq_true sw.1
 have q1 : (f0 < (st.length : Int)) = True := eq_true sw.2
 have HSW := Lib.hid sw
 clear htd
 by_cases sk : 3 < (PAll.rd_T93 st f0).f0
 ·have HR : Hid (transP v st ⟨f0, f1, f2, f3, f4, f5⟩ = 10) := Lib.hid (by rw [HP2.out]; rw [if_pos (.inr (.inr sk))])
  clear s0 sw
  go_enter Tryz.func124, Tryz.ntmps124
  go_wp2_with fail
  all_goals
   refine (there_any HM.out v f0).mono ?_
   rw [HTd.out]
   rintro e w2 ⟨rfl, hb2⟩
   have HB2 := Lib.hid (below_then HBr.out HBr.out.size hb2)
   have hck := (HB2.out.block _ (lt_of_block HCK.out)).trans HCK.out
   have htr := (HB2.out.block _ (lt_of_block HTR.out)).trans HTR.out
   obtain ⟨y0, y1, y2⟩ := chk_cells hck
   obtain ⟨x0, x1, x2, x3, x4, x5⟩ : _ ∧ _ ∧ _ ∧ _ ∧ _ ∧ _ := ⟨blk_cell htr 0, blk_cell htr 1, blk_cell htr 2, blk_cell htr 3, blk_cell htr 4, blk_cell htr 5⟩
   clear hck htr hb2
   obtain ⟨sd, rfl, c0⟩ := state_at (HM.out.below HB2.out) f0 HSW.out.1 HSW.out.2
   generalize (PAll.rd_T93 st f0).f0 = kk at c0 sk
   have d3 : decide (kk > 3) = true := decide_eq_true sk
   clear sk
   go_wp2_with fail
   go_ret
   exact ⟨by rw [HR.out]; rfl, HFin.out _ HB2.out⟩
 have HP1 := HP2.out
 rw [if_neg (by rintro (h | h | h); exact s0 h; exact h sw; exact sk h)] at HP1
 have HP2 := Lib.hid HP1
 clear HP1
 clear s0 sw
 by_cases v0 : f1 = 0
 ·subst v0
  have HP1 := HP2.out
  rw [if_neg (fun h => h.1 rfl)] at HP1
  have HP2 := Lib.hid HP1
  clear HP1
  go_enter Tryz.func124, Tryz.ntmps124
  go_wp2_with fail
  refine (there_any HM.out v f0).mono ?_
  rw [HTd.out]
  rintro e w3 ⟨rfl, hb3⟩
  have HB3 := Lib.hid (below_then HBr.out HBr.out.size hb3)
  have hck := (HB3.out.block _ (lt_of_block HCK.out)).trans HCK.out
  have htr := (HB3.out.block _ (lt_of_block HTR.out)).trans HTR.out
  obtain ⟨y0, y1, y2⟩ := chk_cells hck
  obtain ⟨x0, x1, x2, x3, x4, x5⟩ : _ ∧ _ ∧ _ ∧ _ ∧ _ ∧ _ := ⟨blk_cell htr 0, blk_cell htr 1, blk_cell htr 2, blk_cell htr 3, blk_cell htr 4, blk_cell htr 5⟩
  clear hck htr hb3
  obtain ⟨sd, rfl, c0⟩ := state_at (HM.out.below HB3.out) f0 HSW.out.1 HSW.out.2
  generalize (PAll.rd_T93 st f0).f0 = kk at c0 sk
  have d3 : decide (kk > 3) = false := decide_eq_false (by omega)
  clear sk
  go_wp2_with fail
  refine (targets_any v _ B ca cb st tr ha A3 c3 f3 _ (HM.out.below HB3.out) (Kd.C_below H3.out HB3.out) l3).mono ?_
  cases e0 : tgtP st f3 with
  | false =>
   have HR : Hid (transP v st ⟨f0, 0, f2, f3, f4, f5⟩ = 11) := Lib.hid (by rw [HP2.out]; rw [if_pos e0])
   clear e0
   clear y0 y1 y2 x0 x1 x2 x3 x4 x5
   rintro e w4 ⟨rfl, hb4⟩
   have HB4 := Lib.hid (below_then HB3.out HB3.out.size hb4)
   have hck := (HB4.out.block _ (lt_of_block HCK.out)).trans HCK.out
   have htr := (HB4.out.block _ (lt_of_block HTR.out)).trans HTR.out
   obtain ⟨y0, y1, y2⟩ := chk_cells hck
   obtain ⟨x0, x1, x2, x3, x4, x5⟩ : _ ∧ _ ∧ _ ∧ _ ∧ _ ∧ _ := ⟨blk_cell htr 0, blk_cell htr 1, blk_cell htr 2, blk_cell htr 3, blk_cell htr 4, blk_cell htr 5⟩
   clear hck htr hb4
   go_wp2_with fail
   go_ret
   exact ⟨by rw [HR.out]; rfl, HFin.out _ HB4.out⟩
  | true =>
   have HP1 := HP2.out
   rw [if_neg (by rw [e0]; simp)] at HP1
   have HP2 := Lib.hid HP1
   clear HP1
   clear e0
   clear y0 y1 y2 x0 x1 x2 x3 x4 x5
   rintro e w4 ⟨rfl, hb4⟩
   have HB4 := Lib.hid (below_then HB3.out HB3.out.size hb4)
   have hck := (HB4.out.block _ (lt_of_block HCK.out)).trans HCK.out
   have htr := (HB4.out.block _ (lt_of_block HTR.out)).trans HTR.out
   obtain ⟨y0, y1, y2⟩ := chk_cells hck
   obtain ⟨x0, x1, x2, x3, x4, x5⟩ : _ ∧ _ ∧ _ ∧ _ ∧ _ ∧ _ := ⟨blk_cell htr 0, blk_cell htr 1, blk_cell htr 2, blk_cell htr 3, blk_cell htr 4, blk_cell htr 5⟩
   clear hck htr hb4
   cases eg : f2.toList.isEmpty with
   | true =>
    have HP1 := HP2.out
    rw [if_neg (fun h => by rw [eg] at h; exact absurd h.1 (by simp))] at HP1
    have HP2 := Lib.hid HP1
    clear HP1
    go_wp2_with fail
    refine (acts_any v _ B st.length tr.length ca cb A5 c5 f5 HZ.out _ (HW.out.below HB4.out) (Kd.C_below H5.out HB4.out) l5).mono ?_
    cases e1 : actsP v f5 with
    | false =>
     have HR : Hid (transP v st ⟨f0, 0, f2, f3, f4, f5⟩ = 1) := Lib.hid (by rw [HP2.out]; rw [if_pos e1])
     clear e1
     clear y0 y1 y2 x0 x1 x2 x3 x4 x5
     rintro e w6 ⟨rfl, hb6⟩
     have HB6 := Lib.hid (below_then HB4.out HB4.out.size hb6)
     have hck := (HB6.out.block _ (lt_of_block HCK.out)).trans HCK.out
     have htr := (HB6.out.block _ (lt_of_block HTR.out)).trans HTR.out
     obtain ⟨y0, y1, y2⟩ := chk_cells hck
     obtain ⟨x0, x1, x2, x3, x4, x5⟩ : _ ∧ _ ∧ _ ∧ _ ∧ _ ∧ _ := ⟨blk_cell htr 0, blk_cell htr 1, blk_cell htr 2, blk_cell htr 3, blk_cell htr 4, blk_cell htr 5⟩
     clear hck htr hb6
     go_wp2_with fail
     go_ret
     exact ⟨by rw [HR.out]; rfl, HFin.out _ HB6.out⟩
    | true =>
     have HR : Hid (transP v st ⟨f0, 0, f2, f3, f4, f5⟩ = 0) := Lib.hid (by rw [HP2.out]; rw [if_neg (by rw [e1]; simp)])
     clear e1
     clear y0 y1 y2 x0 x1 x2 x3 x4 x5
     rintro e w6 ⟨rfl, hb6⟩
     have HB6 := Lib.hid (below_then HB4.out HB4.out.size hb6)
     have hck := (HB6.out.block _ (lt_of_block HCK.out)).trans HCK.out
     have htr := (HB6.out.block _ (lt_of_block HTR.out)).trans HTR.out
     obtain ⟨y0, y1, y2⟩ := chk_cells hck
     obtain ⟨x0, x1, x2, x3, x4, x5⟩ : _ ∧ _ ∧ _ ∧ _ ∧ _ ∧ _ := ⟨blk_cell htr 0, blk_cell htr 1, blk_cell htr 2, blk_cell htr 3, blk_cell htr 4, blk_cell htr 5⟩
     clear hck htr hb6
     go_wp2_with fail
     go_ret
     exact ⟨by rw [HR.out]; rfl, HFin.out _ HB6.out⟩
   | false =>
    go_wp2_with fail
    refine (typed_any v _ B st.length tr.length ca cb f2 hs 2 _ (HW.out.below HB4.out)).mono ?_
    cases et : typP f2 2 v with
    | false =>
     have HR : Hid (transP v st ⟨f0, 0, f2, f3, f4, f5⟩ = 8) := Lib.hid (by rw [HP2.out]; rw [if_pos ⟨eg, et⟩])
     clear et
     clear y0 y1 y2 x0 x1 x2 x3 x4 x5
     rintro e w5 ⟨rfl, hb5⟩
     have HB5 := Lib.hid (below_then HB4.out HB4.out.size hb5)
     have hck := (HB5.out.block _ (lt_of_block HCK.out)).trans HCK.out
     have htr := (HB5.out.block _ (lt_of_block HTR.out)).trans HTR.out
     obtain ⟨y0, y1, y2⟩ := chk_cells hck
     obtain ⟨x0, x1, x2, x3, x4, x5⟩ : _ ∧ _ ∧ _ ∧ _ ∧ _ ∧ _ := ⟨blk_cell htr 0, blk_cell htr 1, blk_cell htr 2, blk_cell htr 3, blk_cell htr 4, blk_cell htr 5⟩
     clear hck htr hb5
     go_wp2_with fail
     go_ret
     exact ⟨by rw [HR.out]; rfl, HFin.out _ HB5.out⟩
    | true =>
     have HP1 := HP2.out
     rw [if_neg (fun h => by rw [et] at h; exact absurd h.2 (by simp))] at HP1
     have HP2 := Lib.hid HP1
     clear HP1
     clear et
     clear y0 y1 y2 x0 x1 x2 x3 x4 x5
     rintro e w5 ⟨rfl, hb5⟩
     have HB5 := Lib.hid (below_then HB4.out HB4.out.size hb5)
     have hck := (HB5.out.block _ (lt_of_block HCK.out)).trans HCK.out
     have htr := (HB5.out.block _ (lt_of_block HTR.out)).trans HTR.out
     obtain ⟨y0, y1, y2⟩ := chk_cells hck
     obtain ⟨x0, x1, x2, x3, x4, x5⟩ : _ ∧ _ ∧ _ ∧ _ ∧ _ ∧ _ := ⟨blk_cell htr 0, blk_cell htr 1, blk_cell htr 2, blk_cell htr 3, blk_cell htr 4, blk_cell htr 5⟩
     clear hck htr hb5
     go_wp2_with fail
     refine (acts_any v _ B st.length tr.length ca cb A5 c5 f5 HZ.out _ (HW.out.below HB5.out) (Kd.C_below H5.out HB5.out) l5).mono ?_
     cases e1 : actsP v f5 with
     | false =>
      have HR : Hid (transP v st ⟨f0, 0, f2, f3, f4, f5⟩ = 1) := Lib.hid (by rw [HP2.out]; rw [if_pos e1])
      clear e1
      clear y0 y1 y2 x0 x1 x2 x3 x4 x5
      rintro e w7 ⟨rfl, hb7⟩
      have HB7 := Lib.hid (below_then HB5.out HB5.out.size hb7)
      have hck := (HB7.out.block _ (lt_of_block HCK.out)).trans HCK.out
      have htr := (HB7.out.block _ (lt_of_block HTR.out)).trans HTR.out
      obtain ⟨y0, y1, y2⟩ := chk_cells hck
      obtain ⟨x0, x1, x2, x3, x4, x5⟩ : _ ∧ _ ∧ _ ∧ _ ∧ _ ∧ _ := ⟨blk_cell htr 0, blk_cell htr 1, blk_cell htr 2, blk_cell htr 3, blk_cell htr 4, blk_cell htr 5⟩
      clear hck htr hb7
      go_wp2_with fail
      go_ret
      exact ⟨by rw [HR.out]; rfl, HFin.out _ HB7.out⟩
     | true =>
      have HR : Hid (transP v st ⟨f0, 0, f2, f3, f4, f5⟩ = 0) := Lib.hid (by rw [HP2.out]; rw [if_neg (by rw [e1]; simp)])
      clear e1
      clear y0 y1 y2 x0 x1 x2 x3 x4 x5
      rintro e w7 ⟨rfl, hb7⟩
      have HB7 := Lib.hid (below_then HB5.out HB5.out.size hb7)
      have hck := (HB7.out.block _ (lt_of_block HCK.out)).trans HCK.out
      have htr := (HB7.out.block _ (lt_of_block HTR.out)).trans HTR.out
      obtain ⟨y0, y1, y2⟩ := chk_cells hck
      obtain ⟨x0, x1, x2, x3, x4, x5⟩ : _ ∧ _ ∧ _ ∧ _ ∧ _ ∧ _ := ⟨blk_cell htr 0, blk_cell htr 1, blk_cell htr 2, blk_cell htr 3, blk_cell htr 4, blk_cell htr 5⟩
      clear hck htr hb7
      go_wp2_with fail
      go_ret
      exact ⟨by rw [HR.out]; rfl, HFin.out _ HB7.out⟩
 have z1 : (f1 == 0) = false := by simp [v0]
 have z2 : (f1 != 0) = true := by simp [v0]
 by_cases v1 : 1 ≤ f1 ∧ f1 ≤ 1000
 ·have HP1 := HP2.out
  rw [if_neg (fun h => h.2.1 v1)] at HP1
  have HP2 := Lib.hid HP1
  clear HP1
  have d1 : decide (f1 ≥ 2000) = false := decide_eq_false (by omega)
  have HEv := Lib.hid (decide_eq_true v1)
  clear v0 v1
  go_enter Tryz.func124, Tryz.ntmps124
  go_wp2_with fail
  refine (there_any HM.out v f0).mono ?_
  rw [HTd.out]
  rintro e w8 ⟨rfl, hb8⟩
  have HB8 := Lib.hid (below_then HBr.out HBr.out.size hb8)
  have hck := (HB8.out.block _ (lt_of_block HCK.out)).trans HCK.out
  have htr := (HB8.out.block _ (lt_of_block HTR.out)).trans HTR.out
  obtain ⟨y0, y1, y2⟩ := chk_cells hck
  obtain ⟨x0, x1, x2, x3, x4, x5⟩ : _ ∧ _ ∧ _ ∧ _ ∧ _ ∧ _ := ⟨blk_cell htr 0, blk_cell htr 1, blk_cell htr 2, blk_cell htr 3, blk_cell htr 4, blk_cell htr 5⟩
  clear hck htr hb8
  obtain ⟨sd, rfl, c0⟩ := state_at (HM.out.below HB8.out) f0 HSW.out.1 HSW.out.2
  generalize (PAll.rd_T93 st f0).f0 = kk at c0 sk
  have d3 : decide (kk > 3) = false := decide_eq_false (by omega)
  clear sk
  go_wp2_with fail
  refine (event_any f1 _).mono ?_
  rw [show decide (1 ≤ f1 ∧ f1 ≤ 1000) = true from HEv.out]
  clear y0 y1 y2 x0 x1 x2 x3 x4 x5
  rintro e w9 ⟨rfl, hb9⟩
  have HB9 := Lib.hid (below_then HB8.out HB8.out.size hb9)
  have hck := (HB9.out.block _ (lt_of_block HCK.out)).trans HCK.out
  have htr := (HB9.out.block _ (lt_of_block HTR.out)).trans HTR.out
  obtain ⟨y0, y1, y2⟩ := chk_cells hck
  obtain ⟨x0, x1, x2, x3, x4, x5⟩ : _ ∧ _ ∧ _ ∧ _ ∧ _ ∧ _ := ⟨blk_cell htr 0, blk_cell htr 1, blk_cell htr 2, blk_cell htr 3, blk_cell htr 4, blk_cell htr 5⟩
  clear hck htr hb9
  go_wp2_with fail
  refine (targets_any v _ B ca cb st tr ha A3 c3 f3 _ (HM.out.below HB9.out) (Kd.C_below H3.out HB9.out) l3).mono ?_
  cases e0 : tgtP st f3 with
  | false =>
   have HR : Hid (transP v st ⟨f0, f1, f2, f3, f4, f5⟩ = 11) := Lib.hid (by rw [HP2.out]; rw [if_pos e0])
   clear e0
   clear y0 y1 y2 x0 x1 x2 x3 x4 x5
   rintro e w10 ⟨rfl, hb10⟩
   have HB10 := Lib.hid (below_then HB9.out HB9.out.size hb10)
   have hck := (HB10.out.block _ (lt_of_block HCK.out)).trans HCK.out
   have htr := (HB10.out.block _ (lt_of_block HTR.out)).trans HTR.out
   obtain ⟨y0, y1, y2⟩ := chk_cells hck
   obtain ⟨x0, x1, x2, x3, x4, x5⟩ : _ ∧ _ ∧ _ ∧ _ ∧ _ ∧ _ := ⟨blk_cell htr 0, blk_cell htr 1, blk_cell htr 2, blk_cell htr 3, blk_cell htr 4, blk_cell htr 5⟩
   clear hck htr hb10
   go_wp2_with fail
   go_ret
   exact ⟨by rw [HR.out]; rfl, HFin.out _ HB10.out⟩
  | true =>
   have HP1 := HP2.out
   rw [if_neg (by rw [e0]; simp)] at HP1
   have HP2 := Lib.hid HP1
   clear HP1
   clear e0
   clear y0 y1 y2 x0 x1 x2 x3 x4 x5
   rintro e w10 ⟨rfl, hb10⟩
   have HB10 := Lib.hid (below_then HB9.out HB9.out.size hb10)
   have hck := (HB10.out.block _ (lt_of_block HCK.out)).trans HCK.out
   have htr := (HB10.out.block _ (lt_of_block HTR.out)).trans HTR.out
   obtain ⟨y0, y1, y2⟩ := chk_cells hck
   obtain ⟨x0, x1, x2, x3, x4, x5⟩ : _ ∧ _ ∧ _ ∧ _ ∧ _ ∧ _ := ⟨blk_cell htr 0, blk_cell htr 1, blk_cell htr 2, blk_cell htr 3, blk_cell htr 4, blk_cell htr 5⟩
   clear hck htr hb10
   cases eg : f2.toList.isEmpty with
   | true =>
    have HP1 := HP2.out
    rw [if_neg (fun h => by rw [eg] at h; exact absurd h.1 (by simp))] at HP1
    have HP2 := Lib.hid HP1
    clear HP1
    go_wp2_with fail
    refine (acts_any v _ B st.length tr.length ca cb A5 c5 f5 HZ.out _ (HW.out.below HB10.out) (Kd.C_below H5.out HB10.out) l5).mono ?_
    cases e1 : actsP v f5 with
    | false =>
     have HR : Hid (transP v st ⟨f0, f1, f2, f3, f4, f5⟩ = 1) := Lib.hid (by rw [HP2.out]; rw [if_pos e1])
     clear e1
     clear y0 y1 y2 x0 x1 x2 x3 x4 x5
     rintro e w12 ⟨rfl, hb12⟩
     have HB12 := Lib.hid (below_then HB10.out HB10.out.size hb12)
     have hck := (HB12.out.block _ (lt_of_block HCK.out)).trans HCK.out
     have htr := (HB12.out.block _ (lt_of_block HTR.out)).trans HTR.out
     obtain ⟨y0, y1, y2⟩ := chk_cells hck
     obtain ⟨x0, x1, x2, x3, x4, x5⟩ : _ ∧ _ ∧ _ ∧ _ ∧ _ ∧ _ := ⟨blk_cell htr 0, blk_cell htr 1, blk_cell htr 2, blk_cell htr 3, blk_cell htr 4, blk_cell htr 5⟩
     clear hck htr hb12
     go_wp2_with fail
     go_ret
     exact ⟨by rw [HR.out]; rfl, HFin.out _ HB12.out⟩
    | true =>
     have HR : Hid (transP v st ⟨f0, f1, f2, f3, f4, f5⟩ = 0) := Lib.hid (by rw [HP2.out]; rw [if_neg (by rw [e1]; simp)])
     clear e1
     clear y0 y1 y2 x0 x1 x2 x3 x4 x5
     rintro e w12 ⟨rfl, hb12⟩
     have HB12 := Lib.hid (below_then HB10.out HB10.out.size hb12)
     have hck := (HB12.out.block _ (lt_of_block HCK.out)).trans HCK.out
     have htr := (HB12.out.block _ (lt_of_block HTR.out)).trans HTR.out
     obtain ⟨y0, y1, y2⟩ := chk_cells hck
     obtain ⟨x0, x1, x2, x3, x4, x5⟩ : _ ∧ _ ∧ _ ∧ _ ∧ _ ∧ _ := ⟨blk_cell htr 0, blk_cell htr 1, blk_cell htr 2, blk_cell htr 3, blk_cell htr 4, blk_cell htr 5⟩
     clear hck htr hb12
     go_wp2_with fail
     go_ret
     exact ⟨by rw [HR.out]; rfl, HFin.out _ HB12.out⟩
   | false =>
    go_wp2_with fail
    refine (typed_any v _ B st.length tr.length ca cb f2 hs 2 _ (HW.out.below HB10.out)).mono ?_
    cases et : typP f2 2 v with
    | false =>
     have HR : Hid (transP v st ⟨f0, f1, f2, f3, f4, f5⟩ = 8) := Lib.hid (by rw [HP2.out]; rw [if_pos ⟨eg, et⟩])
     clear et
     clear y0 y1 y2 x0 x1 x2 x3 x4 x5
     rintro e w11 ⟨rfl, hb11⟩
     have HB11 := Lib.hid (below_then HB10.out HB10.out.size hb11)
     have hck := (HB11.out.block _ (lt_of_block HCK.out)).trans HCK.out
     have htr := (HB11.out.block _ (lt_of_block HTR.out)).trans HTR.out
     obtain ⟨y0, y1, y2⟩ := chk_cells hck
     obtain ⟨x0, x1, x2, x3, x4, x5⟩ : _ ∧ _ ∧ _ ∧ _ ∧ _ ∧ _ := ⟨blk_cell htr 0, blk_cell htr 1, blk_cell htr 2, blk_cell htr 3, blk_cell htr 4, blk_cell htr 5⟩
     clear hck htr hb11
     go_wp2_with fail
     go_ret
     exact ⟨by rw [HR.out]; rfl, HFin.out _ HB11.out⟩
    | true =>
     have HP1 := HP2.out
     rw [if_neg (fun h => by rw [et] at h; exact absurd h.2 (by simp))] at HP1
     have HP2 := Lib.hid HP1
     clear HP1
     clear et
     clear y0 y1 y2 x0 x1 x2 x3 x4 x5
     rintro e w11 ⟨rfl, hb11⟩
     have HB11 := Lib.hid (below_then HB10.out HB10.out.size hb11)
     have hck := (HB11.out.block _ (lt_of_block HCK.out)).trans HCK.out
     have htr := (HB11.out.block _ (lt_of_block HTR.out)).trans HTR.out
     obtain ⟨y0, y1, y2⟩ := chk_cells hck
     obtain ⟨x0, x1, x2, x3, x4, x5⟩ : _ ∧ _ ∧ _ ∧ _ ∧ _ ∧ _ := ⟨blk_cell htr 0, blk_cell htr 1, blk_cell htr 2, blk_cell htr 3, blk_cell htr 4, blk_cell htr 5⟩
     clear hck htr hb11
     go_wp2_with fail
     refine (acts_any v _ B st.length tr.length ca cb A5 c5 f5 HZ.out _ (HW.out.below HB11.out) (Kd.C_below H5.out HB11.out) l5).mono ?_
     cases e1 : actsP v f5 with
     | false =>
      have HR : Hid (transP v st ⟨f0, f1, f2, f3, f4, f5⟩ = 1) := Lib.hid (by rw [HP2.out]; rw [if_pos e1])
      clear e1
      clear y0 y1 y2 x0 x1 x2 x3 x4 x5
      rintro e w13 ⟨rfl, hb13⟩
      have HB13 := Lib.hid (below_then HB11.out HB11.out.size hb13)
      have hck := (HB13.out.block _ (lt_of_block HCK.out)).trans HCK.out
      have htr := (HB13.out.block _ (lt_of_block HTR.out)).trans HTR.out
      obtain ⟨y0, y1, y2⟩ := chk_cells hck
      obtain ⟨x0, x1, x2, x3, x4, x5⟩ : _ ∧ _ ∧ _ ∧ _ ∧ _ ∧ _ := ⟨blk_cell htr 0, blk_cell htr 1, blk_cell htr 2, blk_cell htr 3, blk_cell htr 4, blk_cell htr 5⟩
      clear hck htr hb13
      go_wp2_with fail
      go_ret
      exact ⟨by rw [HR.out]; rfl, HFin.out _ HB13.out⟩
     | true =>
      have HR : Hid (transP v st ⟨f0, f1, f2, f3, f4, f5⟩ = 0) := Lib.hid (by rw [HP2.out]; rw [if_neg (by rw [e1]; simp)])
      clear e1
      clear y0 y1 y2 x0 x1 x2 x3 x4 x5
      rintro e w13 ⟨rfl, hb13⟩
      have HB13 := Lib.hid (below_then HB11.out HB11.out.size hb13)
      have hck := (HB13.out.block _ (lt_of_block HCK.out)).trans HCK.out
      have htr := (HB13.out.block _ (lt_of_block HTR.out)).trans HTR.out
      obtain ⟨y0, y1, y2⟩ := chk_cells hck
      obtain ⟨x0, x1, x2, x3, x4, x5⟩ : _ ∧ _ ∧ _ ∧ _ ∧ _ ∧ _ := ⟨blk_cell htr 0, blk_cell htr 1, blk_cell htr 2, blk_cell htr 3, blk_cell htr 4, blk_cell htr 5⟩
      clear hck htr hb13
      go_wp2_with fail
      go_ret
      exact ⟨by rw [HR.out]; rfl, HFin.out _ HB13.out⟩
 have HEv := Lib.hid (decide_eq_false v1)
 by_cases v1001 : f1 = 1001
 ·subst v1001
  have HP1 := HP2.out
  rw [if_neg (fun h => h.2.2.1 rfl)] at HP1
  have HP2 := Lib.hid HP1
  clear HP1
  clear v0 v1
  go_enter Tryz.func124, Tryz.ntmps124
  go_wp2_with fail
  refine (there_any HM.out v f0).mono ?_
  rw [HTd.out]
  rintro e w14 ⟨rfl, hb14⟩
  have HB14 := Lib.hid (below_then HBr.out HBr.out.size hb14)
  have hck := (HB14.out.block _ (lt_of_block HCK.out)).trans HCK.out
  have htr := (HB14.out.block _ (lt_of_block HTR.out)).trans HTR.out
  obtain ⟨y0, y1, y2⟩ := chk_cells hck
  obtain ⟨x0, x1, x2, x3, x4, x5⟩ : _ ∧ _ ∧ _ ∧ _ ∧ _ ∧ _ := ⟨blk_cell htr 0, blk_cell htr 1, blk_cell htr 2, blk_cell htr 3, blk_cell htr 4, blk_cell htr 5⟩
  clear hck htr hb14
  obtain ⟨sd, rfl, c0⟩ := state_at (HM.out.below HB14.out) f0 HSW.out.1 HSW.out.2
  generalize (PAll.rd_T93 st f0).f0 = kk at c0 sk
  have d3 : decide (kk > 3) = false := decide_eq_false (by omega)
  clear sk
  go_wp2_with fail
  refine (event_any 1001 _).mono ?_
  rw [show decide (1 ≤ (1001 : Int) ∧ (1001 : Int) ≤ 1000) = false from HEv.out]
  clear y0 y1 y2 x0 x1 x2 x3 x4 x5
  rintro e w15 ⟨rfl, hb15⟩
  have HB15 := Lib.hid (below_then HB14.out HB14.out.size hb15)
  have hck := (HB15.out.block _ (lt_of_block HCK.out)).trans HCK.out
  have htr := (HB15.out.block _ (lt_of_block HTR.out)).trans HTR.out
  obtain ⟨y0, y1, y2⟩ := chk_cells hck
  obtain ⟨x0, x1, x2, x3, x4, x5⟩ : _ ∧ _ ∧ _ ∧ _ ∧ _ ∧ _ := ⟨blk_cell htr 0, blk_cell htr 1, blk_cell htr 2, blk_cell htr 3, blk_cell htr 4, blk_cell htr 5⟩
  clear hck htr hb15
  go_wp2_with fail
  refine (targets_any v _ B ca cb st tr ha A3 c3 f3 _ (HM.out.below HB15.out) (Kd.C_below H3.out HB15.out) l3).mono ?_
  cases e0 : tgtP st f3 with
  | false =>
   have HR : Hid (transP v st ⟨f0, 1001, f2, f3, f4, f5⟩ = 11) := Lib.hid (by rw [HP2.out]; rw [if_pos e0])
   clear e0
   clear y0 y1 y2 x0 x1 x2 x3 x4 x5
   rintro e w16 ⟨rfl, hb16⟩
   have HB16 := Lib.hid (below_then HB15.out HB15.out.size hb16)
   have hck := (HB16.out.block _ (lt_of_block HCK.out)).trans HCK.out
   have htr := (HB16.out.block _ (lt_of_block HTR.out)).trans HTR.out
   obtain ⟨y0, y1, y2⟩ := chk_cells hck
   obtain ⟨x0, x1, x2, x3, x4, x5⟩ : _ ∧ _ ∧ _ ∧ _ ∧ _ ∧ _ := ⟨blk_cell htr 0, blk_cell htr 1, blk_cell htr 2, blk_cell htr 3, blk_cell htr 4, blk_cell htr 5⟩
   clear hck htr hb16
   go_wp2_with fail
   go_ret
   exact ⟨by rw [HR.out]; rfl, HFin.out _ HB16.out⟩
  | true =>
   have HP1 := HP2.out
   rw [if_neg (by rw [e0]; simp)] at HP1
   have HP2 := Lib.hid HP1
   clear HP1
   clear e0
   clear y0 y1 y2 x0 x1 x2 x3 x4 x5
   rintro e w16 ⟨rfl, hb16⟩
   have HB16 := Lib.hid (below_then HB15.out HB15.out.size hb16)
   have hck := (HB16.out.block _ (lt_of_block HCK.out)).trans HCK.out
   have htr := (HB16.out.block _ (lt_of_block HTR.out)).trans HTR.out
   obtain ⟨y0, y1, y2⟩ := chk_cells hck
   obtain ⟨x0, x1, x2, x3, x4, x5⟩ : _ ∧ _ ∧ _ ∧ _ ∧ _ ∧ _ := ⟨blk_cell htr 0, blk_cell htr 1, blk_cell htr 2, blk_cell htr 3, blk_cell htr 4, blk_cell htr 5⟩
   clear hck htr hb16
   cases eg : f2.toList.isEmpty with
   | true =>
    have HP1 := HP2.out
    rw [if_neg (fun h => by rw [eg] at h; exact absurd h.1 (by simp))] at HP1
    have HP2 := Lib.hid HP1
    clear HP1
    go_wp2_with fail
    refine (acts_any v _ B st.length tr.length ca cb A5 c5 f5 HZ.out _ (HW.out.below HB16.out) (Kd.C_below H5.out HB16.out) l5).mono ?_
    cases e1 : actsP v f5 with
    | false =>
     have HR : Hid (transP v st ⟨f0, 1001, f2, f3, f4, f5⟩ = 1) := Lib.hid (by rw [HP2.out]; rw [if_pos e1])
     clear e1
     clear y0 y1 y2 x0 x1 x2 x3 x4 x5
     rintro e w18 ⟨rfl, hb18⟩
     have HB18 := Lib.hid (below_then HB16.out HB16.out.size hb18)
     have hck := (HB18.out.block _ (lt_of_block HCK.out)).trans HCK.out
     have htr := (HB18.out.block _ (lt_of_block HTR.out)).trans HTR.out
     obtain ⟨y0, y1, y2⟩ := chk_cells hck
     obtain ⟨x0, x1, x2, x3, x4, x5⟩ : _ ∧ _ ∧ _ ∧ _ ∧ _ ∧ _ := ⟨blk_cell htr 0, blk_cell htr 1, blk_cell htr 2, blk_cell htr 3, blk_cell htr 4, blk_cell htr 5⟩
     clear hck htr hb18
     go_wp2_with fail
     go_ret
     exact ⟨by rw [HR.out]; rfl, HFin.out _ HB18.out⟩
    | true =>
     have HR : Hid (transP v st ⟨f0, 1001, f2, f3, f4, f5⟩ = 0) := Lib.hid (by rw [HP2.out]; rw [if_neg (by rw [e1]; simp)])
     clear e1
     clear y0 y1 y2 x0 x1 x2 x3 x4 x5
     rintro e w18 ⟨rfl, hb18⟩
     have HB18 := Lib.hid (below_then HB16.out HB16.out.size hb18)
     have hck := (HB18.out.block _ (lt_of_block HCK.out)).trans HCK.out
     have htr := (HB18.out.block _ (lt_of_block HTR.out)).trans HTR.out
     obtain ⟨y0, y1, y2⟩ := chk_cells hck
     obtain ⟨x0, x1, x2, x3, x4, x5⟩ : _ ∧ _ ∧ _ ∧ _ ∧ _ ∧ _ := ⟨blk_cell htr 0, blk_cell htr 1, blk_cell htr 2, blk_cell htr 3, blk_cell htr 4, blk_cell htr 5⟩
     clear hck htr hb18
     go_wp2_with fail
     go_ret
     exact ⟨by rw [HR.out]; rfl, HFin.out _ HB18.out⟩
   | false =>
    go_wp2_with fail
    refine (typed_any v _ B st.length tr.length ca cb f2 hs 2 _ (HW.out.below HB16.out)).mono ?_
    cases et : typP f2 2 v with
    | false =>
     have HR : Hid (transP v st ⟨f0, 1001, f2, f3, f4, f5⟩ = 8) := Lib.hid (by rw [HP2.out]; rw [if_pos ⟨eg, et⟩])
     clear et
     clear y0 y1 y2 x0 x1 x2 x3 x4 x5
     rintro e w17 ⟨rfl, hb17⟩
     have HB17 := Lib.hid (below_then HB16.out HB16.out.size hb17)
     have hck := (HB17.out.block _ (lt_of_block HCK.out)).trans HCK.out
     have htr := (HB17.out.block _ (lt_of_block HTR.out)).trans HTR.out
     obtain ⟨y0, y1, y2⟩ := chk_cells hck
     obtain ⟨x0, x1, x2, x3, x4, x5⟩ : _ ∧ _ ∧ _ ∧ _ ∧ _ ∧ _ := ⟨blk_cell htr 0, blk_cell htr 1, blk_cell htr 2, blk_cell htr 3, blk_cell htr 4, blk_cell htr 5⟩
     clear hck htr hb17
     go_wp2_with fail
     go_ret
     exact ⟨by rw [HR.out]; rfl, HFin.out _ HB17.out⟩
    | true =>
     have HP1 := HP2.out
     rw [if_neg (fun h => by rw [et] at h; exact absurd h.2 (by simp))] at HP1
     have HP2 := Lib.hid HP1
     clear HP1
     clear et
     clear y0 y1 y2 x0 x1 x2 x3 x4 x5
     rintro e w17 ⟨rfl, hb17⟩
     have HB17 := Lib.hid (below_then HB16.out HB16.out.size hb17)
     have hck := (HB17.out.block _ (lt_of_block HCK.out)).trans HCK.out
     have htr := (HB17.out.block _ (lt_of_block HTR.out)).trans HTR.out
     obtain ⟨y0, y1, y2⟩ := chk_cells hck
     obtain ⟨x0, x1, x2, x3, x4, x5⟩ : _ ∧ _ ∧ _ ∧ _ ∧ _ ∧ _ := ⟨blk_cell htr 0, blk_cell htr 1, blk_cell htr 2, blk_cell htr 3, blk_cell htr 4, blk_cell htr 5⟩
     clear hck htr hb17
     go_wp2_with fail
     refine (acts_any v _ B st.length tr.length ca cb A5 c5 f5 HZ.out _ (HW.out.below HB17.out) (Kd.C_below H5.out HB17.out) l5).mono ?_
     cases e1 : actsP v f5 with
     | false =>
      have HR : Hid (transP v st ⟨f0, 1001, f2, f3, f4, f5⟩ = 1) := Lib.hid (by rw [HP2.out]; rw [if_pos e1])
      clear e1
      clear y0 y1 y2 x0 x1 x2 x3 x4 x5
      rintro e w19 ⟨rfl, hb19⟩
      have HB19 := Lib.hid (below_then HB17.out HB17.out.size hb19)
      have hck := (HB19.out.block _ (lt_of_block HCK.out)).trans HCK.out
      have htr := (HB19.out.block _ (lt_of_block HTR.out)).trans HTR.out
      obtain ⟨y0, y1, y2⟩ := chk_cells hck
      obtain ⟨x0, x1, x2, x3, x4, x5⟩ : _ ∧ _ ∧ _ ∧ _ ∧ _ ∧ _ := ⟨blk_cell htr 0, blk_cell htr 1, blk_cell htr 2, blk_cell htr 3, blk_cell htr 4, blk_cell htr 5⟩
      clear hck htr hb19
      go_wp2_with fail
      go_ret
      exact ⟨by rw [HR.out]; rfl, HFin.out _ HB19.out⟩
     | true =>
      have HR : Hid (transP v st ⟨f0, 1001, f2, f3, f4, f5⟩ = 0) := Lib.hid (by rw [HP2.out]; rw [if_neg (by rw [e1]; simp)])
      clear e1
      clear y0 y1 y2 x0 x1 x2 x3 x4 x5
      rintro e w19 ⟨rfl, hb19⟩
      have HB19 := Lib.hid (below_then HB17.out HB17.out.size hb19)
      have hck := (HB19.out.block _ (lt_of_block HCK.out)).trans HCK.out
      have htr := (HB19.out.block _ (lt_of_block HTR.out)).trans HTR.out
      obtain ⟨y0, y1, y2⟩ := chk_cells hck
      obtain ⟨x0, x1, x2, x3, x4, x5⟩ : _ ∧ _ ∧ _ ∧ _ ∧ _ ∧ _ := ⟨blk_cell htr 0, blk_cell htr 1, blk_cell htr 2, blk_cell htr 3, blk_cell htr 4, blk_cell htr 5⟩
      clear hck htr hb19
      go_wp2_with fail
      go_ret
      exact ⟨by rw [HR.out]; rfl, HFin.out _ HB19.out⟩
 by_cases v1002 : f1 = 1002
 ·subst v1002
  have HP1 := HP2.out
  rw [if_neg (fun h => h.2.2.2.1 rfl)] at HP1
  have HP2 := Lib.hid HP1
  clear HP1
  clear v0 v1
  go_enter Tryz.func124, Tryz.ntmps124
  go_wp2_with fail
  refine (there_any HM.out v f0).mono ?_
  rw [HTd.out]
  rintro e w20 ⟨rfl, hb20⟩
  have HB20 := Lib.hid (below_then HBr.out HBr.out.size hb20)
  have hck := (HB20.out.block _ (lt_of_block HCK.out)).trans HCK.out
  have htr := (HB20.out.block _ (lt_of_block HTR.out)).trans HTR.out
  obtain ⟨y0, y1, y2⟩ := chk_cells hck
  obtain ⟨x0, x1, x2, x3, x4, x5⟩ : _ ∧ _ ∧ _ ∧ _ ∧ _ ∧ _ := ⟨blk_cell htr 0, blk_cell htr 1, blk_cell htr 2, blk_cell htr 3, blk_cell htr 4, blk_cell htr 5⟩
  clear hck htr hb20
  obtain ⟨sd, rfl, c0⟩ := state_at (HM.out.below HB20.out) f0 HSW.out.1 HSW.out.2
  generalize (PAll.rd_T93 st f0).f0 = kk at c0 sk
  have d3 : decide (kk > 3) = false := decide_eq_false (by omega)
  clear sk
  go_wp2_with fail
  refine (event_any 1002 _).mono ?_
  rw [show decide (1 ≤ (1002 : Int) ∧ (1002 : Int) ≤ 1000) = false from HEv.out]
  clear y0 y1 y2 x0 x1 x2 x3 x4 x5
  rintro e w21 ⟨rfl, hb21⟩
  have HB21 := Lib.hid (below_then HB20.out HB20.out.size hb21)
  have hck := (HB21.out.block _ (lt_of_block HCK.out)).trans HCK.out
  have htr := (HB21.out.block _ (lt_of_block HTR.out)).trans HTR.out
  obtain ⟨y0, y1, y2⟩ := chk_cells hck
  obtain ⟨x0, x1, x2, x3, x4, x5⟩ : _ ∧ _ ∧ _ ∧ _ ∧ _ ∧ _ := ⟨blk_cell htr 0, blk_cell htr 1, blk_cell htr 2, blk_cell htr 3, blk_cell htr 4, blk_cell htr 5⟩
  clear hck htr hb21
  go_wp2_with fail
  refine (targets_any v _ B ca cb st tr ha A3 c3 f3 _ (HM.out.below HB21.out) (Kd.C_below H3.out HB21.out) l3).mono ?_
  cases e0 : tgtP st f3 with
  | false =>
   have HR : Hid (transP v st ⟨f0, 1002, f2, f3, f4, f5⟩ = 11) := Lib.hid (by rw [HP2.out]; rw [if_pos e0])
   clear e0
   clear y0 y1 y2 x0 x1 x2 x3 x4 x5
   rintro e w22 ⟨rfl, hb22⟩
   have HB22 := Lib.hid (below_then HB21.out HB21.out.size hb22)
   have hck := (HB22.out.block _ (lt_of_block HCK.out)).trans HCK.out
   have htr := (HB22.out.block _ (lt_of_block HTR.out)).trans HTR.out
   obtain ⟨y0, y1, y2⟩ := chk_cells hck
   obtain ⟨x0, x1, x2, x3, x4, x5⟩ : _ ∧ _ ∧ _ ∧ _ ∧ _ ∧ _ := ⟨blk_cell htr 0, blk_cell htr 1, blk_cell htr 2, blk_cell htr 3, blk_cell htr 4, blk_cell htr 5⟩
   clear hck htr hb22
   go_wp2_with fail
   go_ret
   exact ⟨by rw [HR.out]; rfl, HFin.out _ HB22.out⟩
  | true =>
   have HP1 := HP2.out
   rw [if_neg (by rw [e0]; simp)] at HP1
   have HP2 := Lib.hid HP1
   clear HP1
   clear e0
   clear y0 y1 y2 x0 x1 x2 x3 x4 x5
   rintro e w22 ⟨rfl, hb22⟩
   have HB22 := Lib.hid (below_then HB21.out HB21.out.size hb22)
   have hck := (HB22.out.block _ (lt_of_block HCK.out)).trans HCK.out
   have htr := (HB22.out.block _ (lt_of_block HTR.out)).trans HTR.out
   obtain ⟨y0, y1, y2⟩ := chk_cells hck
   obtain ⟨x0, x1, x2, x3, x4, x5⟩ : _ ∧ _ ∧ _ ∧ _ ∧ _ ∧ _ := ⟨blk_cell htr 0, blk_cell htr 1, blk_cell htr 2, blk_cell htr 3, blk_cell htr 4, blk_cell htr 5⟩
   clear hck htr hb22
   cases eg : f2.toList.isEmpty with
   | true =>
    have HP1 := HP2.out
    rw [if_neg (fun h => by rw [eg] at h; exact absurd h.1 (by simp))] at HP1
    have HP2 := Lib.hid HP1
    clear HP1
    go_wp2_with fail
    refine (acts_any v _ B st.length tr.length ca cb A5 c5 f5 HZ.out _ (HW.out.below HB22.out) (Kd.C_below H5.out HB22.out) l5).mono ?_
    cases e1 : actsP v f5 with
    | false =>
     have HR : Hid (transP v st ⟨f0, 1002, f2, f3, f4, f5⟩ = 1) := Lib.hid (by rw [HP2.out]; rw [if_pos e1])
     clear e1
     clear y0 y1 y2 x0 x1 x2 x3 x4 x5
     rintro e w24 ⟨rfl, hb24⟩
     have HB24 := Lib.hid (below_then HB22.out HB22.out.size hb24)
     have hck := (HB24.out.block _ (lt_of_block HCK.out)).trans HCK.out
     have htr := (HB24.out.block _ (lt_of_block HTR.out)).trans HTR.out
     obtain ⟨y0, y1, y2⟩ := chk_cells hck
     obtain ⟨x0, x1, x2, x3, x4, x5⟩ : _ ∧ _ ∧ _ ∧ _ ∧ _ ∧ _ := ⟨blk_cell htr 0, blk_cell htr 1, blk_cell htr 2, blk_cell htr 3, blk_cell htr 4, blk_cell htr 5⟩
     clear hck htr hb24
     go_wp2_with fail
     go_ret
     exact ⟨by rw [HR.out]; rfl, HFin.out _ HB24.out⟩
    | true =>
     have HR : Hid (transP v st ⟨f0, 1002, f2, f3, f4, f5⟩ = 0) := Lib.hid (by rw [HP2.out]; rw [if_neg (by rw [e1]; simp)])
     clear e1
     clear y0 y1 y2 x0 x1 x2 x3 x4 x5
     rintro e w24 ⟨rfl, hb24⟩
     have HB24 := Lib.hid (below_then HB22.out HB22.out.size hb24)
     have hck := (HB24.out.block _ (lt_of_block HCK.out)).trans HCK.out
     have htr := (HB24.out.block _ (lt_of_block HTR.out)).trans HTR.out
     obtain ⟨y0, y1, y2⟩ := chk_cells hck
     obtain ⟨x0, x1, x2, x3, x4, x5⟩ : _ ∧ _ ∧ _ ∧ _ ∧ _ ∧ _ := ⟨blk_cell htr 0, blk_cell htr 1, blk_cell htr 2, blk_cell htr 3, blk_cell htr 4, blk_cell htr 5⟩
     clear hck htr hb24
     go_wp2_with fail
     go_ret
     exact ⟨by rw [HR.out]; rfl, HFin.out _ HB24.out⟩
   | false =>
    go_wp2_with fail
    refine (typed_any v _ B st.length tr.length ca cb f2 hs 2 _ (HW.out.below HB22.out)).mono ?_
    cases et : typP f2 2 v with
    | false =>
     have HR : Hid (transP v st ⟨f0, 1002, f2, f3, f4, f5⟩ = 8) := Lib.hid (by rw [HP2.out]; rw [if_pos ⟨eg, et⟩])
     clear et
     clear y0 y1 y2 x0 x1 x2 x3 x4 x5
     rintro e w23 ⟨rfl, hb23⟩
     have HB23 := Lib.hid (below_then HB22.out HB22.out.size hb23)
     have hck := (HB23.out.block _ (lt_of_block HCK.out)).trans HCK.out
     have htr := (HB23.out.block _ (lt_of_block HTR.out)).trans HTR.out
     obtain ⟨y0, y1, y2⟩ := chk_cells hck
     obtain ⟨x0, x1, x2, x3, x4, x5⟩ : _ ∧ _ ∧ _ ∧ _ ∧ _ ∧ _ := ⟨blk_cell htr 0, blk_cell htr 1, blk_cell htr 2, blk_cell htr 3, blk_cell htr 4, blk_cell htr 5⟩
     clear hck htr hb23
     go_wp2_with fail
     go_ret
     exact ⟨by rw [HR.out]; rfl, HFin.out _ HB23.out⟩
    | true =>
     have HP1 := HP2.out
     rw [if_neg (fun h => by rw [et] at h; exact absurd h.2 (by simp))] at HP1
     have HP2 := Lib.hid HP1
     clear HP1
     clear et
     clear y0 y1 y2 x0 x1 x2 x3 x4 x5
     rintro e w23 ⟨rfl, hb23⟩
     have HB23 := Lib.hid (below_then HB22.out HB22.out.size hb23)
     have hck := (HB23.out.block _ (lt_of_block HCK.out)).trans HCK.out
     have htr := (HB23.out.block _ (lt_of_block HTR.out)).trans HTR.out
     obtain ⟨y0, y1, y2⟩ := chk_cells hck
     obtain ⟨x0, x1, x2, x3, x4, x5⟩ : _ ∧ _ ∧ _ ∧ _ ∧ _ ∧ _ := ⟨blk_cell htr 0, blk_cell htr 1, blk_cell htr 2, blk_cell htr 3, blk_cell htr 4, blk_cell htr 5⟩
     clear hck htr hb23
     go_wp2_with fail
     refine (acts_any v _ B st.length tr.length ca cb A5 c5 f5 HZ.out _ (HW.out.below HB23.out) (Kd.C_below H5.out HB23.out) l5).mono ?_
     cases e1 : actsP v f5 with
     | false =>
      have HR : Hid (transP v st ⟨f0, 1002, f2, f3, f4, f5⟩ = 1) := Lib.hid (by rw [HP2.out]; rw [if_pos e1])
      clear e1
      clear y0 y1 y2 x0 x1 x2 x3 x4 x5
      rintro e w25 ⟨rfl, hb25⟩
      have HB25 := Lib.hid (below_then HB23.out HB23.out.size hb25)
      have hck := (HB25.out.block _ (lt_of_block HCK.out)).trans HCK.out
      have htr := (HB25.out.block _ (lt_of_block HTR.out)).trans HTR.out
      obtain ⟨y0, y1, y2⟩ := chk_cells hck
      obtain ⟨x0, x1, x2, x3, x4, x5⟩ : _ ∧ _ ∧ _ ∧ _ ∧ _ ∧ _ := ⟨blk_cell htr 0, blk_cell htr 1, blk_cell htr 2, blk_cell htr 3, blk_cell htr 4, blk_cell htr 5⟩
      clear hck htr hb25
      go_wp2_with fail
      go_ret
      exact ⟨by rw [HR.out]; rfl, HFin.out _ HB25.out⟩
     | true =>
      have HR : Hid (transP v st ⟨f0, 1002, f2, f3, f4, f5⟩ = 0) := Lib.hid (by rw [HP2.out]; rw [if_neg (by rw [e1]; simp)])
      clear e1
      clear y0 y1 y2 x0 x1 x2 x3 x4 x5
      rintro e w25 ⟨rfl, hb25⟩
      have HB25 := Lib.hid (below_then HB23.out HB23.out.size hb25)
      have hck := (HB25.out.block _ (lt_of_block HCK.out)).trans HCK.out
      have htr := (HB25.out.block _ (lt_of_block HTR.out)).trans HTR.out
      obtain ⟨y0, y1, y2⟩ := chk_cells hck
      obtain ⟨x0, x1, x2, x3, x4, x5⟩ : _ ∧ _ ∧ _ ∧ _ ∧ _ ∧ _ := ⟨blk_cell htr 0, blk_cell htr 1, blk_cell htr 2, blk_cell htr 3, blk_cell htr 4, blk_cell htr 5⟩
      clear hck htr hb25
      go_wp2_with fail
      go_ret
      exact ⟨by rw [HR.out]; rfl, HFin.out _ HB25.out⟩
 have z3 : (f1 == 1001) = false := by simp [v1001]
 have z4 : (f1 != 1001) = true := by simp [v1001]
 have z5 : (f1 == 1002) = false := by simp [v1002]
 have z6 : (f1 != 1002) = true := by simp [v1002]
 by_cases vd : 2000 ≤ f1 ∧ f1 < 2000 + (st.length : Int)
 ·have HP1 := HP2.out
  rw [if_neg (fun h => h.2.2.2.2 vd)] at HP1
  have HP2 := Lib.hid HP1
  clear HP1
  have d1 : decide (f1 ≥ 2000) = true := decide_eq_true vd.1
  have d2 : decide (f1 < 2000 + (st.length : Int)) = true := decide_eq_true vd.2
  clear v0 v1 v1001 v1002 vd
  go_enter Tryz.func124, Tryz.ntmps124
  go_wp2_with fail
  refine (there_any HM.out v f0).mono ?_
  rw [HTd.out]
  rintro e w26 ⟨rfl, hb26⟩
  have HB26 := Lib.hid (below_then HBr.out HBr.out.size hb26)
  have hck := (HB26.out.block _ (lt_of_block HCK.out)).trans HCK.out
  have htr := (HB26.out.block _ (lt_of_block HTR.out)).trans HTR.out
  obtain ⟨y0, y1, y2⟩ := chk_cells hck
  obtain ⟨x0, x1, x2, x3, x4, x5⟩ : _ ∧ _ ∧ _ ∧ _ ∧ _ ∧ _ := ⟨blk_cell htr 0, blk_cell htr 1, blk_cell htr 2, blk_cell htr 3, blk_cell htr 4, blk_cell htr 5⟩
  clear hck htr hb26
  obtain ⟨sd, rfl, c0⟩ := state_at (HM.out.below HB26.out) f0 HSW.out.1 HSW.out.2
  generalize (PAll.rd_T93 st f0).f0 = kk at c0 sk
  have d3 : decide (kk > 3) = false := decide_eq_false (by omega)
  clear sk
  go_wp2_with fail
  refine (event_any f1 _).mono ?_
  rw [show decide (1 ≤ f1 ∧ f1 ≤ 1000) = false from HEv.out]
  clear y0 y1 y2 x0 x1 x2 x3 x4 x5
  rintro e w27 ⟨rfl, hb27⟩
  have HB27 := Lib.hid (below_then HB26.out HB26.out.size hb27)
  have hck := (HB27.out.block _ (lt_of_block HCK.out)).trans HCK.out
  have htr := (HB27.out.block _ (lt_of_block HTR.out)).trans HTR.out
  obtain ⟨y0, y1, y2⟩ := chk_cells hck
  obtain ⟨x0, x1, x2, x3, x4, x5⟩ : _ ∧ _ ∧ _ ∧ _ ∧ _ ∧ _ := ⟨blk_cell htr 0, blk_cell htr 1, blk_cell htr 2, blk_cell htr 3, blk_cell htr 4, blk_cell htr 5⟩
  clear hck htr hb27
  go_wp2_with fail
  refine (targets_any v _ B ca cb st tr ha A3 c3 f3 _ (HM.out.below HB27.out) (Kd.C_below H3.out HB27.out) l3).mono ?_
  cases e0 : tgtP st f3 with
  | false =>
   have HR : Hid (transP v st ⟨f0, f1, f2, f3, f4, f5⟩ = 11) := Lib.hid (by rw [HP2.out]; rw [if_pos e0])
   clear e0
   clear y0 y1 y2 x0 x1 x2 x3 x4 x5
   rintro e w28 ⟨rfl, hb28⟩
   have HB28 := Lib.hid (below_then HB27.out HB27.out.size hb28)
   have hck := (HB28.out.block _ (lt_of_block HCK.out)).trans HCK.out
   have htr := (HB28.out.block _ (lt_of_block HTR.out)).trans HTR.out
   obtain ⟨y0, y1, y2⟩ := chk_cells hck
   obtain ⟨x0, x1, x2, x3, x4, x5⟩ : _ ∧ _ ∧ _ ∧ _ ∧ _ ∧ _ := ⟨blk_cell htr 0, blk_cell htr 1, blk_cell htr 2, blk_cell htr 3, blk_cell htr 4, blk_cell htr 5⟩
   clear hck htr hb28
   go_wp2_with fail
   go_ret
   exact ⟨by rw [HR.out]; rfl, HFin.out _ HB28.out⟩
  | true =>
   have HP1 := HP2.out
   rw [if_neg (by rw [e0]; simp)] at HP1
   have HP2 := Lib.hid HP1
   clear HP1
   clear e0
   clear y0 y1 y2 x0 x1 x2 x3 x4 x5
   rintro e w28 ⟨rfl, hb28⟩
   have HB28 := Lib.hid (below_then HB27.out HB27.out.size hb28)
   have hck := (HB28.out.block _ (lt_of_block HCK.out)).trans HCK.out
   have htr := (HB28.out.block _ (lt_of_block HTR.out)).trans HTR.out
   obtain ⟨y0, y1, y2⟩ := chk_cells hck
   obtain ⟨x0, x1, x2, x3, x4, x5⟩ : _ ∧ _ ∧ _ ∧ _ ∧ _ ∧ _ := ⟨blk_cell htr 0, blk_cell htr 1, blk_cell htr 2, blk_cell htr 3, blk_cell htr 4, blk_cell htr 5⟩
   clear hck htr hb28
   cases eg : f2.toList.isEmpty with
   | true =>
    have HP1 := HP2.out
    rw [if_neg (fun h => by rw [eg] at h; exact absurd h.1 (by simp))] at HP1
    have HP2 := Lib.hid HP1
    clear HP1
    go_wp2_with fail
    refine (acts_any v _ B st.length tr.length ca cb A5 c5 f5 HZ.out _ (HW.out.below HB28.out) (Kd.C_below H5.out HB28.out) l5).mono ?_
    cases e1 : actsP v f5 with
    | false =>
     have HR : Hid (transP v st ⟨f0, f1, f2, f3, f4, f5⟩ = 1) := Lib.hid (by rw [HP2.out]; rw [if_pos e1])
     clear e1
     clear y0 y1 y2 x0 x1 x2 x3 x4 x5
     rintro e w30 ⟨rfl, hb30⟩
     have HB30 := Lib.hid (below_then HB28.out HB28.out.size hb30)
     have hck := (HB30.out.block _ (lt_of_block HCK.out)).trans HCK.out
     have htr := (HB30.out.block _ (lt_of_block HTR.out)).trans HTR.out
     obtain ⟨y0, y1, y2⟩ := chk_cells hck
     obtain ⟨x0, x1, x2, x3, x4, x5⟩ : _ ∧ _ ∧ _ ∧ _ ∧ _ ∧ _ := ⟨blk_cell htr 0, blk_cell htr 1, blk_cell htr 2, blk_cell htr 3, blk_cell htr 4, blk_cell htr 5⟩
     clear hck htr hb30
     go_wp2_with fail
     go_ret
     exact ⟨by rw [HR.out]; rfl, HFin.out _ HB30.out⟩
    | true =>
     have HR : Hid (transP v st ⟨f0, f1, f2, f3, f4, f5⟩ = 0) := Lib.hid (by rw [HP2.out]; rw [if_neg (by rw [e1]; simp)])
     clear e1
     clear y0 y1 y2 x0 x1 x2 x3 x4 x5
     rintro e w30 ⟨rfl, hb30⟩
     have HB30 := Lib.hid (below_then HB28.out HB28.out.size hb30)
     have hck := (HB30.out.block _ (lt_of_block HCK.out)).trans HCK.out
     have htr := (HB30.out.block _ (lt_of_block HTR.out)).trans HTR.out
     obtain ⟨y0, y1, y2⟩ := chk_cells hck
     obtain ⟨x0, x1, x2, x3, x4, x5⟩ : _ ∧ _ ∧ _ ∧ _ ∧ _ ∧ _ := ⟨blk_cell htr 0, blk_cell htr 1, blk_cell htr 2, blk_cell htr 3, blk_cell htr 4, blk_cell htr 5⟩
     clear hck htr hb30
     go_wp2_with fail
     go_ret
     exact ⟨by rw [HR.out]; rfl, HFin.out _ HB30.out⟩
   | false =>
    go_wp2_with fail
    refine (typed_any v _ B st.length tr.length ca cb f2 hs 2 _ (HW.out.below HB28.out)).mono ?_
    cases et : typP f2 2 v with
    | false =>
     have HR : Hid (transP v st ⟨f0, f1, f2, f3, f4, f5⟩ = 8) := Lib.hid (by rw [HP2.out]; rw [if_pos ⟨eg, et⟩])
     clear et
     clear y0 y1 y2 x0 x1 x2 x3 x4 x5
     rintro e w29 ⟨rfl, hb29⟩
     have HB29 := Lib.hid (below_then HB28.out HB28.out.size hb29)
     have hck := (HB29.out.block _ (lt_of_block HCK.out)).trans HCK.out
     have htr := (HB29.out.block _ (lt_of_block HTR.out)).trans HTR.out
     obtain ⟨y0, y1, y2⟩ := chk_cells hck
     obtain ⟨x0, x1, x2, x3, x4, x5⟩ : _ ∧ _ ∧ _ ∧ _ ∧ _ ∧ _ := ⟨blk_cell htr 0, blk_cell htr 1, blk_cell htr 2, blk_cell htr 3, blk_cell htr 4, blk_cell htr 5⟩
     clear hck htr hb29
     go_wp2_with fail
     go_ret
     exact ⟨by rw [HR.out]; rfl, HFin.out _ HB29.out⟩
    | true =>
     have HP1 := HP2.out
     rw [if_neg (fun h => by rw [et] at h; exact absurd h.2 (by simp))] at HP1
     have HP2 := Lib.hid HP1
     clear HP1
     clear et
     clear y0 y1 y2 x0 x1 x2 x3 x4 x5
     rintro e w29 ⟨rfl, hb29⟩
     have HB29 := Lib.hid (below_then HB28.out HB28.out.size hb29)
     have hck := (HB29.out.block _ (lt_of_block HCK.out)).trans HCK.out
     have htr := (HB29.out.block _ (lt_of_block HTR.out)).trans HTR.out
     obtain ⟨y0, y1, y2⟩ := chk_cells hck
     obtain ⟨x0, x1, x2, x3, x4, x5⟩ : _ ∧ _ ∧ _ ∧ _ ∧ _ ∧ _ := ⟨blk_cell htr 0, blk_cell htr 1, blk_cell htr 2, blk_cell htr 3, blk_cell htr 4, blk_cell htr 5⟩
     clear hck htr hb29
     go_wp2_with fail
     refine (acts_any v _ B st.length tr.length ca cb A5 c5 f5 HZ.out _ (HW.out.below HB29.out) (Kd.C_below H5.out HB29.out) l5).mono ?_
     cases e1 : actsP v f5 with
     | false =>
      have HR : Hid (transP v st ⟨f0, f1, f2, f3, f4, f5⟩ = 1) := Lib.hid (by rw [HP2.out]; rw [if_pos e1])
      clear e1
      clear y0 y1 y2 x0 x1 x2 x3 x4 x5
      rintro e w31 ⟨rfl, hb31⟩
      have HB31 := Lib.hid (below_then HB29.out HB29.out.size hb31)
      have hck := (HB31.out.block _ (lt_of_block HCK.out)).trans HCK.out
      have htr := (HB31.out.block _ (lt_of_block HTR.out)).trans HTR.out
      obtain ⟨y0, y1, y2⟩ := chk_cells hck
      obtain ⟨x0, x1, x2, x3, x4, x5⟩ : _ ∧ _ ∧ _ ∧ _ ∧ _ ∧ _ := ⟨blk_cell htr 0, blk_cell htr 1, blk_cell htr 2, blk_cell htr 3, blk_cell htr 4, blk_cell htr 5⟩
      clear hck htr hb31
      go_wp2_with fail
      go_ret
      exact ⟨by rw [HR.out]; rfl, HFin.out _ HB31.out⟩
     | true =>
      have HR : Hid (transP v st ⟨f0, f1, f2, f3, f4, f5⟩ = 0) := Lib.hid (by rw [HP2.out]; rw [if_neg (by rw [e1]; simp)])
      clear e1
      clear y0 y1 y2 x0 x1 x2 x3 x4 x5
      rintro e w31 ⟨rfl, hb31⟩
      have HB31 := Lib.hid (below_then HB29.out HB29.out.size hb31)
      have hck := (HB31.out.block _ (lt_of_block HCK.out)).trans HCK.out
      have htr := (HB31.out.block _ (lt_of_block HTR.out)).trans HTR.out
      obtain ⟨y0, y1, y2⟩ := chk_cells hck
      obtain ⟨x0, x1, x2, x3, x4, x5⟩ : _ ∧ _ ∧ _ ∧ _ ∧ _ ∧ _ := ⟨blk_cell htr 0, blk_cell htr 1, blk_cell htr 2, blk_cell htr 3, blk_cell htr 4, blk_cell htr 5⟩
      clear hck htr hb31
      go_wp2_with fail
      go_ret
      exact ⟨by rw [HR.out]; rfl, HFin.out _ HB31.out⟩
 have HR : Hid (transP v st ⟨f0, f1, f2, f3, f4, f5⟩ = 1) := Lib.hid (by rw [HP2.out]; rw [if_pos ⟨v0, v1, v1001, v1002, vd⟩])
 have hor : decide (f1 ≥ 2000) = false ∨ decide (f1 ≥ 2000) = true ∧ decide (f1 < 2000 + (st.length : Int)) = false := by
  by_cases h : 2000 ≤ f1
  ·exact .inr ⟨decide_eq_true h, decide_eq_false (fun h' => vd ⟨h, h'⟩)⟩
  ·exact .inl (decide_eq_false h)
 clear v0 v1 v1001 v1002 vd
 go_enter Tryz.func124, Tryz.ntmps124
 rcases hor with d1 | ⟨d1, d2⟩
 all_goals
  go_wp2_with fail
  refine (there_any HM.out v f0).mono ?_
  rw [HTd.out]
  rintro e w32 ⟨rfl, hb32⟩
  have HB32 := Lib.hid (below_then HBr.out HBr.out.size hb32)
  have hck := (HB32.out.block _ (lt_of_block HCK.out)).trans HCK.out
  have htr := (HB32.out.block _ (lt_of_block HTR.out)).trans HTR.out
  obtain ⟨y0, y1, y2⟩ := chk_cells hck
  obtain ⟨x0, x1, x2, x3, x4, x5⟩ : _ ∧ _ ∧ _ ∧ _ ∧ _ ∧ _ := ⟨blk_cell htr 0, blk_cell htr 1, blk_cell htr 2, blk_cell htr 3, blk_cell htr 4, blk_cell htr 5⟩
  clear hck htr hb32
  obtain ⟨sd, rfl, c0⟩ := state_at (HM.out.below HB32.out) f0 HSW.out.1 HSW.out.2
  generalize (PAll.rd_T93 st f0).f0 = kk at c0 sk
  have d3 : decide (kk > 3) = false := decide_eq_false (by omega)
  clear sk
  go_wp2_with fail
  refine (event_any f1 _).mono ?_
  rw [show decide (1 ≤ f1 ∧ f1 ≤ 1000) = false from HEv.out]
  clear y0 y1 y2 x0 x1 x2 x3 x4 x5
  rintro e w33 ⟨rfl, hb33⟩
  have HB33 := Lib.hid (below_then HB32.out HB32.out.size hb33)
  have hck := (HB33.out.block _ (lt_of_block HCK.out)).trans HCK.out
  have htr := (HB33.out.block _ (lt_of_block HTR.out)).trans HTR.out
  obtain ⟨y0, y1, y2⟩ := chk_cells hck
  obtain ⟨x0, x1, x2, x3, x4, x5⟩ : _ ∧ _ ∧ _ ∧ _ ∧ _ ∧ _ := ⟨blk_cell htr 0, blk_cell htr 1, blk_cell htr 2, blk_cell htr 3, blk_cell htr 4, blk_cell htr 5⟩
  clear hck htr hb33
  go_wp2_with fail
  go_ret
  exact ⟨by rw [HR.out]; rfl, HFin.out _ HB33.out⟩
end Go.Proofs.YtcjlpkegkehghaaGreatDoor
end
section
namespace Go.Proofs.YtcjlpkegkehghaaGreatDoor
open Go.RowKit Go.Proofs.YtcjlpkegkehghaaGreatDoorW.PrintWords
open PX (T V)
def findBad (f : Int → Int) : Nat → Int → Option (Int × Int)
 | 0, _ => none
 | n + 1, i => if f i ≠ 0 then some (i, f i) else findBad f n (i + 1)
theorem findBad_none (f : Int → Int) (n : Nat) : ∀ i : Int, findBad f n i = none ↔ ∀ j : Int, i ≤ j → j < i + n → f j = 0 := by
 induction n with
 | zero => intro i; simp [findBad]; intro j h1 h2; omega
 | succ n ih =>
  intro i
  simp only [findBad]
  by_cases h : f i = 0
  ·rw [if_neg (fun h' => h' h), ih (i + 1)]
   constructor
   ·intro hh j h1 h2
    by_cases e : j = i
    ·rw [e]; exact h
    ·exact hh j (by omega) (by push_cast at h2; omega)
   ·intro hh j h1 h2
    exact hh j (by omega) (by push_cast; omega)
  ·rw [if_pos h]
   constructor
   ·intro hh; cases hh
   ·intro hh; exact absurd (hh i (Int.le_refl _) (by push_cast; omega)) h
noncomputable def chkP (v : Int) (st : List Sta) (tr : List Tra) : Er :=
 if v < 0 ∨ 8 < v ∨ st.length < 1 ∨ 24 < st.length ∨ 40 < tr.length then .code 3
 else match findBad (stateP v st) st.length 0 with
  | some (i, c) => .spot i c
  | none => match findBad (fun i => transP v st (PAll.rd_T46 tr i)) tr.length 0 with
   | some (i, c) => .spot ((st.length : Int) + i) c
   | none => .none
structure FewC (st : List Sta) (tr : List Tra) : Prop where
 s : ∀ x ∈ st, x.f3.length ≤ 1000 ∧ x.f4.length ≤ 1000 ∧ ∀ a ∈ x.f3 ++ x.f4, a.f3.size ≤ 281474976710656
 t : ∀ x ∈ tr, x.f2.size ≤ 281474976710656 ∧ ∀ a ∈ x.f5, a.f3.size ≤ 281474976710656
theorem rdS_mem (st : List Sta) (q : Nat) (h : q < st.length) : PAll.rd_T93 st (q : Int) ∈ st := by
 have : PAll.rd_T93 st (q : Int) = st[q] := by simp [PAll.rd_T93, List.getD_eq_getElem?_getD, List.getElem?_eq_getElem h]
 rw [this]; exact List.getElem_mem h
theorem rdT_mem (tr : List Tra) (q : Nat) (h : q < tr.length) : PAll.rd_T46 tr (q : Int) ∈ tr := by
 have : PAll.rd_T46 tr (q : Int) = tr[q] := by simp [PAll.rd_T46, List.getD_eq_getElem?_getD, List.getElem?_eq_getElem h]
 rw [this]; exact List.getElem_mem h
theorem state_par {v : Int} {st : List Sta} {i : Int} (h : stateP v st i = 0) : (i = 0 → (PAll.rd_T93 st i).f0 = 2) ∧ parP st i = 0 := by
 unfold stateP at h
 split at h
 ·omega
 ·rename_i h1
  split at h
  ·rename_i h2; exact absurd h h2
  ·rename_i h2
   exact ⟨fun e => Classical.byContradiction fun h' => h1 (.inr (.inr ⟨e, h'⟩)), Classical.not_not.1 h2⟩
theorem par_ok {st : List Sta} {i : Int} (h0 : 0 < i) (h : parP st i = 0) : 0 ≤ (PAll.rd_T93 st i).f1 ∧ ((PAll.rd_T93 st i).f1 = i - 1 ∨ inC st (i - 1) (PAll.rd_T93 st i).f1 = true) := by
 unfold parP at h
 rw [if_neg (by omega)] at h
 split at h
 ·omega
 ·rename_i h1
  split at h
  ·omega
  ·rename_i h2
   refine ⟨by omega, ?_⟩
   by_cases e : (PAll.rd_T93 st i).f1 = i - 1
   ·exact .inl e
   ·exact .inr (by
     cases hh : inC st (i - 1) (PAll.rd_T93 st i).f1 with
     | true => rfl
     | false => exact absurd ⟨e, hh⟩ h2)
theorem ahead_of {v : Int} {st : List Sta} (h : ∀ j : Int, 0 ≤ j → j < (st.length : Int) → stateP v st j = 0) : Ahead st := by
 intro i h0 h1
 obtain ⟨p1, p2⟩ := state_par (h i h0 h1)
 by_cases z : i = 0
 ·subst z
  have hk := p1 rfl
  have hp : (PAll.rd_T93 st 0).f1 = -1 := by
   unfold parP at p2
   rw [if_pos rfl] at p2
   split at p2
   ·assumption
   ·omega
  exact ⟨by omega, fun h => by omega, fun _ => by rw [hk]; rfl⟩
 ·obtain ⟨q1, q2⟩ := par_ok (by omega) p2
  refine ⟨?_, fun _ => q1, fun h => absurd h z⟩
  rcases q2 with q2 | q2
  ·omega
  ·have := inC_lt q2; omega
theorem check_any (v : Int) (A B : Option Addr) (ca cb : Nat) (st : List Sta) (tr : List Tra) (hF : FewC st tr) (w : World) (hw : Laid w) (hM : ChM w A ca st B cb tr) :
  Calls Tryz.prog 62 #[ckV v A B st.length tr.length ca cb] w fun e w' => ∃ ev, e = .returned ev ∧ ErV w.heap.size w' ev (chkP v st tr) ∧ Below w.heap.size w w' := by
 have hb1 : Below w.heap.size w (w.alloc (.cells #[.int .i64 v, .slice A st.length ca, .slice B tr.length cb] 25)) := (Below.refl _ w).alloc (Nat.le_refl _) _
 by_cases hbad : v < 0 ∨ 8 < v ∨ st.length < 1 ∨ 24 < st.length ∨ 40 < tr.length
 ·have HR : Hid (chkP v st tr = .code 3) := Lib.hid (by unfold chkP; rw [if_pos hbad])
  have HB1 := Lib.hid hb1
  have hor : decide (v < 0) = true ∨ (decide (v < 0) = false ∧ decide (v > 8) = true) ∨ (decide (v < 0) = false ∧ decide (v > 8) = false ∧ decide ((st.length : Int) < 1) = true) ∨ (decide (v < 0) = false ∧ decide (v > 8) = false ∧ decide ((st.length : Int) < 1) = false ∧ decide ((st.length : Int) > 24) = true) ∨ (decide (v < 0) = false ∧ decide (v > 8) = false ∧ decide ((st.length : Int) < 1) = false ∧ decide ((st.length : Int) > 24) = false ∧ decide ((tr.length : Int) > 40) = true) := by
   by_cases c1 : v < 0
   ·exact .inl (decide_eq_true c1)
   by_cases c2 : 8 < v
   ·exact .inr (.inl ⟨decide_eq_false c1, decide_eq_true c2⟩)
   by_cases c3 : st.length < 1
   ·exact .inr (.inr (.inl ⟨decide_eq_false c1, decide_eq_false c2, decide_eq_true (by omega)⟩))
   by_cases c4 : 24 < st.length
   ·exact .inr (.inr (.inr (.inl ⟨decide_eq_false c1, decide_eq_false c2, decide_eq_false (by omega), decide_eq_true (by omega)⟩)))
   exact .inr (.inr (.inr (.inr ⟨decide_eq_false c1, decide_eq_false c2, decide_eq_false (by omega), decide_eq_false (by omega), decide_eq_true (by omega)⟩)))
  clear hbad hb1
  go_enter Tryz.func62, Tryz.ntmps62
  rcases hor with q1 | ⟨q1, q2⟩ | ⟨q1, q2, q3⟩ | ⟨q1, q2, q3, q4⟩ | ⟨q1, q2, q3, q4, q5⟩
  all_goals
   go_wp2_with fail
   go_ret
   exact ⟨_, rfl, by rw [HR.out]; rfl, HB1.out⟩
 have hb0 : Below w.heap.size w ((w.alloc (.cells #[.int .i64 v, .slice A st.length ca, .slice B tr.length cb] 25)).alloc (.cells #[.int .i64 v, .slice A st.length ca, .slice B tr.length cb] 176)) := hb1.alloc (by simp) _
 have HB0 := Lib.hid hb0
 have HW := Lib.hid (hw.below hb0)
 have HM := Lib.hid (hM.below hb0)
 have HFs := Lib.hid hF.s
 have HFt := Lib.hid hF.t
 obtain ⟨hk1, hk2, _, _⟩ := boxed2 (Below.refl _ ((w.alloc (.cells #[.int .i64 v, .slice A st.length ca, .slice B tr.length cb] 25)).alloc (.cells #[.int .i64 v, .slice A st.length ca, .slice B tr.length cb] 176)))
 have HCC := Lib.hid hk1
 have HCK := Lib.hid hk2
 have hP : chkP v st tr = match findBad (stateP v st) st.length 0 with
  | some (i, c) => .spot i c
  | none => match findBad (fun i => transP v st (PAll.rd_T46 tr i)) tr.length 0 with
   | some (i, c) => .spot ((st.length : Int) + i) c
   | none => .none := by unfold chkP; rw [if_neg hbad]
 have HP := Lib.hid hP
 have q1 : decide (v < 0) = false := decide_eq_false (by omega)
 have q2 : decide (v > 8) = false := decide_eq_false (by omega)
 have q3 : decide ((st.length : Int) < 1) = false := decide_eq_false (by omega)
 have q4 : decide ((st.length : Int) > 24) = false := decide_eq_false (by omega)
 have q5 : decide ((tr.length : Int) > 40) = false := decide_eq_false (by omega)
 have hn : st.length ≤ 24 := by omega
 have hm : tr.length ≤ 40 := by omega
 have hlt0 : w.heap.size + 1 < ((w.alloc (.cells #[.int .i64 v, .slice A st.length ca, .slice B tr.length cb] 25)).alloc (.cells #[.int .i64 v, .slice A st.length ca, .slice B tr.length cb] 176)).heap.size := by simp
 clear hbad hb1 hb0 hw hM hF hk1 hk2 hP
 go_enter Tryz.func62, Tryz.ntmps62
 go_wp2_with fail
 generalize hw0 : (w.alloc (.cells #[.int .i64 v, .slice A st.length ca, .slice B tr.length cb] 25)).alloc (.cells #[.int .i64 v, .slice A st.length ca, .slice B tr.length cb] 176) = w0 at HB0 HW HM HCC HCK hlt0 ⊢
 have hfin : ∀ wr, Below w0.heap.size w0 wr → Below w.heap.size w wr := fun wr h => HB0.out.trans (h.mono HB0.out.size)
 have HFin := Lib.hid hfin
 clear hw0 hfin q1 q2 q3 q4 q5
 go_loopw [41] (fun i wr => ∃ q : Nat, i = .int .i64 q ∧ q ≤ st.length ∧ Hid (Below w0.heap.size w0 wr) ∧ Hid (findBad (stateP v st) st.length 0 = findBad (stateP v st) (st.length - q) (q : Int)) ∧ Hid (∀ j : Int, 0 ≤ j → j < (q : Int) → stateP v st j = 0)) (fun i _ => st.length - (intOf i).toNat)
 case atStart => exact ⟨0, rfl, Nat.zero_le _, Lib.hid (Below.refl _ _), Lib.hid rfl, Lib.hid (fun j h1 h2 => by omega)⟩
 case round =>
  obtain ⟨q, rfl, hq, HB, HE, HZ⟩ := hrel
  have hcc := (HB.out.block _ (lt_of_block HCC.out)).trans HCC.out
  have hck := (HB.out.block _ (lt_of_block HCK.out)).trans HCK.out
  obtain ⟨y0, y1, y2⟩ := chk_cells hck
  by_cases hlt : q < st.length
  ·have p1 : ((q : Int) < (st.length : Int)) = True := eq_true (by omega)
   have hmem := HFs.out _ (rdS_mem st q hlt)
   have HMem := Lib.hid hmem
   have HE2 := HE.out
   rw [show st.length - q = (st.length - (q + 1)) + 1 by omega] at HE2
   simp only [findBad] at HE2
   have HE := Lib.hid HE2
   clear hcc hck hmem HE2
   go_wp2_with fail
   refine (state_any v A B ca cb st tr (q : Int) (by omega) (by omega) (by omega) HMem.out.2.2 HMem.out.1 HMem.out.2.1 _ (HW.out.below HB.out) (HM.out.below HB.out)).mono ?_
   by_cases hz : stateP v st (q : Int) = 0
   ·have HE3 : Hid (findBad (stateP v st) st.length 0 = findBad (stateP v st) (st.length - (q + 1)) ((q + 1 : Nat) : Int)) := Lib.hid (by rw [HE.out, if_neg (fun h => h hz)]; push_cast; rfl)
    have HZ2 : Hid (∀ j : Int, 0 ≤ j → j < ((q + 1 : Nat) : Int) → stateP v st j = 0) := Lib.hid (fun j h1 h2 => by
     by_cases e : j = (q : Int)
     ·rw [e]; exact hz
     ·exact HZ.out j h1 (by push_cast at h2; omega))
    rw [hz]
    clear hz HE HZ
    rintro e w2 ⟨rfl, hb2⟩
    have HB2 := Lib.hid (below_then HB.out HB.out.size hb2)
    clear hb2 y0 y1 y2
    go_wp2_with fail
    go_roundw
    case rel => exact ⟨q + 1, by go_num, by omega, HB2, HE3, HZ2⟩
    case measure => simp [intOf]; omega
   ·have HR : Hid (chkP v st tr = .spot q (stateP v st (q : Int))) := Lib.hid (by rw [HP.out, HE.out, if_pos hz])
    have d1 : (stateP v st (q : Int) == 0) = false := by simp [hz]
    have d2 : (stateP v st (q : Int) != 0) = true := by simp [hz]
    generalize stateP v st (q : Int) = c at HR d1 d2 ⊢
    clear hz HE HZ
    rintro e w2 ⟨rfl, hb2⟩
    have HB2 := Lib.hid (below_then HB.out HB.out.size hb2)
    clear hb2 y0 y1 y2
    go_wp2_with fail
    go_ret
    exact ⟨_, rfl, by rw [HR.out]; exact ⟨w2.heap.size, rfl, by have := HB2.out.size; have := HB0.out.size; omega, blk_new w2 _⟩, HFin.out _ (HB2.out.alloc HB2.out.size _)⟩
  ·obtain rfl : q = st.length := by omega
   have ha : Ahead st := ahead_of (v := v) (fun j h1 h2 => HZ.out j h1 h2)
   have HP1 : Hid (chkP v st tr = match findBad (fun i => transP v st (PAll.rd_T46 tr i)) tr.length 0 with
    | some (i, c) => .spot ((st.length : Int) + i) c
    | none => .none) := Lib.hid (by rw [HP.out, HE.out, Nat.sub_self]; rfl)
   have z0 : wr.cell? ⟨w.heap.size, 0, none⟩ = some (.int .i64 v) := blk_cell hcc 0
   have z1 : wr.cell? ⟨w.heap.size, 1, none⟩ = some (.slice A st.length ca) := blk_cell hcc 1
   have z2 : wr.cell? ⟨w.heap.size, 2, none⟩ = some (.slice B tr.length cb) := blk_cell hcc 2
   have p1 : ((st.length : Int) < (st.length : Int)) = False := eq_false (by omega)
   have HB1 := HB
   clear hcc hck HP HE HZ hq hlt HB
   go_wp2_with fail
   go_loopw [58] (fun i wr => ∃ q : Nat, i = .int .i64 q ∧ q ≤ tr.length ∧ Hid (Below w0.heap.size w0 wr) ∧ Hid (findBad (fun i => transP v st (PAll.rd_T46 tr i)) tr.length 0 = findBad (fun i => transP v st (PAll.rd_T46 tr i)) (tr.length - q) (q : Int))) (fun i _ => tr.length - (intOf i).toNat)
   case atStart => exact ⟨0, rfl, Nat.zero_le _, HB1, Lib.hid rfl⟩
   case round =>
    clear HB1 y0 y1 y2 z0 z1 z2
    obtain ⟨q, rfl, hq, HB, HE⟩ := hrel
    by_cases hlt : q < tr.length
    ·have p2 : ((q : Int) < (tr.length : Int)) = True := eq_true (by omega)
     have hmem := HFt.out _ (rdT_mem tr q hlt)
     obtain ⟨ad, A3, c3, A5, c5, rfl, a0, a1, a2, a3, a4, a5, l3, g3, l5, g5⟩ := PAll.at_T46 (HM.out.below HB.out).ct (q : Int) (by omega) (by omega)
     rw [Int.toNat_natCast] at a0 a1 a2 a3 a4 a5
     have HE2 := HE.out
     rw [show tr.length - q = (tr.length - (q + 1)) + 1 by omega] at HE2
     simp only [findBad] at HE2
     generalize PAll.rd_T46 tr (q : Int) = x at a0 a1 a2 a3 a4 a5 l3 g3 l5 g5 hmem HE2
     obtain ⟨f0, f1, f2, f3, f4, f5⟩ := x
     simp only at a0 a1 a2 a3 a4 a5 l3 g3 l5 g5 hmem
     have HMem := Lib.hid hmem
     have HE := Lib.hid HE2
     have HBA := Lib.hid (HB.out.alloc HB.out.size (.cells #[.int .i64 f0, .int .i64 f1, .string f2, .slice A3 f3.length c3, .bool f4, .slice A5 f5.length c5] 46))
     have HMA := Lib.hid (HM.out.below HBA.out)
     have H3 := Lib.hid (Kd.C_alloc g3 (.cells #[.int .i64 f0, .int .i64 f1, .string f2, .slice A3 f3.length c3, .bool f4, .slice A5 f5.length c5] 46))
     have H5 := Lib.hid (Kd.C_alloc g5 (.cells #[.int .i64 f0, .int .i64 f1, .string f2, .slice A3 f3.length c3, .bool f4, .slice A5 f5.length c5] 46))
     have hck := (HBA.out.block _ (lt_of_block HCK.out)).trans HCK.out
     obtain ⟨y0, y1, y2⟩ := chk_cells hck
     clear hmem HE2 g3 g5 hck
     go_wp2_with fail
     refine (trans_any v A (some ad) ca cb st tr ha (by omega) f0 f1 f2 HMem.out.1 A3 c3 f3 l3 f4 A5 c5 f5 l5 HMem.out.2 _ (HW.out.below HBA.out) HMA.out H3.out H5.out).mono ?_
     by_cases hz : transP v st ⟨f0, f1, f2, f3, f4, f5⟩ = 0
     ·have HE3 : Hid (findBad (fun i => transP v st (PAll.rd_T46 tr i)) tr.length 0 = findBad (fun i => transP v st (PAll.rd_T46 tr i)) (tr.length - (q + 1)) ((q + 1 : Nat) : Int)) := Lib.hid (by rw [HE.out, if_neg (fun h => h hz)]; push_cast; rfl)
      rw [hz]
      clear hz HE
      rintro e w2 ⟨rfl, hb2⟩
      have HB2 := Lib.hid (below_then HBA.out HBA.out.size hb2)
      clear hb2 y0 y1 y2 a0 a1 a2 a3 a4 a5
      go_wp2_with fail
      go_roundw
      case rel => exact ⟨q + 1, by go_num, by omega, HB2, HE3⟩
      case measure => simp [intOf]; omega
     ·have HR : Hid (chkP v st tr = .spot ((st.length : Int) + q) (transP v st ⟨f0, f1, f2, f3, f4, f5⟩)) := Lib.hid (by rw [HP1.out, HE.out, if_pos hz])
      have d1 : (transP v st ⟨f0, f1, f2, f3, f4, f5⟩ == 0) = false := by simp [hz]
      have d2 : (transP v st ⟨f0, f1, f2, f3, f4, f5⟩ != 0) = true := by simp [hz]
      generalize transP v st ⟨f0, f1, f2, f3, f4, f5⟩ = c at HR d1 d2 ⊢
      clear hz HE
      rintro e w2 ⟨rfl, hb2⟩
      have HB2 := Lib.hid (below_then HBA.out HBA.out.size hb2)
      have hcc := (HB2.out.block _ (lt_of_block HCC.out)).trans HCC.out
      have z1 : w2.cell? ⟨w.heap.size, 1, none⟩ = some (.slice A st.length ca) := blk_cell hcc 1
      clear hb2 y0 y1 y2 a0 a1 a2 a3 a4 a5 hcc
      go_wp2_with fail
      go_ret
      exact ⟨_, rfl, by rw [HR.out]; exact ⟨w2.heap.size, rfl, by have := HB2.out.size; have := HB0.out.size; omega, blk_new w2 _⟩, HFin.out _ (HB2.out.alloc HB2.out.size _)⟩
    ·obtain rfl : q = tr.length := by omega
     have HR : Hid (chkP v st tr = .none) := Lib.hid (by rw [HP1.out, HE.out, Nat.sub_self]; rfl)
     have p2 : ((tr.length : Int) < (tr.length : Int)) = False := eq_false (by omega)
     go_wp2_with fail
     go_ret
     exact ⟨_, rfl, by rw [HR.out]; rfl, HFin.out _ HB.out⟩
end Go.Proofs.YtcjlpkegkehghaaGreatDoor
end
section
namespace Go.Proofs.YtcjlpkegkehghaaGreatDoor
open Go.RowKit PX Go.Proofs.YtcjlpkegkehghaaGreatDoorW.PrintWords
structure LaidE (w : World) : Prop extends Laid w where
 typ : w.cell? ⟨0, 0, none⟩ = some (.iface 296 (.agg #[.pointer (some ⟨6, 32, none⟩)]))
end Go.Proofs.YtcjlpkegkehghaaGreatDoor
end
section
namespace Go.Proofs.YtcjlpkegkehghaaGreatDoor
open Go.RowKit Go.Proofs.YtcjlpkegkehghaaGreatDoorW.PrintWords
open PX (T V)
theorem nilC {α : Type} (d : Kd α) (w : World) : d.C w none ([] : List α).length [] := ⟨rfl, by simp, fun h => by simp at h⟩
theorem one_new {W : World} {g ty : Nat} {x : Int} (h : W.heap[g]? = some (.cells #[.int .i64 x] ty (0, 0))) : (Kd.int .i64).C W (some ⟨g, 0, none⟩) ([x] : List Int).length [x] := by
 refine ⟨rfl, by simp, fun _ => ⟨_, rfl, ?_⟩⟩
 intro j p hj
 match j, hj with
 | 0, hj =>
  simp only [List.getElem?_cons_zero, Option.some.injEq] at hj
  subst hj
  refine ⟨[.int .i64 x], rfl, rfl, ?_⟩
  intro i u hi
  rw [add_at]
  match i, hi with
  | 0, hi => simp only [List.getElem?_cons_zero, Option.some.injEq] at hi; subst hi; exact blk_cell h 0
  | n + 1, hi => simp at hi
 | n + 1, hj => simp at hj
theorem states2 {W : World} {g : Nat} {k0 p0 k1 p1 : Int} {i0 : List Int} {A0 : Option Addr} {c0 : Nat}
  (h : W.heap[g]? = some (.cells #[.int .i64 k0, .int .i64 p0, .slice A0 i0.length c0, .slice none 0 0, .slice none 0 0, .int .i64 k1, .int .i64 p1, .slice none 0 0, .slice none 0 0, .slice none 0 0] 93 (0, 0)))
  (hc : i0.length ≤ c0) (hi : (Kd.int .i64).C W A0 i0.length i0) :
  Kd.C PAll.k93 W (some ⟨g, 0, none⟩) ([⟨k0, p0, i0, [], []⟩, ⟨k1, p1, [], [], []⟩] : List Sta).length [⟨k0, p0, i0, [], []⟩, ⟨k1, p1, [], [], []⟩] := by
 refine ⟨rfl, by simp, fun _ => ⟨_, rfl, ?_⟩⟩
 intro j p hj
 match j, hj with
 | 0, hj =>
  simp only [List.getElem?_cons_zero, Option.some.injEq] at hj
  subst hj
  refine ⟨_, rfl, PAll.k93_mk W _ (A2 := A0) (c2 := c0) hc hi (A3 := none) (c3 := 0) (Nat.le_refl _) (nilC _ W) (A4 := none) (c4 := 0) (Nat.le_refl _) (nilC _ W), ?_⟩
  intro i u hu
  rw [add_at]
  match i, hu with
  | 0, hu => simp only [List.getElem?_cons_zero, List.getElem?_cons_succ, Option.some.injEq] at hu; subst hu; exact blk_cell h 0
  | 1, hu => simp only [List.getElem?_cons_zero, List.getElem?_cons_succ, Option.some.injEq] at hu; subst hu; exact blk_cell h 1
  | 2, hu => simp only [List.getElem?_cons_zero, List.getElem?_cons_succ, Option.some.injEq] at hu; subst hu; exact blk_cell h 2
  | 3, hu => simp only [List.getElem?_cons_zero, List.getElem?_cons_succ, Option.some.injEq] at hu; subst hu; exact blk_cell h 3
  | 4, hu => simp only [List.getElem?_cons_zero, List.getElem?_cons_succ, Option.some.injEq] at hu; subst hu; exact blk_cell h 4
  | n + 5, hu => simp at hu
 | 1, hj =>
  simp only [List.getElem?_cons_zero, List.getElem?_cons_succ, Option.some.injEq] at hj
  subst hj
  refine ⟨_, rfl, PAll.k93_mk W _ (A2 := none) (c2 := 0) (Nat.le_refl _) (nilC _ W) (A3 := none) (c3 := 0) (Nat.le_refl _) (nilC _ W) (A4 := none) (c4 := 0) (Nat.le_refl _) (nilC _ W), ?_⟩
  intro i u hu
  rw [add_at]
  match i, hu with
  | 0, hu => simp only [List.getElem?_cons_zero, List.getElem?_cons_succ, Option.some.injEq] at hu; subst hu; exact blk_cell h 5
  | 1, hu => simp only [List.getElem?_cons_zero, List.getElem?_cons_succ, Option.some.injEq] at hu; subst hu; exact blk_cell h 6
  | 2, hu => simp only [List.getElem?_cons_zero, List.getElem?_cons_succ, Option.some.injEq] at hu; subst hu; exact blk_cell h 7
  | 3, hu => simp only [List.getElem?_cons_zero, List.getElem?_cons_succ, Option.some.injEq] at hu; subst hu; exact blk_cell h 8
  | 4, hu => simp only [List.getElem?_cons_zero, List.getElem?_cons_succ, Option.some.injEq] at hu; subst hu; exact blk_cell h 9
  | n + 5, hu => simp at hu
 | n + 2, hj => simp at hj
abbrev least2 : List Sta := [⟨2, -1, [1], [], []⟩, ⟨1, 0, [], [], []⟩]
end Go.Proofs.YtcjlpkegkehghaaGreatDoor
end
section
namespace Go.Proofs.YtcjlpkegkehghaaGreatDoor
open Go.RowKit Go.Proofs.YtcjlpkegkehghaaGreatDoorW.PrintWords
open PX (T V)
def fewAP (l : List Ac) : Bool := (l.all fun a => decide (a.f3.size ≤ 500)) && decide (l.length ≤ 20)
def fewS (x : Sta) : Bool := fewAP x.f3 && fewAP x.f4 && decide (x.f2.length ≤ 20)
def fewT (x : Tra) : Bool := fewAP x.f5 && decide (x.f3.length ≤ 20) && decide (x.f2.size ≤ 500)
def fewP (st : List Sta) (tr : List Tra) : Bool := decide (st.length ≤ 40) && decide (tr.length ≤ 60) && st.all fewS && tr.all fewT
theorem rdA_eq (l : List Ac) (q : Nat) (h : q < l.length) : PAll.rd_T174 l (q : Int) = l[q] := by
 unfold PAll.rd_T174; rw [List.getD_eq_getElem?_getD, show ((q : Int)).toNat = q from rfl, List.getElem?_eq_getElem h]; rfl
theorem rdSt_eq (l : List Sta) (q : Nat) (h : q < l.length) : PAll.rd_T93 l (q : Int) = l[q] := by
 unfold PAll.rd_T93; rw [List.getD_eq_getElem?_getD, show ((q : Int)).toNat = q from rfl, List.getElem?_eq_getElem h]; rfl
theorem rdTr_eq (l : List Tra) (q : Nat) (h : q < l.length) : PAll.rd_T46 l (q : Int) = l[q] := by
 unfold PAll.rd_T46; rw [List.getD_eq_getElem?_getD, show ((q : Int)).toNat = q from rfl, List.getElem?_eq_getElem h]; rfl
theorem fewA_any (A : Option Addr) (c : Nat) (l : List Ac) (w : World) (h : ActsC w A l.length l) (hl : l.length ≤ 9223372036854775807) :
  Calls Tryz.prog 61 #[.slice A l.length c] w fun e w' => e = .returned (.bool (fewAP l)) ∧ w' = w := by
 have HC := Lib.hid h
 generalize hG : fewAP l = G
 have HG : Hid ((l.all (fun a => decide (a.f3.size ≤ 500)) && decide (l.length ≤ 20)) = G) := Lib.hid hG
 clear h hG
 go_enter Tryz.func61, Tryz.ntmps61
 go_wp2_with fail
 go_loopw [3] (fun i wr => ∃ q : Nat, i = .int .i64 q ∧ q ≤ l.length ∧ Hid (((l.drop q).all (fun a => decide (a.f3.size ≤ 500)) && decide (l.length ≤ 20)) = G) ∧ wr = w) (fun i _ => l.length - (intOf i).toNat)
 case atStart => exact ⟨0, rfl, Nat.zero_le _, Lib.hid (by rw [List.drop_zero]; exact HG.out), rfl⟩
 case round =>
  clear HG
  obtain ⟨q, rfl, hq, HE, rfl⟩ := hrel
  by_cases hlt : q < l.length
  ·obtain ⟨ad, rfl, q0, q1, q2, q3⟩ := PAll.at_T174 HC.out (q : Int) (by omega) (by omega)
   rw [Int.toNat_natCast] at q0 q1 q2 q3
   have p1 : ((q : Int) < (l.length : Int)) = True := eq_true (by omega)
   have HE2 := HE.out
   rw [List.drop_eq_getElem_cons hlt, List.all_cons, ← rdA_eq l q hlt] at HE2
   clear HE
   generalize (PAll.rd_T174 l (q : Int)).f3 = s at *
   by_cases c1 : s.size ≤ 500
   ·have d1 : decide ((s.size : Int) > 500) = false := decide_eq_false (by omega)
    have d1' : decide (500 < s.size) = false := decide_eq_false (by omega)
    have HE3 : Hid (((l.drop (q + 1)).all (fun a => decide (a.f3.size ≤ 500)) && decide (l.length ≤ 20)) = G) := Lib.hid (by rw [← HE2, decide_eq_true c1, Bool.true_and])
    clear HE2 c1
    go_wp2_with fail
    go_roundw
    case rel => exact ⟨q + 1, by go_num, by omega, HE3, by trivial⟩
    case measure => simp [intOf]; omega
   ·have d1 : decide ((s.size : Int) > 500) = true := decide_eq_true (by omega)
    have d1' : decide (500 < s.size) = true := decide_eq_true (by omega)
    have HE3 : Hid (false = G) := Lib.hid (by rw [← HE2, decide_eq_false c1]; rfl)
    clear HE2 c1
    go_wp2_with fail
    go_ret
    exact ⟨by rw [← HE3.out]; rfl, rfl⟩
  ·obtain rfl : q = l.length := by omega
   have hE3 : decide ((l.length : Int) ≤ 20) = G := by rw [← HE.out, List.drop_length, List.all_nil, Bool.true_and, decide_eq_decide]; omega
   have HE3 := Lib.hid hE3
   have p1 : ((l.length : Int) < (l.length : Int)) = False := eq_false (by omega)
   generalize hln : (l.length : Int) = ln at *
   clear HE hE3
   go_wp2_with fail
   go_ret
   exact ⟨by rw [← HE3.out]; rfl, rfl⟩
section
variable {A B : Option Addr} {ca cb : Nat} {st : List Sta} {tr : List Tra} {w : World}
theorem fewc_any (h : ChM w A ca st B cb tr) (v : Int) : Calls Tryz.prog 16 #[ckV v A B st.length tr.length ca cb] w fun e w' => e = .returned (.bool (fewP st tr)) ∧ Below w.heap.size w w' := by
 have hb0 : Below w.heap.size w (w.alloc (.cells #[.int .i64 v, .slice A st.length ca, .slice B tr.length cb] 25)) := (Below.refl _ w).alloc (Nat.le_refl _) _
 have HB0 := Lib.hid hb0
 have HM := Lib.hid (h.below hb0)
 have hg := blk_new w (.cells #[.int .i64 v, .slice A st.length ca, .slice B tr.length cb] 25)
 have y1 : (w.alloc (.cells #[.int .i64 v, .slice A st.length ca, .slice B tr.length cb] 25)).cell? ⟨w.heap.size, 1, none⟩ = some (.slice A st.length ca) := blk_cell hg 1
 have y2 : (w.alloc (.cells #[.int .i64 v, .slice A st.length ca, .slice B tr.length cb] 25)).cell? ⟨w.heap.size, 2, none⟩ = some (.slice B tr.length cb) := blk_cell hg 2
 generalize hG : fewP st tr = G
 have HG : Hid ((decide (st.length ≤ 40) && decide (tr.length ≤ 60) && st.all fewS && tr.all fewT) = G) := Lib.hid hG
 clear h hb0 hg hG
 go_enter Tryz.func16, Tryz.ntmps16
 by_cases c1 : st.length ≤ 40
 rotate_left
 ·have d1 : decide ((st.length : Int) > 40) = true := decide_eq_true (by omega)
  have d1' : decide (40 < st.length) = true := decide_eq_true (by omega)
  have HR : Hid (false = G) := Lib.hid (by rw [← HG.out, decide_eq_false c1]; rfl)
  clear c1 HG
  go_wp2_with fail
  go_ret
  exact ⟨by rw [← HR.out]; rfl, HB0.out⟩
 by_cases c2 : tr.length ≤ 60
 rotate_left
 ·have d1 : decide ((st.length : Int) > 40) = false := decide_eq_false (by omega)
  have d1' : decide (40 < st.length) = false := decide_eq_false (by omega)
  have d2 : decide ((tr.length : Int) > 60) = true := decide_eq_true (by omega)
  have d2' : decide (60 < tr.length) = true := decide_eq_true (by omega)
  have HR : Hid (false = G) := Lib.hid (by rw [← HG.out, decide_eq_false c2, Bool.and_false]; rfl)
  clear c1 c2 HG
  go_wp2_with fail
  go_ret
  exact ⟨by rw [← HR.out]; rfl, HB0.out⟩
 have d1 : decide ((st.length : Int) > 40) = false := decide_eq_false (by omega)
 have d1' : decide (40 < st.length) = false := decide_eq_false (by omega)
 have d2 : decide ((tr.length : Int) > 60) = false := decide_eq_false (by omega)
 have d2' : decide (60 < tr.length) = false := decide_eq_false (by omega)
 have HG2 : Hid ((st.all fewS && tr.all fewT) = G) := Lib.hid (by rw [← HG.out, decide_eq_true c1, decide_eq_true c2]; rfl)
 clear HG
 go_wp2_with fail
 generalize w.alloc (.cells #[.int .i64 v, .slice A st.length ca, .slice B tr.length cb] 25) = w1 at *
 go_loopw [3] (fun i wr => ∃ q : Nat, i = .int .i64 q ∧ q ≤ st.length ∧ Hid (((st.drop q).all fewS && tr.all fewT) = G) ∧ wr = w1) (fun i _ => st.length - (intOf i).toNat)
 case atStart => exact ⟨0, rfl, Nat.zero_le _, Lib.hid (by rw [List.drop_zero]; exact HG2.out), rfl⟩
 case round =>
  clear HG2 d1 d1' d2 d2'
  obtain ⟨q, rfl, hq, HE, rfl⟩ := hrel
  by_cases hlt : q < st.length
  ·obtain ⟨ad, A2, c2, A3, c3, A4, c4, rfl, q0, q1, q2, q3, q4, l2, g2, l3, g3, l4, g4⟩ := PAll.at_T93 HM.out.cs (q : Int) (by omega) (by omega)
   rw [Int.toNat_natCast] at q0 q1 q2 q3 q4
   have p1 : ((q : Int) < (st.length : Int)) = True := eq_true (by omega)
   have HE2 := HE.out
   rw [List.drop_eq_getElem_cons hlt, List.all_cons, ← rdSt_eq st q hlt] at HE2
   unfold fewS at HE2
   have HG3 := Lib.hid g3
   have HG4 := Lib.hid g4
   have hl3 := g3.2.1
   have hl4 := g4.2.1
   clear HE g2 g3 g4 l2 l3 l4
   generalize (PAll.rd_T93 st (q : Int)).f2 = f2 at *
   generalize (PAll.rd_T93 st (q : Int)).f3 = f3 at *
   generalize (PAll.rd_T93 st (q : Int)).f4 = f4 at *
   go_wp2_with fail
   refine (fewA_any A3 c3 f3 wr HG3.out hl3).mono ?_
   rintro e w2 ⟨rfl, h2⟩
   rw [h2]
   clear h2
   go_wp2_with fail
   refine (fewA_any A4 c4 f4 wr HG4.out hl4).mono ?_
   rintro e w2 ⟨rfl, h2⟩
   rw [h2]
   clear h2
   have hcase : (fewAP f3 = false) ∨ (fewAP f3 = true ∧ fewAP f4 = false) ∨ (fewAP f3 = true ∧ fewAP f4 = true ∧ ¬ f2.length ≤ 20) ∨ (fewAP f3 = true ∧ fewAP f4 = true ∧ f2.length ≤ 20) := by
    cases fewAP f3 <;> cases fewAP f4 <;> by_cases e : f2.length ≤ 20 <;> simp [e]
   rcases hcase with a1 | ⟨a1, a2⟩ | ⟨a1, a2, a3⟩ | ⟨a1, a2, a3⟩
   ·have HR : Hid (false = G) := Lib.hid (by rw [← HE2, a1]; rfl)
    rw [a1]
    clear HE2 a1
    go_wp2_with fail
    go_ret
    exact ⟨by rw [← HR.out]; rfl, HB0.out⟩
   ·have HR : Hid (false = G) := Lib.hid (by rw [← HE2, a2, Bool.and_false]; rfl)
    rw [a1, a2]
    clear HE2 a1 a2
    go_wp2_with fail
    go_ret
    exact ⟨by rw [← HR.out]; rfl, HB0.out⟩
   ·have HR : Hid (false = G) := Lib.hid (by rw [← HE2, decide_eq_false a3, Bool.and_false]; rfl)
    have d3 : decide ((f2.length : Int) > 20) = true := decide_eq_true (by omega)
    have d3' : decide (20 < f2.length) = true := decide_eq_true (by omega)
    rw [a1, a2]
    clear HE2 a1 a2 a3
    go_wp2_with fail
    go_ret
    exact ⟨by rw [← HR.out]; rfl, HB0.out⟩
   ·have HR : Hid (((st.drop (q + 1)).all fewS && tr.all fewT) = G) := Lib.hid (by rw [← HE2, a1, a2, decide_eq_true a3]; rfl)
    have d3 : decide ((f2.length : Int) > 20) = false := decide_eq_false (by omega)
    have d3' : decide (20 < f2.length) = false := decide_eq_false (by omega)
    rw [a1, a2]
    clear HE2 a1 a2 a3
    go_wp2_with fail
    go_roundw
    case rel => exact ⟨q + 1, by go_num, by omega, HR, by trivial⟩
    case measure => simp [intOf]; omega
  ·obtain rfl : q = st.length := by omega
   have HG2 : Hid (tr.all fewT = G) := Lib.hid (by rw [← HE.out, List.drop_length]; rfl)
   have p1 : ((st.length : Int) < (st.length : Int)) = False := eq_false (by omega)
   clear HE
   go_wp2_with fail
   go_loopw [6] (fun i wz => ∃ q : Nat, i = .int .i64 q ∧ q ≤ tr.length ∧ Hid ((tr.drop q).all fewT = G) ∧ wz = wr) (fun i _ => tr.length - (intOf i).toNat)
   case atStart => exact ⟨0, rfl, Nat.zero_le _, Lib.hid (by rw [List.drop_zero]; exact HG2.out), rfl⟩
   case round =>
    clear HG2 p1
    obtain ⟨q, rfl, hq, HE, rfl⟩ := hrel
    by_cases hlt : q < tr.length
    ·obtain ⟨ad, A3, c3, A5, c5, rfl, q0, q1, q2, q3, q4, q5, l3, g3, l5, g5⟩ := PAll.at_T46 HM.out.ct (q : Int) (by omega) (by omega)
     rw [Int.toNat_natCast] at q0 q1 q2 q3 q4 q5
     have p1 : ((q : Int) < (tr.length : Int)) = True := eq_true (by omega)
     have HE2 := HE.out
     rw [List.drop_eq_getElem_cons hlt, List.all_cons, ← rdTr_eq tr q hlt] at HE2
     unfold fewT at HE2
     have HG5 := Lib.hid g5
     have hl5 := g5.2.1
     clear HE g3 g5 l3 l5
     generalize (PAll.rd_T46 tr (q : Int)).f2 = f2 at *
     generalize (PAll.rd_T46 tr (q : Int)).f3 = f3 at *
     generalize (PAll.rd_T46 tr (q : Int)).f5 = f5 at *
     go_wp2_with fail
     refine (fewA_any A5 c5 f5 _ HG5.out hl5).mono ?_
     rintro e w2 ⟨rfl, h2⟩
     rw [h2]
     clear h2
     have hcase : (fewAP f5 = false) ∨ (fewAP f5 = true ∧ ¬ f3.length ≤ 20) ∨ (fewAP f5 = true ∧ f3.length ≤ 20 ∧ ¬ f2.size ≤ 500) ∨ (fewAP f5 = true ∧ f3.length ≤ 20 ∧ f2.size ≤ 500) := by
      cases fewAP f5 <;> by_cases e : f3.length ≤ 20 <;> by_cases e' : f2.size ≤ 500 <;> simp [e, e']
     rcases hcase with a1 | ⟨a1, a2⟩ | ⟨a1, a2, a3⟩ | ⟨a1, a2, a3⟩
     ·have HR : Hid (false = G) := Lib.hid (by rw [← HE2, a1]; rfl)
      rw [a1]
      clear HE2 a1
      go_wp2_with fail
      go_ret
      exact ⟨by rw [← HR.out]; rfl, HB0.out⟩
     ·have HR : Hid (false = G) := Lib.hid (by rw [← HE2, decide_eq_false a2, Bool.and_false]; rfl)
      have d3 : decide ((f3.length : Int) > 20) = true := decide_eq_true (by omega)
      have d3' : decide (20 < f3.length) = true := decide_eq_true (by omega)
      rw [a1]
      clear HE2 a1 a2
      go_wp2_with fail
      go_ret
      exact ⟨by rw [← HR.out]; rfl, HB0.out⟩
     ·have HR : Hid (false = G) := Lib.hid (by rw [← HE2, decide_eq_false a3, Bool.and_false]; rfl)
      have d3 : decide ((f3.length : Int) > 20) = false := decide_eq_false (by omega)
      have d3' : decide (20 < f3.length) = false := decide_eq_false (by omega)
      have d4 : decide ((f2.size : Int) > 500) = true := decide_eq_true (by omega)
      have d4' : decide (500 < f2.size) = true := decide_eq_true (by omega)
      rw [a1]
      clear HE2 a1 a2 a3
      go_wp2_with fail
      go_ret
      exact ⟨by rw [← HR.out]; rfl, HB0.out⟩
     ·have HR : Hid ((tr.drop (q + 1)).all fewT = G) := Lib.hid (by rw [← HE2, a1, decide_eq_true a2, decide_eq_true a3]; rfl)
      have d3 : decide ((f3.length : Int) > 20) = false := decide_eq_false (by omega)
      have d3' : decide (20 < f3.length) = false := decide_eq_false (by omega)
      have d4 : decide ((f2.size : Int) > 500) = false := decide_eq_false (by omega)
      have d4' : decide (500 < f2.size) = false := decide_eq_false (by omega)
      rw [a1]
      clear HE2 a1 a2 a3
      go_wp2_with fail
      go_roundw
      case rel => exact ⟨q + 1, by go_num, by omega, HR, by trivial⟩
      case measure => simp [intOf]; omega
    ·obtain rfl : q = tr.length := by omega
     have HR : Hid (true = G) := Lib.hid (by rw [← HE.out, List.drop_length]; rfl)
     have p1 : ((tr.length : Int) < (tr.length : Int)) = False := eq_false (by omega)
     clear HE
     go_wp2_with fail
     go_ret
     exact ⟨by rw [← HR.out]; rfl, HB0.out⟩
end
end Go.Proofs.YtcjlpkegkehghaaGreatDoor
end
section
namespace Go.Proofs.YtcjlpkegkehghaaGreatDoor
open Go.RowKit Go.Proofs.YtcjlpkegkehghaaGreatDoorW.PrintWords
def RAct : Rep (Int × Int × Int × ByteArray × Unit) := (Rep.int .i64).pair ((Rep.int .i64).pair ((Rep.int .i64).pair (Rep.str.pair Rep.unit)))
theorem RAct.reads : Reads Tryz.prog 174 RAct :=
 reads_struct Tryz.underlying174 (fields_cons rfl (reads_int Tryz.underlying3 (by kernel_rfl)) (fields_cons rfl (reads_int Tryz.underlying3 (by kernel_rfl)) (fields_cons rfl (reads_int Tryz.underlying3 (by kernel_rfl)) (fields_cons rfl (reads_str Tryz.underlying9 (by kernel_rfl)) (fields_nil _ _))))) (by kernel_rfl)
end Go.Proofs.YtcjlpkegkehghaaGreatDoor
end
section
namespace Go.Proofs.YtcjlpkegkehghaaGreatDoor
open Go.RowKit Go.Proofs.YtcjlpkegkehghaaGreatDoorW.PrintWords
def RepK {α β : Type} (R : Rep α) (d : Kd β) (f : α → β) : Prop := ∀ F w cs x, R.ok F w cs x → d.K w (f x) cs
theorem repK_int (k : IntKind) : RepK (Rep.int k) (Kd.int k) id := fun F w cs x h => h.1
theorem repK_slice {α β : Type} {R : Rep α} {d : Kd β} {f : α → β} (e : Nat) (h : RepK R d f) (hs : R.size = d.sz) : RepK R.slice (Kd.slice e d) (List.map f) := by
 intro F w cs xs hx
 rcases hx with ⟨a, cap, rfl, rfl⟩ | ⟨b, off, cap, rfl, hF, hlt, hne, hl, hcap, hel⟩
 ·exact ⟨a, cap, rfl, Nat.zero_le _, ⟨rfl, by simp, fun h => by simp at h⟩⟩
 ·unfold maxLen at hcap
  refine ⟨some ⟨b, off, none⟩, cap, by rw [List.length_map], by rw [List.length_map]; exact hl, ⟨rfl, by rw [List.length_map]; omega, fun _ => ⟨_, rfl, ?_⟩⟩⟩
  intro j p hj
  rw [List.getElem?_map] at hj
  obtain ⟨t, ht, rfl⟩ := Option.map_eq_some_iff.1 hj
  obtain ⟨hjl, rfl⟩ := List.getElem?_eq_some_iff.1 ht
  obtain ⟨c, hc, hcell, hok⟩ := hel j hjl
  refine ⟨c, hc.trans hs, h _ _ _ _ hok, ?_⟩
  intro i u hi
  obtain ⟨hil, rfl⟩ := List.getElem?_eq_some_iff.1 hi
  rw [add_at, ← hs, ← Nat.add_assoc]
  exact hcell i hil
end Go.Proofs.YtcjlpkegkehghaaGreatDoor
end
section
namespace Go.Proofs.YtcjlpkegkehghaaGreatDoor
open Go.RowKit Go.Proofs.YtcjlpkegkehghaaGreatDoorW.PrintWords
open PX (T V)
theorem few_of {st : List Sta} {tr : List Tra} (h : fewP st tr = true) : FewC st tr ∧ st.length ≤ 40 ∧ tr.length ≤ 60 := by
 simp only [fewP, Bool.and_eq_true, decide_eq_true_eq, List.all_eq_true] at h
 obtain ⟨⟨⟨h1, h2⟩, h3⟩, h4⟩ := h
 refine ⟨⟨fun x hx => ?_, fun x hx => ?_⟩, h1, h2⟩
 ·have := h3 x hx
  simp only [fewS, fewAP, Bool.and_eq_true, decide_eq_true_eq, List.all_eq_true] at this
  obtain ⟨⟨⟨a1, a2⟩, b1, b2⟩, _⟩ := this
  refine ⟨by omega, by omega, fun a ha => ?_⟩
  rcases List.mem_append.1 ha with ha | ha
  ·have := a1 a ha; omega
  ·have := b1 a ha; omega
 ·have := h4 x hx
  simp only [fewT, fewAP, Bool.and_eq_true, decide_eq_true_eq, List.all_eq_true] at this
  obtain ⟨⟨⟨a1, a2⟩, _⟩, c1⟩ := this
  exact ⟨by omega, fun a ha => by have := a1 a ha; omega⟩
abbrev ActT := Int × Int × Int × ByteArray × Unit
abbrev StaT := Int × Int × List Int × List ActT × List ActT × Unit
abbrev TraT := Int × Int × ByteArray × List Int × Bool × List ActT × Unit
def RSta : Rep StaT := (Rep.int .i64).pair ((Rep.int .i64).pair ((Rep.int .i64).slice.pair (RAct.slice.pair (RAct.slice.pair Rep.unit))))
def RTra : Rep TraT := (Rep.int .i64).pair ((Rep.int .i64).pair (Rep.str.pair ((Rep.int .i64).slice.pair (Rep.bool.pair (RAct.slice.pair Rep.unit)))))
def RChart : Rep (Int × List StaT × List TraT × Unit) := (Rep.int .i64).pair (RSta.slice.pair (RTra.slice.pair Rep.unit))
theorem ints_reads : Reads Tryz.prog 35 (Rep.int .i64).slice := reads_slice Tryz.underlying35 (by kernel_rfl) (reads_int Tryz.underlying3 (by kernel_rfl)) (by decide)
theorem acts_reads : Reads Tryz.prog 44 RAct.slice := reads_slice Tryz.underlying44 (by kernel_rfl) RAct.reads (by decide)
theorem RSta.reads : Reads Tryz.prog 93 RSta :=
 reads_struct Tryz.underlying93 (fields_cons rfl (reads_int Tryz.underlying3 (by kernel_rfl)) (fields_cons rfl (reads_int Tryz.underlying3 (by kernel_rfl)) (fields_cons rfl ints_reads (fields_cons rfl acts_reads (fields_cons rfl acts_reads (fields_nil _ _)))))) (by kernel_rfl)
theorem RTra.reads : Reads Tryz.prog 46 RTra :=
 reads_struct Tryz.underlying46 (fields_cons rfl (reads_int Tryz.underlying3 (by kernel_rfl)) (fields_cons rfl (reads_int Tryz.underlying3 (by kernel_rfl)) (fields_cons rfl (reads_str Tryz.underlying9 (by kernel_rfl)) (fields_cons rfl ints_reads (fields_cons rfl (reads_bool Tryz.underlying4 (by kernel_rfl)) (fields_cons rfl acts_reads (fields_nil _ _))))))) (by kernel_rfl)
theorem RChart.reads : Reads Tryz.prog 25 RChart :=
 reads_struct Tryz.underlying25 (fields_cons rfl (reads_int Tryz.underlying3 (by kernel_rfl)) (fields_cons rfl (reads_slice Tryz.underlying22 (by kernel_rfl) RSta.reads (by decide)) (fields_cons rfl (reads_slice Tryz.underlying23 (by kernel_rfl) RTra.reads (by decide)) (fields_nil _ _)))) (by kernel_rfl)
def acOf (t : ActT) : Ac := ⟨t.1, t.2.1, t.2.2.1, t.2.2.2.1⟩
def staOf (t : StaT) : Sta := ⟨t.1, t.2.1, t.2.2.1.map id, t.2.2.2.1.map acOf, t.2.2.2.2.1.map acOf⟩
def traOf (t : TraT) : Tra := ⟨t.1, t.2.1, t.2.2.1, t.2.2.2.1.map id, t.2.2.2.2.1, t.2.2.2.2.2.1.map acOf⟩
theorem repK_act : RepK RAct PAll.k174 acOf := by
 intro F w cs x h
 obtain ⟨c1, d1, rfl, _, ⟨rfl, _⟩, c2, d2, rfl, _, ⟨rfl, _⟩, c3, d3, rfl, _, ⟨rfl, _⟩, c4, d4, rfl, _, ⟨rfl, _⟩, rfl⟩ := h
 exact PAll.k174_mk w (acOf x)
theorem repK_sta : RepK RSta PAll.k93 staOf := by
 intro F w cs x h
 obtain ⟨c1, d1, rfl, _, ⟨rfl, _⟩, c2, d2, rfl, _, ⟨rfl, _⟩, c3, d3, rfl, _, h3, c4, d4, rfl, _, h4, c5, d5, rfl, _, h5, rfl⟩ := h
 obtain ⟨A2, n2, rfl, l2, g2⟩ := repK_slice 3 (repK_int .i64) rfl _ _ _ _ h3
 obtain ⟨A3, n3, rfl, l3, g3⟩ := repK_slice 174 repK_act rfl _ _ _ _ h4
 obtain ⟨A4, n4, rfl, l4, g4⟩ := repK_slice 174 repK_act rfl _ _ _ _ h5
 exact PAll.k93_mk w (staOf x) (c2 := n2) l2 g2 (c3 := n3) l3 g3 (c4 := n4) l4 g4
theorem repK_tra : RepK RTra PAll.k46 traOf := by
 intro F w cs x h
 obtain ⟨c1, d1, rfl, _, ⟨rfl, _⟩, c2, d2, rfl, _, ⟨rfl, _⟩, c3, d3, rfl, _, ⟨rfl, _⟩, c4, d4, rfl, _, h4, c5, d5, rfl, _, rfl, c6, d6, rfl, _, h6, rfl⟩ := h
 obtain ⟨A3, n3, rfl, l3, g3⟩ := repK_slice 3 (repK_int .i64) rfl _ _ _ _ h4
 obtain ⟨A5, n5, rfl, l5, g5⟩ := repK_slice 174 repK_act rfl _ _ _ _ h6
 exact PAll.k46_mk w (traOf x) (c3 := n3) l3 g3 (c5 := n5) l5 g5
theorem chartArg {w : World} {cs : Array Value} {x : Int × List StaT × List TraT × Unit} (h : RChart.ok (fun b => b < w.heap.size) w cs.toList x) :
  ∃ A ca B cb, ∃ st : List Sta, ∃ tr : List Tra, Value.agg cs = ckV x.1 A B st.length tr.length ca cb ∧ ChM w A ca st B cb tr := by
 obtain ⟨c1, d1, he, _, ⟨rfl, _⟩, c2, d2, rfl, _, h2, c3, d3, rfl, _, h3, rfl⟩ := h
 obtain ⟨A, n, rfl, l, g⟩ := repK_slice 93 repK_sta rfl _ _ _ _ h2
 obtain ⟨B, m, rfl, l', g'⟩ := repK_slice 46 repK_tra rfl _ _ _ _ h3
 refine ⟨A, n, B, m, _, _, ?_, ⟨g, l, g', l'⟩⟩
 have : cs = #[.int .i64 x.1, .slice A (x.2.1.map staOf).length n, .slice B (x.2.2.1.map traOf).length m] := by
  apply Array.ext'
  rw [he]; rfl
 rw [this]
end Go.Proofs.YtcjlpkegkehghaaGreatDoor
end
section
namespace Go.Proofs.YtcjlpkegkehghaaGreatDoor
open Go.RowKit Go.Proofs.YtcjlpkegkehghaaGreatDoorW.PrintWords
open PX (T V)
theorem chk_none {v : Int} {st : List Sta} {tr : List Tra} (h : chkP v st tr = .none) : (0 ≤ v ∧ v ≤ 8 ∧ 1 ≤ st.length ∧ st.length ≤ 24 ∧ tr.length ≤ 40) ∧ (∀ j : Int, 0 ≤ j → j < (st.length : Int) → stateP v st j = 0) ∧ ∀ j : Int, 0 ≤ j → j < (tr.length : Int) → transP v st (PAll.rd_T46 tr j) = 0 := by
 unfold chkP at h
 split at h
 ·cases h
 ·rename_i hb
  refine ⟨by omega, ?_⟩
  cases h1 : findBad (stateP v st) st.length 0 with
  | some x => rw [h1] at h; cases h
  | none =>
   rw [h1] at h
   simp only at h
   cases h2 : findBad (fun i => transP v st (PAll.rd_T46 tr i)) tr.length 0 with
   | some x => rw [h2] at h; cases h
   | none =>
    have a1 := (findBad_none _ _ _).1 h1
    have a2 := (findBad_none _ _ _).1 h2
    exact ⟨fun j h1 h2 => a1 j h1 (by omega), fun j h1 h2 => a2 j h1 (by omega)⟩
end Go.Proofs.YtcjlpkegkehghaaGreatDoor
end
section
namespace Go.Proofs.YtcjlpkegkehghaaGreatDoor
open Go.RowKit Go.Proofs.YtcjlpkegkehghaaGreatDoorW.PrintWords
open PX (T V)
section
variable {ops : Array Oper} {rest : List Oper} {o : Oper} {a : Act} {Q : Exit → Act → World → Prop}
theorem inn_append {W : World} (hgd : o.guard = none) (s x : Operand)
  (ho : o.op = .call { callee := .builtin .append, args := #[s, x], argTypes := #[35, 35] })
  (B : Nat) (v : Value) (xs : List Int) (p : Int) (hs : a.eval s = v) (N : Nat) (hx : a.eval x = .slice (some ⟨N, 0, none⟩) 1 1) (hN : N = W.heap.size)
  (HO : InnR W B v xs) (hB : B ≤ W.heap.size) (hl : xs.length < 1000000)
  (h : ∀ v1 w1, InnR w1 B v1 (xs ++ [p]) → Below B W w1 → W.grownBy w1 v.ownBlock → wpList Tryz.prog ops Q rest (a.put o.dst v1) w1) :
  wpList Tryz.prog ops Q (o :: rest) a (W.alloc (.cells #[.int .i64 p] 3)) := by
 subst hN
 refine Kd.R_append (Kd.int .i64) (w0 := W) B hgd s x 35 3 (.int .i64 0) 8 ho Tryz.underlying35 (by kernel_rfl) rfl (by decide) (by omega) v xs p [.int .i64 p]
  (fun _ => True) (fun _ => False) hs hx rfl (fun _ hk => hk.elim) (fun _ _ => trivial) HO (Below.refl _ _) hB (by omega) ?_
 intro v1 w1 h1 h2 h3 h4
 exact h v1 w1 h1 h2 h3
theorem inn_step {W : World} {K : Act → World → Prop} {E : Prop} (hgd : o.guard = none) (s x : Operand)
  (ho : o.op = .call { callee := .builtin .append, args := #[s, x], argTypes := #[35, 35] })
  (B : Nat) (v : Value) (xs : List Int) (p : Int) (hs : a.eval s = v) (N : Nat) (hx : a.eval x = .slice (some ⟨N, 0, none⟩) 1 1) (hN : N = W.heap.size)
  (HO : InnR W B v xs) (hB : B ≤ W.heap.size) (hl : xs.length < 1000000)
  (h : ∀ v1 w1, InnR w1 B v1 (xs ++ [p]) → Below B W w1 → W.grownBy w1 v.ownBlock → K (a.put o.dst v1) w1) :
  if Region.wanted o (yielded ops a.tmps) = true then Oper.wp Tryz.prog o a (W.alloc (.cells #[.int .i64 p] 3)) K Q else E := by
 have hw : Region.wanted o (yielded ops a.tmps) = true := by simp [Region.wanted, hgd]
 subst hN
 have := Kd.R_append_step (ops := ops) (Q := Q) (Kc := K) (Kd.int .i64) (w0 := W) B hw s x 35 3 (.int .i64 0) 8 ho Tryz.underlying35 (by kernel_rfl) rfl (by decide) (by omega) v xs p [.int .i64 p]
  (fun _ => True) (fun _ => False) hs hx rfl (fun _ hk => hk.elim) (fun _ _ => trivial) HO (Below.refl _ _) hB (by omega) (fun v1 w1 h1 h2 h3 h4 => h v1 w1 h1 h2 h3)
 rw [if_pos hw] at this ⊢
 exact this
end
end Go.Proofs.YtcjlpkegkehghaaGreatDoor
end
section
namespace Go.Proofs.YtcjlpkegkehghaaGreatDoor
open Go.RowKit Go.Proofs.YtcjlpkegkehghaaGreatDoorW.PrintWords
open PX (T V)
abbrev rdS (st : List Sta) (i : Int) : Sta := PAll.rd_T93 st i
abbrev thS (st : List Sta) (i : Int) : Prop := 0 ≤ i ∧ i < (st.length : Int)
theorem ahead_at {st : List Sta} (ha : Ahead st) {s : Int} (h : thS st s) : (rdS st s).f1 < s ∧ (0 < s → 0 ≤ (rdS st s).f1) := ⟨(ha s h.1 h.2).1, (ha s h.1 h.2).2.1⟩
def kindP (st : List Sta) (s : Int) : Int := if thS st s then (rdS st s).f0 else 0
def upF (st : List Sta) : Nat → Int → List Int
 | 0, _ => []
 | f + 1, s => if thS st s ∧ 0 ≤ (rdS st s).f1 then (rdS st s).f1 :: upF st f (rdS st s).f1 else []
def upP (st : List Sta) (s : Int) : List Int := upF st (s.toNat + 1) s
theorem upF_two {st : List Sta} (ha : Ahead st) (n : Nat) : ∀ (s : Int) (f g : Nat), s.toNat < f → s.toNat < g → s.toNat ≤ n → upF st f s = upF st g s := by
 induction n with
 | zero =>
  intro s f g hf hg hn
  cases f with
  | zero => omega
  | succ f =>
   cases g with
   | zero => omega
   | succ g =>
    simp only [upF]
    by_cases c : thS st s ∧ 0 ≤ (rdS st s).f1
    ·have := (ahead_at ha c.1).1; omega
    ·rw [if_neg c, if_neg c]
 | succ n ih =>
  intro s f g hf hg hn
  cases f with
  | zero => omega
  | succ f =>
   cases g with
   | zero => omega
   | succ g =>
    simp only [upF]
    by_cases c : thS st s ∧ 0 ≤ (rdS st s).f1
    ·have := (ahead_at ha c.1).1
     have := c.2
     have := c.1.1
     rw [if_pos c, if_pos c, ih _ f g (by omega) (by omega) (by omega)]
    ·rw [if_neg c, if_neg c]
theorem upP_eq {st : List Sta} (ha : Ahead st) (s : Int) : upP st s = if thS st s ∧ 0 ≤ (rdS st s).f1 then (rdS st s).f1 :: upP st (rdS st s).f1 else [] := by
 rw [show upP st s = if thS st s ∧ 0 ≤ (rdS st s).f1 then (rdS st s).f1 :: upF st s.toNat (rdS st s).f1 else [] from rfl]
 unfold upP
 by_cases c : thS st s ∧ 0 ≤ (rdS st s).f1
 ·have := (ahead_at ha c.1).1
  have := c.2
  have := c.1.1
  rw [if_pos c, if_pos c, upF_two ha s.toNat _ s.toNat ((rdS st s).f1.toNat + 1) (by omega) (by omega) (by omega)]
 ·rw [if_neg c, if_neg c]
theorem inC_low (st : List Sta) (s b : Int) (h : s ≤ b ∨ s ≤ 0 ∨ (st.length : Int) ≤ s) : inC st s b = false := by
 rw [inC_eq, if_neg (by omega)]
theorem up_in {st : List Sta} (ha : Ahead st) (b : Int) (n : Nat) : ∀ s : Int, s.toNat ≤ n → (upP st s).contains b = (decide (0 ≤ b) && inC st s b) := by
 have low : ∀ s : Int, ¬ (thS st s ∧ 0 ≤ (rdS st s).f1) → (upP st s).contains b = (decide (0 ≤ b) && inC st s b) := by
  intro s c
  rw [upP_eq ha, if_neg c, inC_low]
  ·simp
  ·by_cases h1 : 0 < s ∧ s < (st.length : Int)
   ·exact absurd ⟨⟨by omega, h1.2⟩, (ahead_at ha ⟨by omega, h1.2⟩).2 h1.1⟩ c
   ·omega
 induction n with
 | zero =>
  intro s hs
  by_cases c : thS st s ∧ 0 ≤ (rdS st s).f1
  ·have := (ahead_at ha c.1).1
   have := c.2
   omega
  ·exact low s c
 | succ n ih =>
  intro s hs
  by_cases c : thS st s ∧ 0 ≤ (rdS st s).f1
  ·have h1 := (ahead_at ha c.1).1
   have h2 := c.2
   have h3 := c.1.2
   rw [upP_eq ha, if_pos c, List.contains_cons, ih _ (by omega), inC_eq st s b]
   by_cases hb : s > b
   ·rw [if_pos ⟨hb, by omega, h3⟩, if_neg (by show ¬ ((rdS st s).f1 ≥ s); omega)]
    by_cases he : (rdS st s).f1 = b
    ·rw [if_pos he]
     simp [he]
     omega
    ·rw [if_neg he]
     have : (b == (rdS st s).f1) = false := by simp; omega
     rw [this, Bool.false_or]
   ·rw [if_neg (by omega), inC_low _ _ _ (by omega)]
    have : (b == (rdS st s).f1) = false := by simp; omega
    rw [this]
    simp
  ·exact low s c
theorem tin_eq {st : List Sta} (ha : Ahead st) (s b : Int) : (upP st s).contains b = (decide (0 ≤ b) && inC st s b) := up_in ha b s.toNat s (Nat.le_refl _)
theorem upF_len (st : List Sta) (f : Nat) : ∀ s : Int, (upF st f s).length ≤ f := by
 induction f with
 | zero => intro s; simp [upF]
 | succ f ih =>
  intro s
  simp only [upF]
  by_cases c : thS st s ∧ 0 ≤ (rdS st s).f1
  ·rw [if_pos c, List.length_cons]; have := ih (rdS st s).f1; omega
  ·rw [if_neg c]; simp
def TrM (w : World) (g : Nat) (v : Int) (st : List Sta) (tr : List Tra) : Prop :=
 ∃ A ca B cb, w.heap[g]? = some (.cells #[.int .i64 v, .slice A st.length ca, .slice B tr.length cb] 98 (0, 0)) ∧ ChM w A ca st B cb tr
theorem TrM.below {w w' : World} {g : Nat} {v : Int} {st : List Sta} {tr : List Tra} (h : TrM w g v st tr) (hb : Below w.heap.size w w') : TrM w' g v st tr := by
 obtain ⟨A, ca, B, cb, h1, h2⟩ := h
 exact ⟨A, ca, B, cb, (hb.block g (lt_of_block h1)).trans h1, h2.below hb⟩
section
variable {g : Nat} {v : Int} {st : List Sta} {tr : List Tra} {w : World}
theorem tthere_any (h : TrM w g v st tr) (s : Int) : Calls Tryz.prog 77 #[.pointer (some ⟨g, 0, none⟩), .int .i64 s] w fun e w' => e = .returned (.bool (decide (thS st s))) ∧ Below w.heap.size w w' := by
 obtain ⟨A, ca, B, cb, h1, h2⟩ := h
 have y1 : w.cell? ⟨g, 1, none⟩ = some (.slice A st.length ca) := blk_cell h1 1
 have y0 : w.cell? ⟨g, 0, none⟩ = some (.int .i64 v) := blk_cell h1 0
 clear h1 h2
 by_cases c : 0 ≤ s
 ·have d1 : decide (s ≥ 0) = true := decide_eq_true c
  have d1' : decide (0 ≤ s) = true := decide_eq_true c
  by_cases c2 : s < (st.length : Int)
  ·have d2 : decide (s < (st.length : Int)) = true := decide_eq_true c2
   have HR : Hid (decide (thS st s) = true) := Lib.hid (decide_eq_true ⟨c, c2⟩)
   clear c c2
   go_enter Tryz.func77, Tryz.ntmps77
   go_wp2_with fail
   go_ret
   exact ⟨by rw [HR.out]; rfl, Below.refl _ _⟩
  ·have d2 : decide (s < (st.length : Int)) = false := decide_eq_false c2
   have HR : Hid (decide (thS st s) = false) := Lib.hid (decide_eq_false (fun h => c2 h.2))
   clear c c2
   go_enter Tryz.func77, Tryz.ntmps77
   go_wp2_with fail
   go_ret
   exact ⟨by rw [HR.out]; rfl, Below.refl _ _⟩
 ·have d1 : decide (s ≥ 0) = false := decide_eq_false c
  have d1' : decide (0 ≤ s) = false := decide_eq_false c
  have HR : Hid (decide (thS st s) = false) := Lib.hid (decide_eq_false (fun h => c h.1))
  clear c
  go_enter Tryz.func77, Tryz.ntmps77
  go_wp2_with fail
  go_ret
  exact ⟨by rw [HR.out]; rfl, Below.refl _ _⟩
theorem trm_at (h : TrM w g v st tr) {s : Int} (hs : thS st s) : ∃ ad ca, w.cell? ⟨g, 0, none⟩ = some (.int .i64 v) ∧ w.cell? ⟨g, 1, none⟩ = some (.slice (some ad) st.length ca) ∧ w.cell? (ad.add (s.toNat * 5)) = some (.int .i64 (rdS st s).f0) ∧ w.cell? ⟨(ad.add (s.toNat * 5)).block, (ad.add (s.toNat * 5)).off + 1, none⟩ = some (.int .i64 (rdS st s).f1) := by
 obtain ⟨A, ca, B, cb, h1, h2⟩ := h
 obtain ⟨ad, A2, c2, A3, c3, A4, c4, rfl, q0, q1, _⟩ := PAll.at_T93 h2.cs s hs.1 hs.2
 exact ⟨ad, ca, blk_cell h1 0, blk_cell h1 1, q0, q1⟩
theorem tkind_any (h : TrM w g v st tr) (s : Int) : Calls Tryz.prog 78 #[.pointer (some ⟨g, 0, none⟩), .int .i64 s] w fun e w' => e = .returned (.int .i64 (kindP st s)) ∧ Below w.heap.size w w' := by
 have H := Lib.hid h
 by_cases c : thS st s
 ·have HR : Hid (kindP st s = (rdS st s).f0) := Lib.hid (if_pos c)
  have HC := Lib.hid c
  have d1 : decide (thS st s) = true := decide_eq_true c
  have D1 := Lib.hid d1
  have p1 : (0 ≤ s) = True := eq_true c.1
  have p2 : (s < (st.length : Int)) = True := eq_true c.2
  clear h d1 c
  go_enter Tryz.func78, Tryz.ntmps78
  go_wp2_with fail
  refine (tthere_any H.out s).mono ?_
  rw [D1.out]
  rintro e w1 ⟨rfl, hb1⟩
  obtain ⟨ad, ca, y0, y1, q0, q1⟩ := trm_at (H.out.below hb1) HC.out
  have HB := Lib.hid hb1
  clear hb1
  go_wp2_with fail
  go_ret
  exact ⟨by rw [HR.out]; rfl, HB.out⟩
 ·have HR : Hid (kindP st s = 0) := Lib.hid (if_neg c)
  have D1 : Hid (decide (thS st s) = false) := Lib.hid (decide_eq_false c)
  clear h c
  go_enter Tryz.func78, Tryz.ntmps78
  go_wp2_with fail
  refine (tthere_any H.out s).mono ?_
  rw [D1.out]
  rintro e w1 ⟨rfl, hb1⟩
  go_wp2_with fail
  go_ret
  exact ⟨by rw [HR.out]; rfl, hb1⟩
theorem tup_any (h : TrM w g v st tr) (ha : Ahead st) (hl : st.length ≤ 1000) (s : Int) : Calls Tryz.prog 29 #[.pointer (some ⟨g, 0, none⟩), .int .i64 s] w fun e w' => ∃ u : Value, e = .returned u ∧ InnR w' w.heap.size u (upP st s) ∧ Below w.heap.size w w' := by
 have H := Lib.hid h
 have HA := Lib.hid ha
 have hend : ∀ (q : Int), ¬ (thS st q ∧ 0 ≤ (rdS st q).f1) → upP st q = [] := fun q c => by rw [upP_eq ha, if_neg c]
 have HE := Lib.hid hend
 clear h ha hend
 go_enter Tryz.func29, Tryz.ntmps29
 go_wp2_with fail
 go_loopw [1, 5] (fun x u wr => ∃ (q : Int) (acc : List Int), x = .int .i64 q ∧ Hid (upP st s = acc ++ upP st q) ∧ Hid (InnR wr w.heap.size u acc) ∧ Hid (Below w.heap.size w wr) ∧ Hid (acc = [] ∨ acc.length + q.toNat ≤ st.length)) (fun x _ _ => (intOf x).toNat)
 case atStart => exact ⟨s, [], rfl, Lib.hid (by simp), Lib.hid (Kd.R_nil _ _ _ _ _), Lib.hid (Below.refl _ _), Lib.hid (.inl rfl)⟩
 case round =>
  obtain ⟨q, acc, rfl, HU, HO, HB, HL⟩ := hrel
  by_cases c : thS st q
  ·have D1 : Hid (decide (thS st q) = true) := Lib.hid (decide_eq_true c)
   have HC := Lib.hid c
   have p1 : (0 ≤ q) = True := eq_true c.1
   have p2 : (q < (st.length : Int)) = True := eq_true c.2
   have hac : acc.length ≤ st.length := HL.out.elim (fun h => by rw [h]; simp) (fun h => by omega)
   by_cases c2 : 0 ≤ (rdS st q).f1
   ·have d2 : decide ((rdS st q).f1 ≥ 0) = true := decide_eq_true c2
    have d2' : decide (0 ≤ (rdS st q).f1) = true := decide_eq_true c2
    have hlt := (ahead_at HA.out c).1
    have HU2 : Hid (upP st s = (acc ++ [(rdS st q).f1]) ++ upP st (rdS st q).f1) := Lib.hid (by rw [HU.out, upP_eq HA.out q, if_pos ⟨c, c2⟩]; simp)
    have HL2 : Hid (acc ++ [(rdS st q).f1] = [] ∨ (acc ++ [(rdS st q).f1]).length + (rdS st q).f1.toNat ≤ st.length) := Lib.hid (by
     right
     rw [List.length_append, List.length_singleton]
     have := c.1
     have := c.2
     rcases HL.out with h | h
     ·rw [h, List.length_nil]; omega
     ·omega)
    have HLt := Lib.hid (show (rdS st q).f1.toNat < q.toNat by have := c.1; omega)
    clear c c2 hlt
    go_wp2_with fail
    refine (tthere_any (H.out.below HB.out) q).mono ?_
    rw [D1.out]
    rintro e w1 ⟨rfl, hb1⟩
    have HB1 := Lib.hid (below_then HB.out HB.out.size hb1)
    have HO1 := Lib.hid (Kd.R_below HO.out hb1)
    obtain ⟨ad, ca, y0, y1, q0, q1⟩ := trm_at (H.out.below HB1.out) HC.out
    clear hb1 HB HO
    have hac2 : acc.length < 1000000 := by omega
    have hsz := HB1.out.size
    go_wp2_with (at_builtin; refine inn_append rfl (.tmp 30) (.tmp 32) rfl w.heap.size _ acc (rdS st q).f1 rfl _ rfl rfl HO1.out hsz hac2 ?_)
    intro v1 w2 h1 h2 h3
    have HB2 := Lib.hid (HB1.out.trans h2)
    have HO2 := Lib.hid h1
    go_wp2_with fail
    go_roundw
    case rel => exact ⟨(rdS st q).f1, _, rfl, HU2, HO2, HB2, HL2⟩
    case measure => have := HLt.out; simp [intOf]; omega
   ·have d2 : decide ((rdS st q).f1 ≥ 0) = false := decide_eq_false c2
    have d2' : decide (0 ≤ (rdS st q).f1) = false := decide_eq_false c2
    have HR : Hid (upP st s = acc) := Lib.hid (by rw [HU.out, HE.out q (fun h => c2 h.2)]; simp)
    clear c c2
    go_wp2_with fail
    refine (tthere_any (H.out.below HB.out) q).mono ?_
    rw [D1.out]
    rintro e w1 ⟨rfl, hb1⟩
    have HB1 := Lib.hid (below_then HB.out HB.out.size hb1)
    have HO1 := Lib.hid (Kd.R_below HO.out hb1)
    obtain ⟨ad, ca, y0, y1, q0, q1⟩ := trm_at (H.out.below HB1.out) HC.out
    clear hb1 HB HO
    go_wp2_with fail
    go_ret
    exact ⟨_, rfl, by rw [HR.out]; exact HO1.out, HB1.out⟩
  ·have D1 : Hid (decide (thS st q) = false) := Lib.hid (decide_eq_false c)
   have HR : Hid (upP st s = acc) := Lib.hid (by rw [HU.out, HE.out q (fun h => c h.1)]; simp)
   clear c
   go_wp2_with fail
   refine (tthere_any (H.out.below HB.out) q).mono ?_
   rw [D1.out]
   rintro e w1 ⟨rfl, hb1⟩
   have HB1 := Lib.hid (below_then HB.out HB.out.size hb1)
   have HO1 := Lib.hid (Kd.R_below HO.out hb1)
   clear hb1 HB HO
   go_wp2_with fail
   go_ret
   exact ⟨_, rfl, by rw [HR.out]; exact HO1.out, HB1.out⟩
end
end Go.Proofs.YtcjlpkegkehghaaGreatDoor
end
