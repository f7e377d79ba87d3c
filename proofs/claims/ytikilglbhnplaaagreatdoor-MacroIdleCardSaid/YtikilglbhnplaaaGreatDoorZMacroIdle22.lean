/- Texts of this claim, merged (Rsam, Mup, ExprArg, MidLaw, Laid5, Laid5z). -/
import Derived.OpenShut
import Derived.Test.YtikilglbhnplaaaGreatDoorRows
import Derived.LaidSub
import Derived.LaidHandle
import Derived.LaidLaws
import Derived.Lib.LaidU8
import Derived.Deep.DeepLaidRun
import Derived.Test.YtikilglbhnplaaaGreatDoorZMacroIdle19
import Derived.Test.YtikilglbhnplaaaGreatDoorZMacroIdle21
import Derived.Test.YtikilglbhnplaaaGreatDoorZMacroIdle12
import Derived.Test.YtikilglbhnplaaaGreatDoorZMacroIdle13
import Derived.Test.YtikilglbhnplaaaGreatDoorZMacroIdle17
set_option linter.unusedVariables false
set_option linter.unusedSimpArgs false
set_option maxRecDepth 100000
set_option maxHeartbeats 64000000
section
namespace Go.Proofs.YtikilglbhnplaaaGreatDoor
open Go.RowKit Go.Proofs.YtikilglbhnplaaaGreatDoorW.PrintWords
open PX (T V)
theorem u32_at {w : World} {A : Option Addr} {l : List Int} (h : (Kd.int .u32).C w A l.length l) (j : Nat) (hj : j < l.length) : ∃ ad, A = some ad ∧ w.cell? (ad.add j) = some (.int .u32 l[j]) := by
 obtain ⟨ad, hA, hc⟩ := h.2.2 (by omega)
 obtain ⟨c, h1, h2, h3⟩ := hc j l[j] (List.getElem?_eq_getElem hj)
 refine ⟨ad, hA, ?_⟩
 obtain rfl : c = [.int .u32 l[j]] := h2
 have := h3 0 _ rfl
 simpa [Kd.int, Kd.scalar] using this
abbrev runA (conf : Int) (A : Option Addr) (n c : Nat) (E : Option Addr) (ne ce : Nat) (I : Option Addr) (ni ci : Nat) (stat : Int) : Array Value := #[.int .u32 conf, .slice A n c, .slice E ne ce, .slice I ni ci, .int .i64 stat]
theorem rsame_any (w : World) (conf stat : Int) (h e i : List Int) (A1 E1 I1 A2 E2 I2 : Option Addr) (a1 e1 i1 a2 e2 i2 : Nat) (hA1 : (Kd.int .u32).C w A1 h.length h) (hA2 : (Kd.int .u32).C w A2 h.length h) (hE1 : NumsC w E1 e.length e) (hE2 : NumsC w E2 e.length e) (hI1 : NumsC w I1 i.length i) (hI2 : NumsC w I2 i.length i)
  (le1 : e.length ≤ e1) (le2 : e.length ≤ e2) (li1 : i.length ≤ i1) (li2 : i.length ≤ i2) (lh : h.length ≤ 100000) (le : e.length ≤ 100000) (li : i.length ≤ 100000) :
  Calls Tryz.prog 28 #[.agg (runA conf A1 h.length a1 E1 e.length e1 I1 i.length i1 stat), .agg (runA conf A2 h.length a2 E2 e.length e2 I2 i.length i2 stat)] w fun e w' => e = .returned (.bool true) ∧ Below w.heap.size w w' := by
 have hb0 : Below w.heap.size w ((w.alloc (.cells (runA conf A1 h.length a1 E1 e.length e1 I1 i.length i1 stat) 46)).alloc (.cells (runA conf A2 h.length a2 E2 e.length e2 I2 i.length i2 stat) 46)) := ((Below.refl _ w).alloc (Nat.le_refl _) _).alloc (by simp) _
 have hk1 := (((Below.refl _ (w.alloc (.cells (runA conf A1 h.length a1 E1 e.length e1 I1 i.length i1 stat) 46))).alloc (Nat.le_refl _) (.cells (runA conf A2 h.length a2 E2 e.length e2 I2 i.length i2 stat) 46)).block _ (lt_of_block (blk_new w (.cells (runA conf A1 h.length a1 E1 e.length e1 I1 i.length i1 stat) 46)))).trans (blk_new w (.cells (runA conf A1 h.length a1 E1 e.length e1 I1 i.length i1 stat) 46))
 have hk2 := blk_new (w.alloc (.cells (runA conf A1 h.length a1 E1 e.length e1 I1 i.length i1 stat) 46)) (.cells (runA conf A2 h.length a2 E2 e.length e2 I2 i.length i2 stat) 46)
 rw [show (w.alloc (.cells (runA conf A1 h.length a1 E1 e.length e1 I1 i.length i1 stat) 46)).heap.size = w.heap.size + 1 by simp] at hk2
 have HB0 := Lib.hid hb0
 have HK1 := Lib.hid hk1
 have HK2 := Lib.hid hk2
 have y0 := blk_cell hk1 0
 have y1 := blk_cell hk1 1
 have y4 := blk_cell hk1 4
 have z0 := blk_cell hk2 0
 have z1 := blk_cell hk2 1
 have z4 := blk_cell hk2 4
 have HA := Lib.hid (And.intro (Kd.C_below hA1 hb0) (Kd.C_below hA2 hb0))
 have HE := Lib.hid (And.intro (Kd.C_below hE1 hb0) (Kd.C_below hE2 hb0))
 have HI := Lib.hid (And.intro (Kd.C_below hI1 hb0) (Kd.C_below hI2 hb0))
 clear hb0 hk1 hk2 hA1 hA2 hE1 hE2 hI1 hI2
 go_enter Tryz.func28, Tryz.ntmps28
 go_wp2_with fail
 generalize (w.alloc (.cells (runA conf A1 h.length a1 E1 e.length e1 I1 i.length i1 stat) 46)).alloc (.cells (runA conf A2 h.length a2 E2 e.length e2 I2 i.length i2 stat) 46) = w2 at HB0 HK1 HK2 HA HE HI y0 y1 y4 z0 z1 z4 ⊢
 go_loopw [5] (fun c wr => ∃ q : Nat, c = .int .i64 q ∧ q ≤ h.length ∧ Hid (Below w2.heap.size w2 wr)) (fun c _ => h.length - (intOf c).toNat)
 case atStart => exact ⟨0, rfl, Nat.zero_le _, Lib.hid (Below.refl _ _)⟩
 case round =>
  clear y0 y1 y4 z0 z1 z4
  obtain ⟨q, rfl, hq, HB⟩ := hrel
  have hk1 := (HB.out.block _ (lt_of_block HK1.out)).trans HK1.out
  have hk2 := (HB.out.block _ (lt_of_block HK2.out)).trans HK2.out
  have y1 := blk_cell hk1 1
  have z1 := blk_cell hk2 1
  by_cases hlt : q < h.length
  ·have p1 : ((q : Int) < (h.length : Int)) = True := eq_true (by omega)
   obtain ⟨ad1, rfl, a0⟩ := u32_at (Kd.C_below HA.out.1 HB.out) q hlt
   obtain ⟨ad2, rfl, b0⟩ := u32_at (Kd.C_below HA.out.2 HB.out) q hlt
   clear hk1 hk2
   generalize h[q] = x at *
   go_wp2_with fail
   go_quiet (fail)
   go_wp2_with fail
   go_roundw
   case rel => exact ⟨q + 1, by go_num, by omega, Lib.hid (below_drewN' HB.out _)⟩
   case measure => first | (simp [intOf]; done) | (simp [intOf]; omega)
  ·obtain rfl : q = h.length := by omega
   have p1 : ((h.length : Int) < (h.length : Int)) = False := eq_false (by omega)
   have y2 := blk_cell hk1 2
   have z2 := blk_cell hk2 2
   clear hk1 hk2
   go_wp2_with fail
   refine (nums_any E1 E2 e1 e2 e (by omega) _ (Kd.C_below HE.out.1 HB.out) le1 (Kd.C_below HE.out.2 HB.out) le2).mono ?_
   rintro r w3 ⟨rfl, hb3⟩
   have HB3 := Lib.hid (below_then HB.out HB.out.size hb3)
   have hk1 := (HB3.out.block _ (lt_of_block HK1.out)).trans HK1.out
   have hk2 := (HB3.out.block _ (lt_of_block HK2.out)).trans HK2.out
   have y3 := blk_cell hk1 3
   have z3 := blk_cell hk2 3
   clear hk1 hk2 hb3 y1 z1 y2 z2
   go_wp2_with fail
   refine (ints_any I1 I2 i1 i2 i (by omega) _ (Kd.C_below HI.out.1 HB3.out) li1 (Kd.C_below HI.out.2 HB3.out) li2).mono ?_
   rintro r w4 ⟨rfl, hb4⟩
   have HB4 := Lib.hid (below_then HB3.out HB3.out.size hb4)
   clear hb4 y3 z3
   go_wp2_with fail
   go_ret
   exact ⟨rfl, HB0.out.trans (HB4.out.mono HB0.out.size)⟩
end Go.Proofs.YtikilglbhnplaaaGreatDoor
end
section
namespace Go.Proofs.YtikilglbhnplaaaGreatDoor
open Go.RowKit Go.Proofs.YtikilglbhnplaaaGreatDoorW.PrintWords
open PX (T V)
abbrev ses13 : Ses := ⟨3, [0, 0], [], [], 1, []⟩
theorem sta13 : staM 0 least2 [] = ses13 := by kernel_rfl
theorem tak13 : takM least2 [] ses13 5 = ses13 := by kernel_rfl
theorem up13 (w : World) (hw : LaidZ w) : Calls Tryz.prog 29 #[] w fun e w' => e = .returned (.bool true) ∧ Below w.heap.size w w' := by
 have k6 := eqErr
 have HW := Lib.hid hw
 clear hw
 go_enter Tryz.func29, Tryz.ntmps29
 go_wp2_with fail
 have e1 : (w.alloc (.cells #[.int .i64 1] 3)).heap.size = w.heap.size + 1 := by simp
 have k1 := blk_new w (.cells #[.int .i64 1] 3)
 have b1 : Below w.heap.size w (w.alloc (.cells #[.int .i64 1] 3)) := (Below.refl _ w).alloc (Nat.le_refl _) _
 generalize w.alloc (.cells #[.int .i64 1] 3) = w1 at e1 k1 b1 ⊢
 have k2 := blk_new w1 (.cells #[.int .i64 2, .int .i64 (-1), .slice (some ⟨w.heap.size, 0, none⟩) 1 1, .slice none 0 0, .slice none 0 0, .int .i64 1, .int .i64 0, .slice none 0 0, .slice none 0 0, .slice none 0 0] 66)
 have b2 : Below w1.heap.size w1 (w1.alloc (.cells #[.int .i64 2, .int .i64 (-1), .slice (some ⟨w.heap.size, 0, none⟩) 1 1, .slice none 0 0, .slice none 0 0, .int .i64 1, .int .i64 0, .slice none 0 0, .slice none 0 0, .slice none 0 0] 66)) := (Below.refl _ w1).alloc (Nat.le_refl _) _
 rw [e1] at k2
 generalize w1.alloc (.cells #[.int .i64 2, .int .i64 (-1), .slice (some ⟨w.heap.size, 0, none⟩) 1 1, .slice none 0 0, .slice none 0 0, .int .i64 1, .int .i64 0, .slice none 0 0, .slice none 0 0, .slice none 0 0] 66) = w2 at k2 b2 ⊢
 have c1 := (b2.block _ (by omega)).trans k1
 have HB2 := Lib.hid (below_then b1 (by omega) b2)
 have HM : Hid (ChM w2 (some ⟨w.heap.size + 1, 0, none⟩) 2 least2 none 0 []) := Lib.hid ⟨states2 (i0 := [1]) k2 (by simp) (one_new c1), Nat.le_refl _, nilC _ _, Nat.le_refl _⟩
 clear e1 k1 b1 k2 b2 c1
 refine (tnew_any 0 _ _ 2 0 least2 [] few7 w2 (HW.out.toLaid.below HB2.out) HM.out).mono ?_
 rintro e w4 ⟨⟨p, ev, rfl, h⟩, hb4⟩
 rcases h with ⟨_, g, rfl, rfl, hg, hT⟩ | ⟨h, _⟩
 rotate_left
 ·exact absurd chk2 h
 have HT := Lib.hid hT
 have HB4 := Lib.hid (below_then HB2.out HB2.out.size hb4)
 clear hT hb4 HM
 go_wp2_with fail
 refine (mstart_any (HW.out.below HB4.out) HT.out chk2 few7).mono ?_
 rw [sta13]
 rintro e w5 ⟨vh, ve, vi, vo, rfl, hh, he, hi, ho, hb5⟩
 obtain ⟨a1, b1, rfl⟩ := Kd.R_slice hh
 obtain ⟨a2, b2, rfl⟩ := Kd.R_slice he
 obtain ⟨a3, b3, rfl⟩ := Kd.R_slice hi
 obtain ⟨a4, b4, rfl⟩ := Kd.R_slice ho
 have HH := Lib.hid (Kd.R_reads' hh).2
 have HE := Lib.hid (Kd.R_reads' he).2
 have HI := Lib.hid (Kd.R_reads' hi).2
 have HB5 := Lib.hid (below_then HB4.out HB4.out.size hb5)
 have HT5 := Lib.hid (HT.out.below hb5)
 have hk5 := blk_new w5 (.cells #[.int .u32 3, .slice a1 2 b1, .slice a2 0 b2, .slice a3 0 b3, .int .i64 1] 46)
 have ha5 : Below w5.heap.size w5 (w5.alloc (.cells #[.int .u32 3, .slice a1 2 b1, .slice a2 0 b2, .slice a3 0 b3, .int .i64 1] 46)) := (Below.refl _ w5).alloc (Nat.le_refl _) _
 have HK5 := Lib.hid hk5
 have HA5 := Lib.hid ha5
 have x0 := blk_cell hk5 0
 have x1 := blk_cell hk5 1
 have x2 := blk_cell hk5 2
 have x3 := blk_cell hk5 3
 have x4 := blk_cell hk5 4
 have ht := mtake_any (HW.out.below (below_then HB5.out HB5.out.size ha5)) (HT5.out.below ha5) chk2 few7 ses13 a1 a2 a3 b1 b2 b3 (Kd.C_below HH.out.2 ha5) (Kd.C_below HE.out.2 ha5) (Kd.C_below HI.out.2 ha5) HH.out.1 HE.out.1 HI.out.1 (by decide) (by decide) (by decide) (by decide) (by decide) (by intro x hx; simp at hx; omega) 5
 rw [tak13] at ht
 have HTk := Lib.hid ht
 clear hh he hi ho hb5 hk5 ha5 ht
 go_wp2_with fail
 refine HTk.out.mono ?_
 rintro e w6 ⟨vh, ve, vi, vo, rfl, hh, he, hi, ho, hb6⟩
 obtain ⟨c1, d1, rfl⟩ := Kd.R_slice hh
 obtain ⟨c2, d2, rfl⟩ := Kd.R_slice he
 obtain ⟨c3, d3, rfl⟩ := Kd.R_slice hi
 obtain ⟨c4, d4, rfl⟩ := Kd.R_slice ho
 have hbA := below_then HA5.out HA5.out.size hb6
 have hk6 := (hb6.block _ (lt_of_block HK5.out)).trans HK5.out
 have ha6 : Below w6.heap.size w6 (w6.alloc (.cells #[.int .u32 3, .slice c1 2 d1, .slice c2 0 d2, .slice c3 0 d3, .int .i64 1] 46)) := (Below.refl _ w6).alloc (Nat.le_refl _) _
 have hz6 := (ha6.block _ (lt_of_block hk6)).trans hk6
 have hn6 := blk_new w6 (.cells #[.int .u32 3, .slice c1 2 d1, .slice c2 0 d2, .slice c3 0 d3, .int .i64 1] 46)
 have y0 := blk_cell hz6 0
 have y1 := blk_cell hz6 1
 have y2 := blk_cell hz6 2
 have y3 := blk_cell hz6 3
 have y4 := blk_cell hz6 4
 have z0 := blk_cell hn6 0
 have z1 := blk_cell hn6 1
 have z2 := blk_cell hn6 2
 have z3 := blk_cell hn6 3
 have z4 := blk_cell hn6 4
 have hbW := below_then HB5.out HB5.out.size (below_then hbA (Nat.le_trans HA5.out.size hb6.size) ha6)
 have HBW := Lib.hid hbW
 have hw5 := below_then hbA (Nat.le_trans HA5.out.size hb6.size) ha6
 have hsm := rsame_any _ 3 1 [0, 0] [] [] a1 a2 a3 c1 c2 c3 b1 b2 b3 d1 d2 d3 (Kd.C_below HH.out.2 hw5) (Kd.C_below (Kd.R_reads' hh).2.2 ha6) (Kd.C_below HE.out.2 hw5) (Kd.C_below (Kd.R_reads' he).2.2 ha6) (Kd.C_below HI.out.2 hw5) (Kd.C_below (Kd.R_reads' hi).2.2 ha6) HE.out.1 (Kd.R_reads' he).2.1 HI.out.1 (Kd.R_reads' hi).2.1 (by decide) (by decide) (by decide)
 have HSm := Lib.hid hsm
 clear hh he hi ho hb6 hbA hk6 ha6 hz6 hn6 hbW hw5 hsm x0 x1 x2 x3 x4 HTk
 go_wp2_with fail
 refine HSm.out.mono ?_
 rintro e w7 ⟨rfl, hb7⟩
 have HB7 := Lib.hid (below_then HBW.out HBW.out.size hb7)
 clear hb7
 go_wp2_with fail
 go_ret
 exact ⟨rfl, HB7.out⟩
end Go.Proofs.YtikilglbhnplaaaGreatDoor
end
section
namespace Go.Proofs.YtikilglbhnplaaaGreatDoor
open Go.RowKit Go.Proofs.YtikilglbhnplaaaGreatDoorW.PrintWords
theorem numArg {w : World} {v : Value} {xs : List Int} (h : (Rep.int .i64).slice.ok (fun b => b < w.heap.size) w [v] xs) :
  ∃ A cap, v = .slice A xs.length cap ∧ xs.length ≤ cap ∧ NumsC w A xs.length xs ∧ ∀ x ∈ xs, -9223372036854775808 ≤ x ∧ x ≤ 9223372036854775807 := by
 obtain ⟨A, cap, hv, hA⟩ := Rep.slice_open h
 by_cases h0 : 0 < xs.length
 ·obtain ⟨b, off, rfl, hb, hlt, hc1, hc2, hel⟩ := hA h0
  unfold maxLen at hc2
  have hel' : ∀ i (hi : i < xs.length), w.cell? ⟨b, off + i, none⟩ = some (.int .i64 xs[i]) ∧ (Lit.int .i64 xs[i]).wf = true := by
   intro i hi
   obtain ⟨c, hc, hcell, hok⟩ := hel i hi
   obtain ⟨rfl, hw⟩ := hok
   have := hcell 0 (by simp)
   have hs : (Rep.int .i64).size = 1 := rfl
   rw [hs, Nat.mul_one] at this
   exact ⟨this, hw⟩
  refine ⟨some ⟨b, off, none⟩, cap, hv, hc1, ⟨rfl, by omega, fun _ => ⟨⟨b, off, none⟩, rfl, ?_⟩⟩, ?_⟩
  ·intro j p hj
   obtain ⟨hjl, rfl⟩ := List.getElem?_eq_some_iff.1 hj
   refine ⟨[.int .i64 xs[j]], rfl, rfl, ?_⟩
   intro i u hi
   rw [add_at]
   match i, hi with
   | 0, hi =>
    simp at hi; subst hi
    have := (hel' j hjl).1
    simpa [Kd.int, Kd.scalar] using this
   | n + 1, hi => simp at hi
  ·intro t ht
   obtain ⟨j, hj, rfl⟩ := List.mem_iff_getElem.1 ht
   exact bounds_i64 (hel' j hj).2
 ·have hx : xs = [] := by cases xs with
   | nil => rfl
   | cons a l => simp at h0
  subst hx
  exact ⟨A, cap, hv, Nat.zero_le _, ⟨rfl, by simp, fun h => by simp at h⟩, fun t ht => by cases ht⟩
end Go.Proofs.YtikilglbhnplaaaGreatDoor
end
section
namespace Go.Proofs.YtikilglbhnplaaaGreatDoor
open Go.RowKit Go.Proofs.YtikilglbhnplaaaGreatDoorW.PrintWords Go.Proofs.YtikilglbhnplaaaGreatDoorW.PrintLast
open PX (T V)
def Kept (st : List Sta) (m : Ses) : Prop := RnI st m 30000 300000 ∧ (m.stat = 1 → m.inn.length ≤ 2000) ∧ m.conf < 4294967296
theorem sta_kept {v : Int} {st : List Sta} {tr : List Tra} (good : chkP v st tr = .none) (few : fewP st tr = true) : Kept st (staM v st tr) := by
 obtain ⟨h1, h2⟩ := fst_size (v := v) good few
 obtain ⟨a, b, c⟩ := setl_size good few 42 (fstM v st) 40 2000 h2 (h1.mono (by decide) (Nat.le_refl _)) (fun _ => h1.inn)
 exact ⟨a.mono (Nat.le_refl _) (by decide), b, c⟩
theorem tak_kept {v : Int} {st : List Sta} {tr : List Tra} (good : chkP v st tr = .none) (few : fewP st tr = true) {m : Ses} (h : Kept st m) (ev : Int) : Kept st (takM st tr m ev) := by
 obtain ⟨h1, h2, h3⟩ := h
 unfold takM
 by_cases hs : m.stat ≠ 1
 ·rw [if_pos hs]
  exact ⟨⟨h1.inn, Nat.zero_le _, h1.env, h1.ok, h1.len⟩, h2, h3⟩
 ·rw [if_neg hs]
  have hI : RnI st { m with out := [] } 2000 0 := ⟨h2 (Classical.not_not.1 hs), Nat.le_refl _, h1.env, h1.ok, h1.len⟩
  obtain ⟨a1, a2⟩ := rnd_size good few (m := { m with out := [] }) h3 hI 40 ev
  have a3 := rnd_lt (tr := tr) (chk_none good).1.2.2.2.1 { m with out := [] } h3 40 ev
  obtain ⟨a, b, c⟩ := setl_size good few 42 _ (rndM st tr { m with out := [] } 40 ev).2.1 2000 a3 a1 (fun h => Nat.le_trans (a2 h) (by decide))
  exact ⟨a.mono (Nat.le_refl _) (by decide), b, c⟩
theorem MacroIdle_walk (w : World) (hw : LaidZ w) (cs : Array Value) (x0 : Int × List StaT × List TraT × Unit) (v1 v2 : Value) (evs : List Int) (ev : Int) (h0 : RChart.ok (fun b => b < w.heap.size) w cs.toList x0) (h1 : (Rep.int .i64).slice.ok (fun b => b < w.heap.size) w [v1] evs) (h2 : (Rep.int .i64).ok (fun b => b < w.heap.size) w [v2] ev) :
  Calls Tryz.prog 6 #[.agg cs, v1, v2] w fun e w' => e = .returned (.bool true) ∧ Below w.heap.size w w' := by
 obtain ⟨A, ca, B, cb, st, tr, hcs, hM⟩ := chartArg h0
 obtain ⟨E, ecap, rfl, hec, hE, _⟩ := numArg h1
 obtain ⟨h2, _⟩ := h2
 obtain rfl : v2 = .int .i64 ev := by simpa using h2
 rw [hcs]
 generalize x0.1 = v at *
 clear h0 hcs h1 h2
 have hb0 : Below w.heap.size w (w.alloc (.cells #[.int .i64 v, .slice A st.length ca, .slice B tr.length cb] 25)) := (Below.refl _ w).alloc (Nat.le_refl _) _
 have HB0 := Lib.hid hb0
 have HWE := Lib.hid (hw.below hb0)
 have HM := Lib.hid (hM.below hb0)
 have HE := Lib.hid (Kd.C_below hE hb0)
 have HG := Lib.hid (blk_new w (.cells #[.int .i64 v, .slice A st.length ca, .slice B tr.length cb] 25))
 clear hb0 hw hM hE
 go_enter Tryz.func6, Tryz.ntmps6
 go_wp2_with fail
 generalize w.alloc (.cells #[.int .i64 v, .slice A st.length ca, .slice B tr.length cb] 25) = w0 at HB0 HWE HM HE HG ⊢
 have hfin : ∀ wr, Below w0.heap.size w0 wr → Below w.heap.size w wr := fun wr h => HB0.out.trans (h.mono HB0.out.size)
 have HFin := Lib.hid hfin
 clear hfin
 refine (up13 _ HWE.out).mono ?_
 rintro e w1 ⟨rfl, hb1⟩
 have HB1 := Lib.hid hb1
 have hk := (hb1.block _ (lt_of_block HG.out)).trans HG.out
 obtain ⟨y0, y1, y2⟩ : w1.cell? ⟨w.heap.size, 0, none⟩ = some (.int .i64 v) ∧ w1.cell? ⟨w.heap.size, 1, none⟩ = some (.slice A st.length ca) ∧ w1.cell? ⟨w.heap.size, 2, none⟩ = some (.slice B tr.length cb) := ⟨blk_cell hk 0, blk_cell hk 1, blk_cell hk 2⟩
 clear hk hb1
 go_wp2_with fail
 refine (fewc_any (HM.out.below HB1.out) v).mono ?_
 cases hf : fewP st tr with
 | false =>
  rintro e w2 ⟨rfl, hb2⟩
  go_wp2_with fail
  go_ret
  exact ⟨rfl, HFin.out _ (below_then HB1.out HB1.out.size hb2)⟩
 | true =>
  have HF := Lib.hid hf
  clear hf
  rintro e w2 ⟨rfl, hb2⟩
  have HB2 := Lib.hid (below_then HB1.out HB1.out.size hb2)
  clear y0 y1 y2 hb2
  by_cases c1 : (evs.length : Int) > 12
  ·have d1 : decide ((evs.length : Int) > 12) = true := decide_eq_true c1
   clear c1
   go_wp2_with fail
   go_ret
   exact ⟨rfl, HFin.out _ HB2.out⟩
  have d1 : decide ((evs.length : Int) > 12) = false := decide_eq_false c1
  have hev12 : evs.length ≤ 12 := by omega
  have hn60 : tr.length ≤ 60 := by
   have h := HF.out
   simp only [fewP, Bool.and_eq_true, decide_eq_true_eq] at h
   omega
  have hk := (HB2.out.block _ (lt_of_block HG.out)).trans HG.out
  obtain ⟨y0, y1, y2⟩ : w2.cell? ⟨w.heap.size, 0, none⟩ = some (.int .i64 v) ∧ w2.cell? ⟨w.heap.size, 1, none⟩ = some (.slice A st.length ca) ∧ w2.cell? ⟨w.heap.size, 2, none⟩ = some (.slice B tr.length cb) := ⟨blk_cell hk 0, blk_cell hk 1, blk_cell hk 2⟩
  have HM2 := Lib.hid (HM.out.below HB2.out)
  clear hk c1
  go_wp2_with fail
  go_loopw [9] (fun i wr => ∃ q : Nat, i = .int .i64 q ∧ q ≤ tr.length ∧ Hid (∀ j : Nat, j < q → (rdT tr (j : Int)).f1 ≠ ev ∧ ((rdT tr (j : Int)).f1 = 0 → (rdT tr (j : Int)).f2.toList.isEmpty = true)) ∧ w2 = wr) (fun i _ => tr.length - (intOf i).toNat)
  case atStart => exact ⟨0, rfl, Nat.zero_le _, Lib.hid (fun j h => absurd h (Nat.not_lt_zero _)), rfl⟩
  case round =>
   obtain ⟨q, rfl, hq, HQ, rfl⟩ := hrel
   by_cases hlt : q < tr.length
   ·have p1 : ((q : Int) < (tr.length : Int)) = True := eq_true (by omega)
    obtain ⟨bd, A3, c3, A5, c5, rfl, _, q1, q2, _⟩ := PAll.at_T63 HM2.out.ct (q : Int) (by omega) (by omega)
    rw [Int.toNat_natCast] at q1 q2
    by_cases he : (rdT tr (q : Int)).f1 = ev
    ·have d3 : ((PAll.rd_T63 tr (q : Int)).f1 == ev) = true := by rw [beq_iff_eq]; exact he
     clear he
     go_wp2_with fail
     go_ret
     exact ⟨rfl, HFin.out _ HB2.out⟩
    ·have d3 : ((PAll.rd_T63 tr (q : Int)).f1 == ev) = false := by rw [beq_eq_false_iff_ne]; exact he
     by_cases hz : (rdT tr (q : Int)).f1 = 0
     ·have d4 : ((PAll.rd_T63 tr (q : Int)).f1 == 0) = true := by rw [beq_iff_eq]; exact hz
      cases hem : (rdT tr (q : Int)).f2.toList.isEmpty with
      | true =>
       have HQ2 : Hid (∀ j : Nat, j < q + 1 → (rdT tr (j : Int)).f1 ≠ ev ∧ ((rdT tr (j : Int)).f1 = 0 → (rdT tr (j : Int)).f2.toList.isEmpty = true)) := Lib.hid (fun j hj => by
        by_cases e : j = q
        ·subst e; exact ⟨he, fun _ => hem⟩
        ·exact HQ.out j (by omega))
       have e2 : (PAll.rd_T63 tr (q : Int)).f2.toList = [] := List.isEmpty_iff.1 hem
       have e3 : (PAll.rd_T63 tr (q : Int)).f2.toList.isEmpty = true := hem
       clear he hz hem
       go_wp2_with fail
       go_roundw
       case rel => exact ⟨q + 1, by go_num, by omega, HQ2, (by first | rfl | trivial)⟩
       case measure => first | (simp [intOf]; done) | (simp [intOf]; omega)
      | false =>
       have e3 : (PAll.rd_T63 tr (q : Int)).f2.toList.isEmpty = false := hem
       clear he hz hem
       go_wp2_with fail
       go_ret
       exact ⟨rfl, HFin.out _ HB2.out⟩
     ·have d4 : ((PAll.rd_T63 tr (q : Int)).f1 == 0) = false := by rw [beq_eq_false_iff_ne]; exact hz
      have HQ2 : Hid (∀ j : Nat, j < q + 1 → (rdT tr (j : Int)).f1 ≠ ev ∧ ((rdT tr (j : Int)).f1 = 0 → (rdT tr (j : Int)).f2.toList.isEmpty = true)) := Lib.hid (fun j hj => by
       by_cases e : j = q
       ·subst e; exact ⟨he, fun h => absurd h hz⟩
       ·exact HQ.out j (by omega))
      clear he hz
      go_wp2_with fail
      go_roundw
      case rel => exact ⟨q + 1, by go_num, by omega, HQ2, (by first | rfl | trivial)⟩
      case measure => first | (simp [intOf]; done) | (simp [intOf]; omega)
   ·obtain rfl : q = tr.length := by omega
    have p1 : ((tr.length : Int) < (tr.length : Int)) = False := eq_false (by omega)
    have HNo : Hid ((∀ x ∈ tr, x.f1 ≠ ev) ∧ ∀ x ∈ tr, x.f1 = 0 → x.f2.toList.isEmpty = true) := Lib.hid (by
     have key : ∀ x ∈ tr, x.f1 ≠ ev ∧ (x.f1 = 0 → x.f2.toList.isEmpty = true) := by
      intro x hx
      obtain ⟨j, hj, rfl⟩ := List.getElem_of_mem hx
      have h := HQ.out j hj
      rw [rdT_at hj] at h
      exact h
     exact ⟨fun x hx => (key x hx).1, fun x hx => (key x hx).2⟩)
    clear HQ
    go_wp2_with fail
    refine (tnew_any v A B ca cb st tr HF.out _ (HWE.out.toLaid.below HB2.out) HM2.out).mono ?_
    rintro e w3 ⟨⟨p, er, rfl, h⟩, hb3⟩
    have HB3 := Lib.hid (below_then HB2.out HB2.out.size hb3)
    clear y0 y1 y2 hb3
    rcases h with ⟨he, g, rfl, rfl, hg, hT⟩ | ⟨he, rfl, hev⟩
    rotate_left
    ·rcases er_some hev he with ⟨c, rfl⟩ | ⟨c, rfl⟩
     all_goals
      clear hev he
      go_wp2_with fail
      go_ret
      exact ⟨rfl, HFin.out _ HB3.out⟩
    have HT := Lib.hid hT
    have HGood := Lib.hid he
    clear hT he hg
    go_wp2_with fail
    refine (mstart_any (HWE.out.below HB3.out) HT.out HGood.out HF.out).mono ?_
    have HI := Lib.hid (sta_kept (v := v) HGood.out HF.out)
    have HSd := Lib.hid (sta_setd (st := st) (tr := tr) v)
    generalize staM v st tr = m at *
    rintro e w4 ⟨vh, ve, vi, vo, rfl, hh, he, hi, ho, hb4⟩
    obtain ⟨A1, k1, rfl⟩ := Kd.R_slice hh
    obtain ⟨A2, k2, rfl⟩ := Kd.R_slice he
    obtain ⟨A3, k3, rfl⟩ := Kd.R_slice hi
    obtain ⟨A4, k4, rfl⟩ := Kd.R_slice ho
    have ha4 : Below w4.heap.size w4 (w4.alloc (.cells #[.int .u32 (m.conf : Nat), .slice A1 m.hist.length k1, .slice A2 m.env.length k2, .slice A3 m.inn.length k3, .int .i64 m.stat] 46)) := (Below.refl _ w4).alloc (Nat.le_refl _) _
    have HK := Lib.hid (blk_new w4 (.cells #[.int .u32 (m.conf : Nat), .slice A1 m.hist.length k1, .slice A2 m.env.length k2, .slice A3 m.inn.length k3, .int .i64 m.stat] 46))
    have HB4 := Lib.hid (below_then hb4 hb4.size ha4)
    have HRs := Lib.hid (And.intro (Kd.R_below hh ha4) (And.intro (Kd.R_below he ha4) (Kd.R_below hi ha4)))
    have HTb := Lib.hid hb4.size
    clear hh he hi ho hb4 ha4
    go_wp2_with fail
    obtain ⟨w5, hw5⟩ : ∃ w5 : World, w5 = w4.alloc (.cells #[.int .u32 (m.conf : Nat), .slice A1 m.hist.length k1, .slice A2 m.env.length k2, .slice A3 m.inn.length k3, .int .i64 m.stat] 46) := ⟨_, rfl⟩
    rw [← hw5] at HK HB4 HRs ⊢
    clear hw5
    generalize w4.heap.size = tb at *
    go_loopw [14] (fun i wr => ∃ (q : Nat) (m : Ses) (A1 A2 A3 : Option Addr) (k1 k2 k3 : Nat), i = .int .i64 q ∧ q ≤ evs.length ∧ Hid (Below w3.heap.size w3 wr) ∧ Hid (wr.heap[tb]? = some (.cells #[.int .u32 (m.conf : Nat), .slice A1 m.hist.length k1, .slice A2 m.env.length k2, .slice A3 m.inn.length k3, .int .i64 m.stat] 46 (0, 0))) ∧ Hid (HisR wr w3.heap.size (.slice A1 m.hist.length k1) m.hist ∧ EnvR wr w3.heap.size (.slice A2 m.env.length k2) m.env ∧ InnR wr w3.heap.size (.slice A3 m.inn.length k3) m.inn) ∧ Hid (Kept st m) ∧ Hid (Setd st tr m)) (fun i _ => evs.length - (intOf i).toNat)
    case atStart => exact ⟨0, m, A1, A2, A3, k1, k2, k3, rfl, Nat.zero_le _, HB4, HK, HRs, HI, HSd⟩
    case round =>
     clear HB4 HK HRs HI HSd
     obtain ⟨q, m, A1, A2, A3, k1, k2, k3, rfl, hq, HB, HK, HRs, HI, HSd⟩ := hrel
     have HBw := Lib.hid (below_then HB3.out HB3.out.size HB.out)
     have hk := HK.out
     obtain ⟨x0, x1, x2, x3, x4⟩ : wr.cell? ⟨tb, 0, none⟩ = some (.int .u32 (m.conf : Nat)) ∧ wr.cell? ⟨tb, 1, none⟩ = some (.slice A1 m.hist.length k1) ∧ wr.cell? ⟨tb, 2, none⟩ = some (.slice A2 m.env.length k2) ∧ wr.cell? ⟨tb, 3, none⟩ = some (.slice A3 m.inn.length k3) ∧ wr.cell? ⟨tb, 4, none⟩ = some (.int .i64 m.stat) := ⟨blk_cell hk 0, blk_cell hk 1, blk_cell hk 2, blk_cell hk 3, blk_cell hk 4⟩
     have HC1 := Lib.hid (Kd.R_reads' HRs.out.1).2
     have HC2 := Lib.hid (Kd.R_reads' HRs.out.2.1).2
     have HC3 := Lib.hid (Kd.R_reads' HRs.out.2.2).2
     clear hk
     by_cases hlt : q < evs.length
     ·have p1 : ((q : Int) < (evs.length : Int)) = True := eq_true (by omega)
      have p0 : (0 ≤ (q : Int)) = True := eq_true (by omega)
      obtain ⟨ade, rfl, a0⟩ := nums_at (Kd.C_below HE.out HBw.out) q hlt
      generalize evs[q] = ei at *
      go_wp2_with fail
      refine start_ (n := 11) (S := fun w' => w'.cell? ⟨tb, 0, none⟩ = some (.int .u32 (m.conf : Nat)) ∧ w'.cell? ⟨tb, 1, none⟩ = some (.slice A1 m.hist.length k1) ∧ w'.cell? ⟨tb, 2, none⟩ = some (.slice A2 m.env.length k2) ∧ w'.cell? ⟨tb, 3, none⟩ = some (.slice A3 m.inn.length k3) ∧ w'.cell? ⟨tb, 4, none⟩ = some (.int .i64 m.stat) ∧ w'.cell? (ade.add q) = some (.int .i64 ei)) (ds := [6, 10]) (tf11 0) (by kernel_rfl) rfl (by kernel_rfl) ⟨x0, x1, x2, x3, x4, a0⟩ (fun hHeld => ?_)
      refine pxt_ (v := ?_) (a' := ?_) rfl rfl (by kernel_rfl) (fun _ _ _ h => h) (Or.inl ⟨by rfl, ?_⟩) ?_ ?_
      rotate_left
      ·intro w'
       go_simp
       first | done | with_reducible rfl
      rotate_left
      ·simp only [Act.put, List.setIfInBounds_toArray, List.set_cons_zero, List.set_cons_succ, i64_w, i32_w]
       first | done | rfl
      refine nxt_ (v := ?_) (a' := ?_) rfl rfl (by kernel_rfl) (fun _ _ _ h => h) (Or.inl ⟨by rfl, ?_⟩) hHeld ?_ ?_
      rotate_left
      ·rintro w' ⟨s0, s1, s2, s3, s4, s5⟩
       go_simp
       first | done | with_reducible rfl
      rotate_left
      ·simp only [Act.put, List.setIfInBounds_toArray, List.set_cons_zero, List.set_cons_succ, i64_w, i32_w]
       first | done | rfl
      iterate 3
       refine pxt_ (v := ?_) (a' := ?_) rfl rfl (by kernel_rfl) (fun _ _ _ h => h) (Or.inl ⟨by rfl, ?_⟩) ?_ ?_
       rotate_left
       ·intro w'
        go_simp
        first | done | with_reducible rfl
       rotate_left
       ·simp only [Act.put, List.setIfInBounds_toArray, List.set_cons_zero, List.set_cons_succ, i64_w, i32_w]
        first | done | rfl
      refine nxt_ (v := ?_) (a' := ?_) rfl rfl (by kernel_rfl) (fun _ _ _ h => h) (Or.inl ⟨by rfl, ?_⟩) hHeld ?_ ?_
      rotate_left
      ·rintro w' ⟨s0, s1, s2, s3, s4, s5⟩
       go_simp
       first | done | with_reducible rfl
      rotate_left
      ·simp only [Act.put, List.setIfInBounds_toArray, List.set_cons_zero, List.set_cons_succ, i64_w, i32_w]
       first | done | rfl
      refine last_ (i := 6) (N := some 96) (tf11 7) rfl rfl (by kernel_rfl) (by decide) (fun K hK => ?_)
      refine goes_ Tryz.func31 (by kernel_rfl) rfl #[.pointer (some ⟨g, 0, none⟩), .agg #[.int .u32 (m.conf : Nat), .slice A1 m.hist.length k1, .slice A2 m.env.length k2, .slice A3 m.inn.length k3, .int .i64 m.stat], .int .i64 ei] (by rfl) rfl rfl (by first | rfl | (go_simp; done) | (go_simp; exact ⟨rfl, rfl⟩) | (go_simp; rfl)) ?_
      refine (mtake_any (HWE.out.below (below_drew HBw.out)) (HT.out.below (below_drew HB.out)) HGood.out HF.out m A1 A2 A3 k1 k2 k3 (Kd.C_drew HC1.out.2) (Kd.C_drew HC2.out.2) (Kd.C_drew HC3.out.2) HC1.out.1 HC2.out.1 HC3.out.1 HI.out.1.len HI.out.1.env HI.out.1.inn HI.out.2.1 HI.out.2.2 HI.out.1.ok ei).mono ?_
      rintro e w6 ⟨vh6, ve6, vi6, vo6, rfl, hh6, he6, hi6, ho6, hb6⟩
      obtain ⟨B1, j1, rfl⟩ := Kd.R_slice hh6
      obtain ⟨B2, j2, rfl⟩ := Kd.R_slice he6
      obtain ⟨B3, j3, rfl⟩ := Kd.R_slice hi6
      have hk6 := (hb6.block _ (lt_of_block HK.out)).trans HK.out
      obtain ⟨y0, y1, y2, y3, y4⟩ : w6.cell? ⟨tb, 0, none⟩ = some (.int .u32 (m.conf : Nat)) ∧ w6.cell? ⟨tb, 1, none⟩ = some (.slice A1 m.hist.length k1) ∧ w6.cell? ⟨tb, 2, none⟩ = some (.slice A2 m.env.length k2) ∧ w6.cell? ⟨tb, 3, none⟩ = some (.slice A3 m.inn.length k3) ∧ w6.cell? ⟨tb, 4, none⟩ = some (.int .i64 m.stat) := ⟨blk_cell hk6 0, blk_cell hk6 1, blk_cell hk6 2, blk_cell hk6 3, blk_cell hk6 4⟩
      obtain ⟨g0, g1, g2, g3, g4⟩ : w6.frozen? ⟨tb, 0, none⟩ = false ∧ w6.frozen? ⟨tb, 1, none⟩ = false ∧ w6.frozen? ⟨tb, 2, none⟩ = false ∧ w6.frozen? ⟨tb, 3, none⟩ = false ∧ w6.frozen? ⟨tb, 4, none⟩ = false := ⟨blk_free hk6 0, blk_free hk6 1, blk_free hk6 2, blk_free hk6 3, blk_free hk6 4⟩
      refine ⟨_, rfl, hK.out _ _ ?_⟩
      clear hK K
      iterate 3
       refine pxt_ (v := ?_) (a' := ?_) rfl rfl (by kernel_rfl) (fun _ _ _ h => h) (Or.inl ⟨by rfl, ?_⟩) ?_ ?_
       rotate_left
       ·intro w'
        go_simp
        first | done | with_reducible rfl
       rotate_left
       ·simp only [Act.put, List.setIfInBounds_toArray, List.set_cons_zero, List.set_cons_succ, i64_w, i32_w]
        first | done | rfl
      refine last_ (i := 10) (N := none) (tf11 11) rfl rfl (by kernel_rfl) (by decide) (fun K hK => ?_)
      refine skip_ (w1 := ?_) (by rfl) rfl ?_ ?_
      rotate_left
      ·go_simp
       rfl
      refine hK.out _ _ ?_
      clear hK K
      refine done_ (by kernel_rfl) ?_
      have hsz : w3.heap.size ≤ wr.heap.size := HB.out.size
      have hb6w : Below wr.heap.size wr w6 := below_then (below_drew (Below.refl _ _)) (Nat.le_refl _) hb6
      obtain ⟨W, hW⟩ : ∃ W : World, W = set5 w6 tb (.int .u32 ((takM st tr m ei).conf : Nat)) (.slice B1 (takM st tr m ei).hist.length j1) (.slice B2 (takM st tr m ei).env.length j2) (.slice B3 (takM st tr m ei).inn.length j3) (.int .i64 (takM st tr m ei).stat) := ⟨_, rfl⟩
      have hk := set5_blk hk6 (.int .u32 ((takM st tr m ei).conf : Nat)) (.slice B1 (takM st tr m ei).hist.length j1) (.slice B2 (takM st tr m ei).env.length j2) (.slice B3 (takM st tr m ei).inn.length j3) (.int .i64 (takM st tr m ei).stat)
      have hr1 := R_set5 (Kd.R_lower hh6 hsz) hk6 (by decide) (.int .u32 ((takM st tr m ei).conf : Nat)) (.slice B1 (takM st tr m ei).hist.length j1) (.slice B2 (takM st tr m ei).env.length j2) (.slice B3 (takM st tr m ei).inn.length j3) (.int .i64 (takM st tr m ei).stat)
      have hr2 := R_set5 (Kd.R_lower he6 hsz) hk6 (by decide) (.int .u32 ((takM st tr m ei).conf : Nat)) (.slice B1 (takM st tr m ei).hist.length j1) (.slice B2 (takM st tr m ei).env.length j2) (.slice B3 (takM st tr m ei).inn.length j3) (.int .i64 (takM st tr m ei).stat)
      have hr3 := R_set5 (Kd.R_lower hi6 hsz) hk6 (by decide) (.int .u32 ((takM st tr m ei).conf : Nat)) (.slice B1 (takM st tr m ei).hist.length j1) (.slice B2 (takM st tr m ei).env.length j2) (.slice B3 (takM st tr m ei).inn.length j3) (.int .i64 (takM st tr m ei).stat)
      have hbW := set5_below (below_then HB.out HB.out.size hb6w) (b := tb) HTb.out (.int .u32 ((takM st tr m ei).conf : Nat)) (.slice B1 (takM st tr m ei).hist.length j1) (.slice B2 (takM st tr m ei).env.length j2) (.slice B3 (takM st tr m ei).inn.length j3) (.int .i64 (takM st tr m ei).stat)
      rw [← hW] at hk hr1 hr2 hr3 hbW
      unfold set5 at hW
      rw [← hW]
      have HK6 := Lib.hid hk
      have HR6 := Lib.hid (And.intro hr1 (And.intro hr2 hr3))
      have HB6 := Lib.hid hbW
      have HI6 := Lib.hid (tak_kept (tr := tr) HGood.out HF.out HI.out ei)
      have HS6 := Lib.hid (tak_setd (tr := tr) ei HSd.out)
      generalize takM st tr m ei = m6 at *
      clear hW hk hr1 hr2 hr3 hbW hk6 hh6 he6 hi6 ho6 hb6 hb6w y0 y1 y2 y3 y4 g0 g1 g2 g3 g4 x0 x1 x2 x3 x4 a0
      go_wp2_with fail
      go_roundw
      case rel => exact ⟨q + 1, m6, B1, B2, B3, j1, j2, j3, by go_num, by omega, HB6, HK6, HR6, HI6, HS6⟩
      case measure => first | (simp [intOf]; done) | (simp [intOf]; omega)
     ·obtain rfl : q = evs.length := by omega
      have p1 : ((evs.length : Int) < (evs.length : Int)) = False := eq_false (by omega)
      have hid := tak_idle (st := st) (tr := tr) HSd.out ev HNo.out.1 HNo.out.2
      have ht := mtake_any (HWE.out.below HBw.out) (HT.out.below HB.out) HGood.out HF.out m A1 A2 A3 k1 k2 k3 HC1.out.2 HC2.out.2 HC3.out.2 HC1.out.1 HC2.out.1 HC3.out.1 HI.out.1.len HI.out.1.env HI.out.1.inn HI.out.2.1 HI.out.2.2 HI.out.1.ok ev
      rw [hid] at ht
      have HTk := Lib.hid ht
      clear hid ht
      go_wp2_with fail
      refine HTk.out.mono ?_
      rintro e w6 ⟨vh6, ve6, vi6, vo6, rfl, hh6, he6, hi6, ho6, hb6⟩
      obtain ⟨B1, j1, rfl⟩ := Kd.R_slice hh6
      obtain ⟨B2, j2, rfl⟩ := Kd.R_slice he6
      obtain ⟨B3, j3, rfl⟩ := Kd.R_slice hi6
      obtain ⟨B4, j4, rfl⟩ := Kd.R_slice ho6
      have ha6 : Below w6.heap.size w6 (w6.alloc (.cells #[.int .u32 (m.conf : Nat), .slice B1 m.hist.length j1, .slice B2 m.env.length j2, .slice B3 m.inn.length j3, .int .i64 m.stat] 46)) := (Below.refl _ w6).alloc (Nat.le_refl _) _
      have hn6 := blk_new w6 (.cells #[.int .u32 (m.conf : Nat), .slice B1 m.hist.length j1, .slice B2 m.env.length j2, .slice B3 m.inn.length j3, .int .i64 m.stat] 46)
      have hw6 := below_then hb6 hb6.size ha6
      have hk6 := (hw6.block _ (lt_of_block HK.out)).trans HK.out
      have HBn := Lib.hid (below_then HBw.out HBw.out.size hw6)
      have hsm := rsame_any _ (m.conf : Nat) m.stat m.hist m.env m.inn A1 A2 A3 B1 B2 B3 k1 k2 k3 j1 j2 j3 (Kd.C_below HC1.out.2 hw6) (Kd.C_below (Kd.R_reads' hh6).2.2 ha6) (Kd.C_below HC2.out.2 hw6) (Kd.C_below (Kd.R_reads' he6).2.2 ha6) (Kd.C_below HC3.out.2 hw6) (Kd.C_below (Kd.R_reads' hi6).2.2 ha6) HC2.out.1 (Kd.R_reads' he6).2.1 HC3.out.1 (Kd.R_reads' hi6).2.1 (Nat.le_trans HI.out.1.len (by have := (chk_none HGood.out).1.2.2.2.1; omega)) (Nat.le_trans HI.out.1.env (by decide)) (Nat.le_trans HI.out.1.inn (by decide))
      have HSm := Lib.hid hsm
      obtain ⟨y0, y1, y2, y3, y4⟩ := And.intro (blk_cell hk6 0) (And.intro (blk_cell hk6 1) (And.intro (blk_cell hk6 2) (And.intro (blk_cell hk6 3) (blk_cell hk6 4))))
      obtain ⟨z0, z1, z2, z3, z4⟩ := And.intro (blk_cell hn6 0) (And.intro (blk_cell hn6 1) (And.intro (blk_cell hn6 2) (And.intro (blk_cell hn6 3) (blk_cell hn6 4))))
      clear hh6 he6 hi6 ho6 hb6 ha6 hn6 hw6 hk6 hsm x0 x1 x2 x3 x4 HTk
      go_wp2_with fail
      refine HSm.out.mono ?_
      rintro e w7 ⟨rfl, hb7⟩
      have HB7 := Lib.hid (below_then HBn.out HBn.out.size hb7)
      clear hb7
      go_wp2_with fail
      go_ret
      exact ⟨rfl, HFin.out _ HB7.out⟩
end Go.Proofs.YtikilglbhnplaaaGreatDoor
end
section
namespace Go.Proofs.YtikilglbhnplaaaGreatDoor
open Go.ChangeShapes Go.WideShapes Go.RowKit PX Go.Proofs.YtikilglbhnplaaaGreatDoorW.PrintWords
namespace Door
abbrev laid5 : List (String × DataW Unit) := [("math/bits.deBruijn32tab", Rows.laid_math_bits_deBruijn32tab), ("math/bits.deBruijn64tab", Rows.laid_math_bits_deBruijn64tab), ("internal/strconv.uint64pow10", Rows.laid_internal_strconv_uint64pow10), ("strconv.ErrRange", Rows.laid_strconv_ErrRange), ("strconv.ErrSyntax", Rows.laid_strconv_ErrSyntax)]
theorem gRange : Tryz.prog.globalNamed "strconv.ErrRange" = some 2 := by kernel_rfl
theorem gRangeT : (Tryz.prog.globals[2]?).map (·.type) = some 30 := by kernel_rfl
theorem gPow : Tryz.prog.globalNamed "internal/strconv.uint64pow10" = some 3 := by kernel_rfl
theorem gPowT : (Tryz.prog.globals[3]?).map (·.type) = some 231 := by kernel_rfl
theorem powT : Tryz.prog.underlying 231 = some (.array 20 198) := by kernel_rfl
theorem powIs {H : Type} : (Rows.laid_internal_strconv_uint64pow10 : DataW H) = Lib.tabData .u64 Lib.pow10Tab := rfl
theorem laid_of_met5 {W : World} (h : laidMet Tryz.prog laid5 W) : Laid W := by
 obtain ⟨g, t, cs, fuel, p, h1, h2, h3, h4⟩ := Lib.laidMet.reads h (n := "strconv.ErrRange") (d := Rows.laid_strconv_ErrRange) (.tail _ (.tail _ (.tail _ (.head _))))
 obtain rfl := Option.some.inj (gRange.symm.trans h1)
 obtain rfl := Option.some.inj (gRangeT.symm.trans h2)
 obtain ⟨_, u, v, he, _, _⟩ := iface_of_trod Tryz.underlying30 h4
 have hc : cs = #[.iface u v] := Array.eq_one_of_toList he
 subst hc
 obtain ⟨g, t, cs, fuel, p, k1, k2, k3, k4⟩ := Lib.laidMet.reads h (n := "internal/strconv.uint64pow10") (d := Rows.laid_internal_strconv_uint64pow10) (.tail _ (.tail _ (.head _)))
 obtain rfl := Option.some.inj (gPow.symm.trans k1)
 obtain rfl := Option.some.inj (gPowT.symm.trans k2)
 refine ⟨⟨u, v, h3⟩, ?_⟩
 unfold Lib.TabIs
 rw [powIs] at k4
 rw [k3, ← Lib.cells_of_tab powT (by kernel_rfl) (by kernel_rfl) (by kernel_rfl) k4]
theorem laid_of5 {W : World} (h : laidMetH Tryz.prog laid5 W) : Laid W := laid_of_met5 (laidMetH_iff.1 h).1
def cellsOfData : DataW Unit → Array Value
 | .agg l => (l.map fun | .lit (.int k z) => Value.int k z | _ => .nilIface).toArray
 | _ => #[]
noncomputable def laidWorld (os : Os) : World :=
 let N := (World.holding Tryz.prog os ⟨#[], #[], []⟩).heap.size
 let w0 := World.holding Tryz.prog os ⟨#[.cells #[.string ⟨#[118, 97, 108, 117, 101, 32, 111, 117, 116, 32, 111, 102, 32, 114, 97, 110, 103, 101]⟩] 223, .cells #[.string ⟨#[105, 110, 118, 97, 108, 105, 100, 32, 115, 121, 110, 116, 97, 120]⟩] 223], #[], []⟩
 let put (h : Array Obj) (g : Nat) (cs : Array Value) : Array Obj := h.modify g fun
  | .cells _ t frozen => .cells cs t frozen
  | o => o
 { w0 with heap := put (put (put (put (put w0.heap
   0 (cellsOfData Rows.laid_math_bits_deBruijn32tab)) 4 (cellsOfData Rows.laid_math_bits_deBruijn64tab)) 3 (cellsOfData Rows.laid_internal_strconv_uint64pow10))
   2 #[.iface 221 (.pointer (some ⟨N, 0, none⟩))]) 1 #[.iface 221 (.pointer (some ⟨N + 1, 0, none⟩))] }
theorem met5 (os : Os) (args : Array Value) : laidMet Tryz.prog laid5 ((laidWorld os).forCall (fun _ _ => 0) ⟨#[], args, []⟩).memory :=
 laidMet_of_run3 10 (by kernel_rfl) (by kernel_rfl) (by kernel_rfl)
theorem met5H (os : Os) (args : Array Value) : laidMetH Tryz.prog laid5 ((laidWorld os).forCall (fun _ _ => 0) ⟨#[], args, []⟩).memory :=
 laidMetH_of_parts (met5 os args) (by kernel_rfl)
end Door
end Go.Proofs.YtikilglbhnplaaaGreatDoor
end
section
namespace Go.Proofs.YtikilglbhnplaaaGreatDoor
open Go.ChangeShapes Go.WideShapes Go.RowKit PX Go.Proofs.YtikilglbhnplaaaGreatDoorW.PrintWords
namespace Door
theorem gTzT : (Tryz.prog.globals[0]?).map (·.type) = some 164 := by kernel_rfl
theorem tzT : Tryz.prog.underlying 164 = some (.array 32 5) := by kernel_rfl
theorem tzIs {H : Type} : (Rows.laid_math_bits_deBruijn32tab : DataW H) = Lib.tabData .u8 (Lib.deBruijn32tab.map Int.ofNat) := rfl
theorem laid_of5z {W : World} (h : laidMetH Tryz.prog laid5 W) : LaidZ W := by
 refine ⟨laid_of5 h, ?_⟩
 obtain ⟨g, t, cs, fuel, p, k1, k2, k3, k4⟩ := Lib.laidMet.reads (laidMetH_iff.1 h).1 (n := "math/bits.deBruijn32tab") (d := Rows.laid_math_bits_deBruijn32tab) (.head _)
 obtain rfl := Option.some.inj (gTz.symm.trans k1)
 obtain rfl := Option.some.inj (gTzT.symm.trans k2)
 unfold Lib.TabIs
 rw [tzIs] at k4
 rw [k3, ← Lib.cells_of_tab tzT (by kernel_rfl) (by kernel_rfl) (by kernel_rfl) k4]
end Door
end Go.Proofs.YtikilglbhnplaaaGreatDoor
end
