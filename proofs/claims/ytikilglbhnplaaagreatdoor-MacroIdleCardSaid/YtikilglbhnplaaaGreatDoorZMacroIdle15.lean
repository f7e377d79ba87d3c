/- Texts of this claim, merged (Ciniw, Chst, Chtr). -/
import Derived.Deep.QuietTactic
import Derived.BigQuiet
import Derived.Test.YtikilglbhnplaaaGreatDoorZMacroIdle11
import Derived.Test.YtikilglbhnplaaaGreatDoorZMacroIdle12
import Derived.Test.YtikilglbhnplaaaGreatDoorZMacroIdle14
set_option linter.unusedVariables false
set_option linter.unusedSimpArgs false
set_option maxRecDepth 100000
set_option maxHeartbeats 32000000
section
namespace Go.Proofs.YtikilglbhnplaaaGreatDoor
open Go.RowKit Go.Proofs.YtikilglbhnplaaaGreatDoorW.PrintWords Go.Proofs.YtikilglbhnplaaaGreatDoorW.PrintLast
open PX (T V)
theorem addr00 (a : Addr) : a.add 0 = a := by unfold Addr.add; rfl
theorem cell_lt' {w : World} {p : Addr} {u : Value} (h : w.cell? p = some u) : p.block < w.heap.size := by
 refine Nat.lt_of_not_le (fun hn => ?_)
 have : w.heap[p.block]? = none := Array.getElem?_eq_none hn
 simp [World.cell?, this] at h
section
variable {w : World} {A B : Option Addr} {ca cb : Nat} {st : List Sta} {tr : List Tra}
theorem initialw (h : ChM w A ca st B cb tr) (v i : Int) (h0 : 0 ≤ i) (h1 : i < (st.length : Int)) : Calls Tryz.prog 103 #[ckV v A B st.length tr.length ca cb, .int .i64 i] w fun e w' => e = .returned (.bool (iniP st i)) ∧ Below w.heap.size w w' := by
 obtain ⟨ad, _, _, _, _, _, _, eA, _⟩ := PAll.at_T66 h.cs i h0 h1
 subst eA
 have hb1 : Below w.heap.size w (w.alloc (.cells #[.int .i64 v, .slice (some ad) st.length ca, .slice B tr.length cb] 136)) := (Below.refl _ w).alloc (Nat.le_refl _) _
 have HM := Lib.hid (h.below hb1)
 obtain ⟨ad', A2, c2, A3, c3, A4, c4, eA, q0, q1, q2, q3, q4, _, g2, _⟩ := PAll.at_T66 HM.out.cs i h0 h1
 obtain rfl := Option.some.inj eA
 have e1 : (w.alloc (.cells #[.int .i64 v, .slice (some ad) st.length ca, .slice B tr.length cb] 136)).heap.size = w.heap.size + 1 := by simp
 have k1 := blk_new w (.cells #[.int .i64 v, .slice (some ad) st.length ca, .slice B tr.length cb] 136)
 have hb2 : Below w.heap.size w ((w.alloc (.cells #[.int .i64 v, .slice (some ad) st.length ca, .slice B tr.length cb] 136)).alloc (.cells #[.int .i64 (PAll.rd_T66 st i).f0, .int .i64 (PAll.rd_T66 st i).f1, .slice A2 (PAll.rd_T66 st i).f2.length c2, .slice A3 (PAll.rd_T66 st i).f3.length c3, .slice A4 (PAll.rd_T66 st i).f4.length c4] 66)) := hb1.alloc (by rw [e1]; omega) _
 have hb12 : Below (w.alloc (.cells #[.int .i64 v, .slice (some ad) st.length ca, .slice B tr.length cb] 136)).heap.size (w.alloc (.cells #[.int .i64 v, .slice (some ad) st.length ca, .slice B tr.length cb] 136)) ((w.alloc (.cells #[.int .i64 v, .slice (some ad) st.length ca, .slice B tr.length cb] 136)).alloc (.cells #[.int .i64 (PAll.rd_T66 st i).f0, .int .i64 (PAll.rd_T66 st i).f1, .slice A2 (PAll.rd_T66 st i).f2.length c2, .slice A3 (PAll.rd_T66 st i).f3.length c3, .slice A4 (PAll.rd_T66 st i).f4.length c4] 66)) := (Below.refl _ _).alloc (Nat.le_refl _) _
 have k2 := blk_new (w.alloc (.cells #[.int .i64 v, .slice (some ad) st.length ca, .slice B tr.length cb] 136)) (.cells #[.int .i64 (PAll.rd_T66 st i).f0, .int .i64 (PAll.rd_T66 st i).f1, .slice A2 (PAll.rd_T66 st i).f2.length c2, .slice A3 (PAll.rd_T66 st i).f3.length c3, .slice A4 (PAll.rd_T66 st i).f4.length c4] 66)
 rw [e1] at k2
 have k3 := (hb12.block w.heap.size (by rw [e1]; omega)).trans k1
 have HB2 := Lib.hid hb2
 have HM2 := Lib.hid (h.below hb2)
 have HN := Lib.hid (Kd.C_below g2 hb12)
 have HK2 := Lib.hid k2
 have HK3 := Lib.hid k3
 have y1 : (w.alloc (.cells #[.int .i64 v, .slice (some ad) st.length ca, .slice B tr.length cb] 136)).cell? ⟨w.heap.size, 1, none⟩ = some (.slice (some ad) st.length ca) := blk_cell k1 1
 obtain ⟨b0, b2⟩ : ((w.alloc (.cells #[.int .i64 v, .slice (some ad) st.length ca, .slice B tr.length cb] 136)).alloc (.cells #[.int .i64 (PAll.rd_T66 st i).f0, .int .i64 (PAll.rd_T66 st i).f1, .slice A2 (PAll.rd_T66 st i).f2.length c2, .slice A3 (PAll.rd_T66 st i).f3.length c3, .slice A4 (PAll.rd_T66 st i).f4.length c4] 66)).cell? ⟨w.heap.size + 1, 0, none⟩ = some (.int .i64 (PAll.rd_T66 st i).f0) ∧ ((w.alloc (.cells #[.int .i64 v, .slice (some ad) st.length ca, .slice B tr.length cb] 136)).alloc (.cells #[.int .i64 (PAll.rd_T66 st i).f0, .int .i64 (PAll.rd_T66 st i).f1, .slice A2 (PAll.rd_T66 st i).f2.length c2, .slice A3 (PAll.rd_T66 st i).f3.length c3, .slice A4 (PAll.rd_T66 st i).f4.length c4] 66)).cell? ⟨w.heap.size + 1, 2, none⟩ = some (.slice A2 (PAll.rd_T66 st i).f2.length c2) := ⟨blk_cell k2 0, blk_cell k2 2⟩
 have p1 : (0 ≤ i) = True := eq_true h0
 have p2 : (i < (st.length : Int)) = True := eq_true h1
 generalize hG : iniP st i = G
 have HP := hG
 unfold iniP at HP
 have HP := Lib.hid HP
 generalize hf0 : (PAll.rd_T66 st i).f0 = f0 at *
 generalize hf1 : (PAll.rd_T66 st i).f1 = f1 at *
 generalize hf2 : (PAll.rd_T66 st i).f2 = f2 at *
 clear h hb1 hb2 hb12 e1 k1 k2 k3 hG hf0 hf1 hf2 g2
 go_enter Tryz.func103, Tryz.ntmps103
 have hcase : (f0 = 2) ∨ (f0 ≠ 2 ∧ histP f0 = false) ∨ (f0 ≠ 2 ∧ histP f0 = true) := by
  by_cases e : f0 = 2
  ·exact .inl e
  ·cases hh : histP f0 with
   | false => exact .inr (.inl ⟨e, rfl⟩)
   | true => exact .inr (.inr ⟨e, rfl⟩)
 rcases hcase with e | ⟨e, hh⟩ | ⟨e, hh⟩
 case' inl =>
  have d1 : (f0 != 2) = false := by rw [e]; rfl
  have HP2 := HP.out
  rw [if_neg (fun h => h.1 e)] at HP2
  have HP3 := Lib.hid HP2
  have HKd : Hid (f0 = 2 ∨ histP f0 = true) := Lib.hid (.inl e)
  clear HP HP2 e
  go_wp2_with fail
  generalize (w.alloc (.cells #[.int .i64 v, .slice (some ad) st.length ca, .slice B tr.length cb] 136)).alloc (.cells #[.int .i64 f0, .int .i64 f1, .slice A2 f2.length c2, .slice A3 (PAll.rd_T66 st i).f3.length c3, .slice A4 (PAll.rd_T66 st i).f4.length c4] 66) = w3 at HB2 HM2 HN HK2 HK3 b0 b2 ⊢
  clear q0 q1 q2 q3 q4 y1 HM
 case' inr.inl =>
  have d1 : (f0 != 2) = true := bne_iff_ne.mpr e
  have HR : Hid (G = ((f2.length : Int) == 0)) := Lib.hid (by rw [← HP.out, if_pos ⟨e, hh⟩])
  have HI := Lib.hid hh
  clear HP e hh
  go_wp2_with fail
  refine (hist_any f0 _).mono ?_
  rw [HI.out]
  rintro e w3 ⟨rfl, hb3⟩
  have HB3 := Lib.hid (below_then HB2.out HB2.out.size hb3)
  have k2 := (hb3.block _ (lt_of_block HK2.out)).trans HK2.out
  have x2 : w3.cell? ⟨w.heap.size + 1, 2, none⟩ = some (.slice A2 f2.length c2) := blk_cell k2 2
  clear hb3 k2
  go_wp2_with fail
  go_ret
  exact ⟨by rw [HR.out]; rfl, HB3.out⟩
 case' inr.inr =>
  have d1 : (f0 != 2) = true := bne_iff_ne.mpr e
  have HP2 := HP.out
  rw [if_neg (fun h => by rw [hh] at h; cases h.2)] at HP2
  have HP3 := Lib.hid HP2
  have HKd : Hid (f0 = 2 ∨ histP f0 = true) := Lib.hid (.inr hh)
  have HI := Lib.hid hh
  clear HP HP2 e hh
  go_wp2_with fail
  refine (hist_any f0 _).mono ?_
  rw [HI.out]
  rintro e w3 ⟨rfl, hb3⟩
  have HB3 := Lib.hid (below_then HB2.out HB2.out.size hb3)
  have HK22 := Lib.hid ((hb3.block _ (lt_of_block HK2.out)).trans HK2.out)
  have HK33 := Lib.hid ((hb3.block _ (lt_of_block HK3.out)).trans HK3.out)
  have HM3 := Lib.hid (HM2.out.below hb3)
  have HN3 := Lib.hid (Kd.C_below HN.out hb3)
  clear hb3 HB2 HK2 HK3 HM2 HN b0 b2 q0 q1 q2 q3 q4 y1 HM HI d1
  have HB2 := HB3
  have HK2 := HK22
  have HK3 := HK33
  have HM2 := HM3
  have HN := HN3
  have b0 : w3.cell? ⟨w.heap.size + 1, 0, none⟩ = some (.int .i64 f0) := blk_cell HK2.out 0
  have b2 : w3.cell? ⟨w.heap.size + 1, 2, none⟩ = some (.slice A2 f2.length c2) := blk_cell HK2.out 2
  clear HB3 HK22 HK33 HM3 HN3
  go_wp2_with fail
 all_goals
  by_cases cl : (f2.length : Int) ≠ 1
  case' pos =>
   have d2 : ((f2.length : Int) != 1) = true := bne_iff_ne.mpr cl
   have HR : Hid (G = false) := Lib.hid (by rw [← HP3.out, if_pos cl])
   clear HP3 cl
   go_wp2_with fail
   go_quiet (fail)
   go_wp2_with fail
   go_ret
   exact ⟨by rw [HR.out]; rfl, below_drewN' HB2.out _⟩
  case' neg =>
   have cl := Classical.not_not.1 cl
   have d2 : ((f2.length : Int) != 1) = false := by rw [cl]; rfl
   have hl1 : f2.length = 1 := by omega
   obtain ⟨ad2, hA2, a0⟩ := nums_at HN.out 0 (by omega)
   subst hA2
   rw [addr00] at a0
   have hrd : rd f2 0 = f2[0]'(by omega) := by
    unfold rd; rw [List.getD_eq_getElem?_getD, List.getElem?_eq_getElem (by simpa using (show 0 < f2.length by omega))]; rfl
   rw [← hrd] at a0
   have HA0 : Hid (∀ wx, Below w3.heap.size w3 wx → wx.cell? ad2 = some (.int .i64 (rd f2 0))) := Lib.hid (fun wx hb => (World.cell?_of_block (hb.block _ (cell_lt' a0))).trans a0)
   have HP4 := HP3.out
   rw [if_neg (fun h => h cl)] at HP4
   have p3 : ((0 : Int) < (f2.length : Int)) = True := eq_true (by omega)
   have p3' : (0 < f2.length) = True := eq_true (by omega)
   have x0 : w3.cell? ⟨w.heap.size, 0, none⟩ = some (.int .i64 v) := blk_cell HK3.out 0
   have x1 : w3.cell? ⟨w.heap.size, 1, none⟩ = some (.slice (some ad) st.length ca) := blk_cell HK3.out 1
   have x2 : w3.cell? ⟨w.heap.size, 2, none⟩ = some (.slice B tr.length cb) := blk_cell HK3.out 2
   clear HP3 cl hrd
   generalize hto : rd f2 0 = tx at *
   clear hto
   generalize f2.length = fl at *
   go_wp2_with fail
   by_cases ct : 0 ≤ tx ∧ tx < (st.length : Int)
   case' neg =>
    have HR : Hid (G = false) := Lib.hid (by rw [← HP4, if_pos ct])
    have HTr := Lib.hid (show decide (0 ≤ tx ∧ tx < (st.length : Int)) = false from decide_eq_false ct)
    clear HP4 ct
    refine start_ (n := 26) (S := fun w' => w'.cell? ⟨w.heap.size, 0, none⟩ = some (.int .i64 v) ∧ w'.cell? ⟨w.heap.size, 1, none⟩ = some (.slice (some ad) st.length ca) ∧ w'.cell? ⟨w.heap.size, 2, none⟩ = some (.slice B tr.length cb) ∧ w'.cell? ⟨w.heap.size + 1, 2, none⟩ = some (.slice (some ad2) fl c2) ∧ w'.cell? ad2 = some (.int .i64 tx)) (ds := []) (tf26 0) (by kernel_rfl) rfl (by kernel_rfl) ⟨x0, x1, x2, b2, a0⟩ (fun hHeld => ?_)
    iterate 10
     refine nxt_ (v := ?_) (a' := ?_) rfl rfl (by kernel_rfl) (fun _ _ _ h => h) (Or.inl ⟨by rfl, ?_⟩) hHeld ?_ ?_
     rotate_left
     ·rintro w' ⟨s0, s1, s2, s3, s4⟩
      go_simp
      first | done | with_reducible rfl
     rotate_left
     ·simp only [Act.put, List.setIfInBounds_toArray, List.set_cons_zero, List.set_cons_succ, i64_w, i32_w]
      first | done | rfl
    refine one_ (i := 10) (N := some 36) (tf26 11) rfl rfl (by kernel_rfl) (by decide) (fun K hK => ?_)
    refine goes_ Tryz.func106 (by kernel_rfl) rfl #[ckV v (some ad) B st.length tr.length ca cb, .int .i64 tx] (by rfl) rfl rfl (by first | rfl | (go_simp; done) | (go_simp; exact ⟨rfl, rfl⟩) | (go_simp; rfl)) ?_
    refine (there_any (HM2.out.below (below_drewN' (Below.refl _ w3) 1)) v tx).mono ?_
    rw [HTr.out]
    rintro e1 w4 ⟨rfl, hb4⟩
    have hb4' : Below w3.heap.size w3 w4 := below_then (below_drewN' (Below.refl _ w3) 1) (Nat.le_refl _) hb4
    have HB4 := Lib.hid (below_then HB2.out HB2.out.size hb4')
    have HW4 := Lib.hid hb4'
    have k22 := (hb4'.block _ (lt_of_block HK2.out)).trans HK2.out
    have k33 := (hb4'.block _ (lt_of_block HK3.out)).trans HK3.out
    refine ⟨_, rfl, hK.out _ _ ⟨blk_cell k33 0, blk_cell k33 1, blk_cell k33 2, blk_cell k22 2, HA0.out _ HW4.out⟩ (fun hS4 => ?_)⟩
    clear hK K hHeld hb4 hb4' k22 k33
    iterate 3
     refine nxt_ (v := ?_) (a' := ?_) rfl rfl (by kernel_rfl) (fun _ _ _ h => h) (Or.inl ⟨by rfl, ?_⟩) hS4 ?_ ?_
     rotate_left
     ·rintro w' ⟨s0, s1, s2, s3, s4⟩
      go_simp
      first | done | with_reducible rfl
     rotate_left
     ·simp only [Act.put, List.setIfInBounds_toArray, List.set_cons_zero, List.set_cons_succ, i64_w, i32_w]
      first | done | rfl
    iterate 10
     refine pxt_ (v := undef) (a' := ?_) rfl rfl (by kernel_rfl) (fun _ _ _ h => h) (Or.inr ⟨by rfl, rfl⟩) ?_ ?_
     rotate_left
     ·simp only [Act.put, List.setIfInBounds_toArray, List.set_cons_zero, List.set_cons_succ, i64_w, i32_w]
      first | done | rfl
    refine one_ (i := 24) (N := some 50) (tf26 25) rfl rfl (by kernel_rfl) (by decide) (fun K hK => ?_)
    refine off_ (by rfl) ?_
    refine hK.out _ _ (by assumption) (fun hSoff => ?_)
    clear hK K
    refine nxt_ (v := ?_) (a' := ?_) rfl rfl (by kernel_rfl) (fun _ _ _ h => h) (Or.inl ⟨by rfl, ?_⟩) hS4 ?_ ?_
    rotate_left
    ·rintro w' ⟨s0, s1, s2, s3, s4⟩
     go_simp
     first | done | with_reducible rfl
    rotate_left
    ·simp only [Act.put, List.setIfInBounds_toArray, List.set_cons_zero, List.set_cons_succ, i64_w, i32_w]
     first | done | rfl
    refine done_ (by kernel_rfl) ?_
    go_wp2_with fail
    go_ret
    exact ⟨by rw [HR.out]; rfl, HB4.out⟩
   case' pos =>
    rw [if_neg (fun h => h ct)] at HP4
    have HTr := Lib.hid (show decide (0 ≤ tx ∧ tx < (st.length : Int)) = true from decide_eq_true ct)
    obtain ⟨ad4, _, _, _, _, _, _, eA, s0, s1, _⟩ := PAll.at_T66 HM2.out.cs tx ct.1 ct.2
    obtain rfl := Option.some.inj eA
    have p5 : (0 ≤ tx) = True := eq_true ct.1
    have p6 : (tx < (st.length : Int)) = True := eq_true ct.2
    have HS1 : Hid (∀ wx, Below w3.heap.size w3 wx → wx.cell? ⟨(ad.add (tx.toNat * 5)).block, (ad.add (tx.toNat * 5)).off + 1, none⟩ = some (.int .i64 (PAll.rd_T66 st tx).f1)) := Lib.hid (fun wx hb => (World.cell?_of_block (hb.block _ (cell_lt' s1))).trans s1)
    generalize hk1 : (PAll.rd_T66 st tx).f0 = k1 at *
    generalize hk2 : (PAll.rd_T66 st tx).f1 = k2 at *
    clear ct eA hk1 hk2 s1
    cases hh : histP k1 with
    | true =>
     rw [if_pos hh] at HP4
     have HR : Hid (G = false) := Lib.hid HP4.symm
     have HHh := Lib.hid hh
     clear HP4 hh
     refine start_ (n := 26) (S := fun w' => w'.cell? ⟨w.heap.size, 0, none⟩ = some (.int .i64 v) ∧ w'.cell? ⟨w.heap.size, 1, none⟩ = some (.slice (some ad) st.length ca) ∧ w'.cell? ⟨w.heap.size, 2, none⟩ = some (.slice B tr.length cb) ∧ w'.cell? ⟨w.heap.size + 1, 2, none⟩ = some (.slice (some ad2) fl c2) ∧ w'.cell? ad2 = some (.int .i64 tx) ∧ w'.cell? (ad.add (tx.toNat * 5)) = some (.int .i64 k1)) (ds := []) (tf26 0) (by kernel_rfl) rfl (by kernel_rfl) ⟨x0, x1, x2, b2, a0, s0⟩ (fun hHeld => ?_)
     iterate 10
      refine nxt_ (v := ?_) (a' := ?_) rfl rfl (by kernel_rfl) (fun _ _ _ h => h) (Or.inl ⟨by rfl, ?_⟩) hHeld ?_ ?_
      rotate_left
      ·rintro w' ⟨s0, s1, s2, s3, s4, s5⟩
       go_simp
       first | done | with_reducible rfl
      rotate_left
      ·simp only [Act.put, List.setIfInBounds_toArray, List.set_cons_zero, List.set_cons_succ, i64_w, i32_w]
       first | done | rfl
     refine one_ (i := 10) (N := some 36) (tf26 11) rfl rfl (by kernel_rfl) (by decide) (fun K hK => ?_)
     refine goes_ Tryz.func106 (by kernel_rfl) rfl #[ckV v (some ad) B st.length tr.length ca cb, .int .i64 tx] (by rfl) rfl rfl (by first | rfl | (go_simp; done) | (go_simp; exact ⟨rfl, rfl⟩) | (go_simp; rfl)) ?_
     refine (there_any (HM2.out.below (below_drewN' (Below.refl _ w3) 1)) v tx).mono ?_
     rw [HTr.out]
     rintro e1 w4 ⟨rfl, hb4⟩
     have hb4' : Below w3.heap.size w3 w4 := below_then (below_drewN' (Below.refl _ w3) 1) (Nat.le_refl _) hb4
     have HB4 := Lib.hid (below_then HB2.out HB2.out.size hb4')
     have HW4 := Lib.hid hb4'
     have k22 := (hb4'.block _ (lt_of_block HK2.out)).trans HK2.out
     have k33 := (hb4'.block _ (lt_of_block HK3.out)).trans HK3.out
     refine ⟨_, rfl, hK.out _ _ ⟨blk_cell k33 0, blk_cell k33 1, blk_cell k33 2, blk_cell k22 2, HA0.out _ HW4.out, (World.cell?_of_block (HW4.out.block _ (cell_lt' s0))).trans s0⟩ (fun hS4 => ?_)⟩
     clear hK K hHeld hb4 hb4' k22 k33
     iterate 13
      refine nxt_ (v := ?_) (a' := ?_) rfl rfl (by kernel_rfl) (fun _ _ _ h => h) (Or.inl ⟨by rfl, ?_⟩) hS4 ?_ ?_
      rotate_left
      ·rintro w' ⟨s0, s1, s2, s3, s4, s5⟩
       go_simp
       first | done | with_reducible rfl
      rotate_left
      ·simp only [Act.put, List.setIfInBounds_toArray, List.set_cons_zero, List.set_cons_succ, i64_w, i32_w]
       first | done | rfl
     refine one_ (i := 24) (N := some 50) (tf26 25) rfl rfl (by kernel_rfl) (by decide) (fun K hK => ?_)
     refine goes_ Tryz.func104 (by kernel_rfl) rfl #[.int .i64 k1] (by rfl) rfl rfl (by first | rfl | (go_simp; done) | (go_simp; exact ⟨rfl, rfl⟩) | (go_simp; rfl)) ?_
     refine (hist_any k1 _).mono ?_
     rw [HHh.out]
     rintro e1 w5 ⟨rfl, hb5⟩
     have HB5 := Lib.hid (below_then HB4.out HB4.out.size hb5)
     have HW5 := Lib.hid (below_then HW4.out HW4.out.size hb5)
     have k22 := (HW5.out.block _ (lt_of_block HK2.out)).trans HK2.out
     have k33 := (HW5.out.block _ (lt_of_block HK3.out)).trans HK3.out
     refine ⟨_, rfl, hK.out _ _ ⟨blk_cell k33 0, blk_cell k33 1, blk_cell k33 2, blk_cell k22 2, HA0.out _ HW5.out, (World.cell?_of_block (HW5.out.block _ (cell_lt' s0))).trans s0⟩ (fun hS5 => ?_)⟩
     clear hK K hb5 k22 k33 x0 x1 x2 b0 b2 a0 s0 hS4
     refine nxt_ (v := ?_) (a' := ?_) rfl rfl (by kernel_rfl) (fun _ _ _ h => h) (Or.inl ⟨by rfl, ?_⟩) hS5 ?_ ?_
     rotate_left
     ·rintro w' ⟨s0, s1, s2, s3, s4, s5⟩
      go_simp
      first | done | with_reducible rfl
     rotate_left
     ·simp only [Act.put, List.setIfInBounds_toArray, List.set_cons_zero, List.set_cons_succ, i64_w, i32_w]
      first | done | rfl
     refine done_ (by kernel_rfl) ?_
     go_wp2_with fail
     go_ret
     exact ⟨by rw [HR.out]; rfl, HB5.out⟩
    | false =>
     rw [if_neg (by rw [hh]; simp)] at HP4
     have HP5 := Lib.hid HP4
     have HHh := Lib.hid hh
     clear HP4 hh
     refine start_ (n := 26) (S := fun w' => w'.cell? ⟨w.heap.size, 0, none⟩ = some (.int .i64 v) ∧ w'.cell? ⟨w.heap.size, 1, none⟩ = some (.slice (some ad) st.length ca) ∧ w'.cell? ⟨w.heap.size, 2, none⟩ = some (.slice B tr.length cb) ∧ w'.cell? ⟨w.heap.size + 1, 2, none⟩ = some (.slice (some ad2) fl c2) ∧ w'.cell? ad2 = some (.int .i64 tx) ∧ w'.cell? (ad.add (tx.toNat * 5)) = some (.int .i64 k1)) (ds := []) (tf26 0) (by kernel_rfl) rfl (by kernel_rfl) ⟨x0, x1, x2, b2, a0, s0⟩ (fun hHeld => ?_)
     iterate 10
      refine nxt_ (v := ?_) (a' := ?_) rfl rfl (by kernel_rfl) (fun _ _ _ h => h) (Or.inl ⟨by rfl, ?_⟩) hHeld ?_ ?_
      rotate_left
      ·rintro w' ⟨s0, s1, s2, s3, s4, s5⟩
       go_simp
       first | done | with_reducible rfl
      rotate_left
      ·simp only [Act.put, List.setIfInBounds_toArray, List.set_cons_zero, List.set_cons_succ, i64_w, i32_w]
       first | done | rfl
     refine one_ (i := 10) (N := some 36) (tf26 11) rfl rfl (by kernel_rfl) (by decide) (fun K hK => ?_)
     refine goes_ Tryz.func106 (by kernel_rfl) rfl #[ckV v (some ad) B st.length tr.length ca cb, .int .i64 tx] (by rfl) rfl rfl (by first | rfl | (go_simp; done) | (go_simp; exact ⟨rfl, rfl⟩) | (go_simp; rfl)) ?_
     refine (there_any (HM2.out.below (below_drewN' (Below.refl _ w3) 1)) v tx).mono ?_
     rw [HTr.out]
     rintro e1 w4 ⟨rfl, hb4⟩
     have hb4' : Below w3.heap.size w3 w4 := below_then (below_drewN' (Below.refl _ w3) 1) (Nat.le_refl _) hb4
     have HB4 := Lib.hid (below_then HB2.out HB2.out.size hb4')
     have HW4 := Lib.hid hb4'
     have k22 := (hb4'.block _ (lt_of_block HK2.out)).trans HK2.out
     have k33 := (hb4'.block _ (lt_of_block HK3.out)).trans HK3.out
     refine ⟨_, rfl, hK.out _ _ ⟨blk_cell k33 0, blk_cell k33 1, blk_cell k33 2, blk_cell k22 2, HA0.out _ HW4.out, (World.cell?_of_block (HW4.out.block _ (cell_lt' s0))).trans s0⟩ (fun hS4 => ?_)⟩
     clear hK K hHeld hb4 hb4' k22 k33
     iterate 13
      refine nxt_ (v := ?_) (a' := ?_) rfl rfl (by kernel_rfl) (fun _ _ _ h => h) (Or.inl ⟨by rfl, ?_⟩) hS4 ?_ ?_
      rotate_left
      ·rintro w' ⟨s0, s1, s2, s3, s4, s5⟩
       go_simp
       first | done | with_reducible rfl
      rotate_left
      ·simp only [Act.put, List.setIfInBounds_toArray, List.set_cons_zero, List.set_cons_succ, i64_w, i32_w]
       first | done | rfl
     refine one_ (i := 24) (N := some 50) (tf26 25) rfl rfl (by kernel_rfl) (by decide) (fun K hK => ?_)
     refine goes_ Tryz.func104 (by kernel_rfl) rfl #[.int .i64 k1] (by rfl) rfl rfl (by first | rfl | (go_simp; done) | (go_simp; exact ⟨rfl, rfl⟩) | (go_simp; rfl)) ?_
     refine (hist_any k1 _).mono ?_
     rw [HHh.out]
     rintro e1 w5 ⟨rfl, hb5⟩
     have HB5 := Lib.hid (below_then HB4.out HB4.out.size hb5)
     have HW5 := Lib.hid (below_then HW4.out HW4.out.size hb5)
     have k22 := (HW5.out.block _ (lt_of_block HK2.out)).trans HK2.out
     have k33 := (HW5.out.block _ (lt_of_block HK3.out)).trans HK3.out
     refine ⟨_, rfl, hK.out _ _ ⟨blk_cell k33 0, blk_cell k33 1, blk_cell k33 2, blk_cell k22 2, HA0.out _ HW5.out, (World.cell?_of_block (HW5.out.block _ (cell_lt' s0))).trans s0⟩ (fun hS5 => ?_)⟩
     clear hK K hb5 k22 k33 x0 x1 x2 b0 b2 a0 s0 hS4
     refine nxt_ (v := ?_) (a' := ?_) rfl rfl (by kernel_rfl) (fun _ _ _ h => h) (Or.inl ⟨by rfl, ?_⟩) hS5 ?_ ?_
     rotate_left
     ·rintro w' ⟨s0, s1, s2, s3, s4, s5⟩
      go_simp
      first | done | with_reducible rfl
     rotate_left
     ·simp only [Act.put, List.setIfInBounds_toArray, List.set_cons_zero, List.set_cons_succ, i64_w, i32_w]
      first | done | rfl
     refine done_ (by kernel_rfl) ?_
     have a5 := HA0.out _ HW5.out
     have k22 := (HW5.out.block _ (lt_of_block HK2.out)).trans HK2.out
     have k33 := (HW5.out.block _ (lt_of_block HK3.out)).trans HK3.out
     have b0 : w5.cell? ⟨w.heap.size + 1, 0, none⟩ = some (.int .i64 f0) := blk_cell k22 0
     have b1 : w5.cell? ⟨w.heap.size + 1, 1, none⟩ = some (.int .i64 f1) := blk_cell k22 1
     have b2 : w5.cell? ⟨w.heap.size + 1, 2, none⟩ = some (.slice (some ad2) fl c2) := blk_cell k22 2
     have x0 : w5.cell? ⟨w.heap.size, 0, none⟩ = some (.int .i64 v) := blk_cell k33 0
     have x1 : w5.cell? ⟨w.heap.size, 1, none⟩ = some (.slice (some ad) st.length ca) := blk_cell k33 1
     have x2 : w5.cell? ⟨w.heap.size, 2, none⟩ = some (.slice B tr.length cb) := blk_cell k33 2
     have s5 := HS1.out _ HW5.out
     have HM5 := Lib.hid (HM2.out.below HW5.out)
     clear k22 k33
     by_cases k2' : f0 = 2
     case' pos =>
      have d3 : (f0 == 2) = true := beq_iff_eq.mpr k2'
      have HR : Hid (inC st tx i = G) := Lib.hid (by rw [← HP5.out, if_pos k2'])
      clear HP5 k2'
      go_wp2_with fail
      refine (in_any HM5.out v tx i).mono ?_
      rw [HR.out]
      rintro e w6 ⟨rfl, hb6⟩
      have HB6 := Lib.hid (below_then HB5.out HB5.out.size hb6)
      clear hb6
      go_wp2_with fail
      go_ret
      exact ⟨rfl, HB6.out⟩
     case' neg =>
      have d3 : (f0 == 2) = false := beq_eq_false_iff_ne.mpr k2'
      by_cases k5 : f0 = 5
      case' pos =>
       have d4 : (f0 == 5) = true := beq_iff_eq.mpr k5
       have HR : Hid ((k2 == f1) = G) := Lib.hid (by rw [← HP5.out, if_neg k2', if_pos k5])
       clear HP5 k2' k5
       go_wp2_with fail
       go_quiet (fail)
       go_wp2_with fail
       go_ret
       exact ⟨by rw [← HR.out]; rfl, below_drewN' HB5.out _⟩
      case' neg =>
       have d4 : (f0 == 5) = false := beq_eq_false_iff_ne.mpr k5
       have HR : Hid (inC st tx f1 = G) := Lib.hid (by rw [← HP5.out, if_neg k2', if_neg k5])
       clear HP5 k2' k5
       go_wp2_with fail
       refine (in_any HM5.out v tx f1).mono ?_
       rw [HR.out]
       rintro e w6 ⟨rfl, hb6⟩
       have HB6 := Lib.hid (below_then HB5.out HB5.out.size hb6)
       clear hb6
       go_wp2_with fail
       go_ret
       exact ⟨rfl, HB6.out⟩
end
end Go.Proofs.YtikilglbhnplaaaGreatDoor
end
section
namespace Go.Proofs.YtikilglbhnplaaaGreatDoor
open Go.RowKit Go.Proofs.YtikilglbhnplaaaGreatDoorW.PrintWords
open PX (T V)
noncomputable def stateP (v : Int) (st : List Sta) (i : Int) : Int :=
 if (PAll.rd_T66 st i).f0 < 1 ∨ 6 < (PAll.rd_T66 st i).f0 ∨ i = 0 ∧ (PAll.rd_T66 st i).f0 ≠ 2 then 10
 else if parP st i ≠ 0 then parP st i
 else if ((PAll.rd_T66 st i).f0 = 2 ∨ (PAll.rd_T66 st i).f0 = 3) ∧ kidsP st i = [] then 4
 else if iniP st i = false then 11
 else if histP (PAll.rd_T66 st i).f0 = true ∧ 0 < (PAll.rd_T66 st i).f3.length + (PAll.rd_T66 st i).f4.length then 1
 else if actsP v (PAll.rd_T66 st i).f3 = false then 1
 else if actsP v (PAll.rd_T66 st i).f4 = false then 1
 else 0
theorem state_full {A B : Option Addr} {ca cb : Nat} {st : List Sta} {tr : List Tra} {w : World} (h : ChM w A ca st B cb tr) (i : Int) (h0 : 0 ≤ i) (h1 : i < (st.length : Int)) :
  ∃ ad A2 c2 A3 c3 A4 c4, A = some ad ∧ w.cell? (ad.add (i.toNat * 5)) = some (.int .i64 (PAll.rd_T66 st i).f0) ∧ w.cell? ⟨(ad.add (i.toNat * 5)).block, (ad.add (i.toNat * 5)).off + 1, none⟩ = some (.int .i64 (PAll.rd_T66 st i).f1) ∧
   w.cell? ⟨(ad.add (i.toNat * 5)).block, (ad.add (i.toNat * 5)).off + 2, none⟩ = some (.slice A2 (PAll.rd_T66 st i).f2.length c2) ∧ w.cell? ⟨(ad.add (i.toNat * 5)).block, (ad.add (i.toNat * 5)).off + 3, none⟩ = some (.slice A3 (PAll.rd_T66 st i).f3.length c3) ∧
   w.cell? ⟨(ad.add (i.toNat * 5)).block, (ad.add (i.toNat * 5)).off + 4, none⟩ = some (.slice A4 (PAll.rd_T66 st i).f4.length c4) ∧ (PAll.rd_T66 st i).f3.length ≤ c3 ∧ ActsC w A3 (PAll.rd_T66 st i).f3.length (PAll.rd_T66 st i).f3 ∧ (PAll.rd_T66 st i).f4.length ≤ c4 ∧ ActsC w A4 (PAll.rd_T66 st i).f4.length (PAll.rd_T66 st i).f4 := by
 obtain ⟨ad, A2, c2, A3, c3, A4, c4, hA, k0, k1, k2, k3, k4, l2, g2, l3, g3, l4, g4⟩ := PAll.at_T66 h.cs i h0 h1
 exact ⟨ad, A2, c2, A3, c3, A4, c4, hA, k0, k1, k2, k3, k4, l3, g3, l4, g4⟩
theorem state_any (v : Int) (A B : Option Addr) (ca cb : Nat) (st : List Sta) (tr : List Tra) (i : Int) (h0 : 0 ≤ i) (h1 : i < (st.length : Int)) (hn : st.length ≤ 1000) (hsz : ∀ a ∈ (PAll.rd_T66 st i).f3 ++ (PAll.rd_T66 st i).f4, a.f3.size ≤ 281474976710656) (hn3 : (PAll.rd_T66 st i).f3.length ≤ 1000) (hn4 : (PAll.rd_T66 st i).f4.length ≤ 1000) (w : World) (hw : Laid w) (hM : ChM w A ca st B cb tr) :
  Calls Tryz.prog 80 #[ckV v A B st.length tr.length ca cb, .int .i64 i] w fun e w' => e = .returned (.int .i64 (stateP v st i)) ∧ Below w.heap.size w w' := by
 have hM1 := hM.below ((Below.refl _ w).alloc (Nat.le_refl _) (.cells #[.int .i64 v, .slice A st.length ca, .slice B tr.length cb] 136))
 obtain ⟨ad, A2, c2, A3, c3, A4, c4, rfl, a0, a1, a2, a3, a4, l3, g3, l4, g4⟩ := state_full hM1 i h0 h1
 have HP : Hid (stateP v st i = if (PAll.rd_T66 st i).f0 < 1 ∨ 6 < (PAll.rd_T66 st i).f0 ∨ i = 0 ∧ (PAll.rd_T66 st i).f0 ≠ 2 then 10
  else if parP st i ≠ 0 then parP st i
  else if ((PAll.rd_T66 st i).f0 = 2 ∨ (PAll.rd_T66 st i).f0 = 3) ∧ kidsP st i = [] then 4
  else if iniP st i = false then 11
  else if histP (PAll.rd_T66 st i).f0 = true ∧ 0 < (PAll.rd_T66 st i).f3.length + (PAll.rd_T66 st i).f4.length then 1
  else if actsP v (PAll.rd_T66 st i).f3 = false then 1
  else if actsP v (PAll.rd_T66 st i).f4 = false then 1
  else 0) := Lib.hid rfl
 generalize PAll.rd_T66 st i = x at *
 obtain ⟨k, p, ini, en, ex⟩ := x
 simp only at HP a0 a1 a2 a3 a4 l3 g3 l4 g4 hsz hn3 hn4
 have hb0 : Below w.heap.size w ((w.alloc (.cells #[.int .i64 v, .slice (some ad) st.length ca, .slice B tr.length cb] 136)).alloc (.cells #[.int .i64 k, .int .i64 p, .slice A2 ini.length c2, .slice A3 en.length c3, .slice A4 ex.length c4] 66)) :=
  ((Below.refl _ w).alloc (Nat.le_refl _) _).alloc (by simp) _
 have HB0 := Lib.hid hb0
 have HW := Lib.hid (hw.below hb0)
 have HM := Lib.hid (hM.below hb0)
 have H3 := Lib.hid (Kd.C_alloc g3 (.cells #[.int .i64 k, .int .i64 p, .slice A2 ini.length c2, .slice A3 en.length c3, .slice A4 ex.length c4] 66))
 have H4 := Lib.hid (Kd.C_alloc g4 (.cells #[.int .i64 k, .int .i64 p, .slice A2 ini.length c2, .slice A3 en.length c3, .slice A4 ex.length c4] 66))
 have p0 : (0 ≤ i) = True := eq_true h0
 have p1 : (i < (st.length : Int)) = True := eq_true h1
 clear hb0 hw hM hM1 g3 g4
 by_cases hbad : k < 1 ∨ 6 < k ∨ i = 0 ∧ k ≠ 2
 ·have HR : Hid (stateP v st i = 10) := Lib.hid (by rw [HP.out, if_pos hbad])
  have hor : decide (k < 1) = true ∨ (decide (k < 1) = false ∧ decide (k > 6) = true) ∨ (decide (k < 1) = false ∧ decide (k > 6) = false ∧ (i == 0) = true ∧ (k == 2) = false) := by
   by_cases q1 : k < 1
   ·exact .inl (decide_eq_true q1)
   ·by_cases q2 : 6 < k
    ·exact .inr (.inl ⟨decide_eq_false q1, decide_eq_true q2⟩)
    ·rcases hbad with h | h | ⟨h, h'⟩
     ·exact absurd h q1
     ·exact absurd h q2
     ·exact .inr (.inr ⟨decide_eq_false q1, decide_eq_false q2, by simp [h], by simp [h']⟩)
  clear hbad HP
  go_enter Tryz.func80, Tryz.ntmps80
  rcases hor with q1 | ⟨q1, q2⟩ | ⟨q1, q2, q3, q4⟩
  ·go_wp2_with fail
   go_ret
   exact ⟨by rw [HR.out]; rfl, HB0.out⟩
  ·go_wp2_with fail
   go_ret
   exact ⟨by rw [HR.out]; rfl, HB0.out⟩
  ·have q5 : (k != 2) = true := by simpa using q4
   go_wp2_with fail
   go_ret
   exact ⟨by rw [HR.out]; rfl, HB0.out⟩
 have HP1 := HP.out
 rw [if_neg hbad] at HP1
 have HP2 := Lib.hid HP1
 have hfin : ∀ wr, Below ((w.alloc (.cells #[.int .i64 v, .slice (some ad) st.length ca, .slice B tr.length cb] 136)).alloc (.cells #[.int .i64 k, .int .i64 p, .slice A2 ini.length c2, .slice A3 en.length c3, .slice A4 ex.length c4] 66)).heap.size ((w.alloc (.cells #[.int .i64 v, .slice (some ad) st.length ca, .slice B tr.length cb] 136)).alloc (.cells #[.int .i64 k, .int .i64 p, .slice A2 ini.length c2, .slice A3 en.length c3, .slice A4 ex.length c4] 66)) wr → Below w.heap.size w wr := fun wr h => HB0.out.trans (h.mono HB0.out.size)
 have HFin := Lib.hid hfin
 have HBr : Hid (Below ((w.alloc (.cells #[.int .i64 v, .slice (some ad) st.length ca, .slice B tr.length cb] 136)).alloc (.cells #[.int .i64 k, .int .i64 p, .slice A2 ini.length c2, .slice A3 en.length c3, .slice A4 ex.length c4] 66)).heap.size ((w.alloc (.cells #[.int .i64 v, .slice (some ad) st.length ca, .slice B tr.length cb] 136)).alloc (.cells #[.int .i64 k, .int .i64 p, .slice A2 ini.length c2, .slice A3 en.length c3, .slice A4 ex.length c4] 66)) ((w.alloc (.cells #[.int .i64 v, .slice (some ad) st.length ca, .slice B tr.length cb] 136)).alloc (.cells #[.int .i64 k, .int .i64 p, .slice A2 ini.length c2, .slice A3 en.length c3, .slice A4 ex.length c4] 66))) := Lib.hid (Below.refl _ _)
 obtain ⟨hk1, hk2, _, _⟩ := boxed2 HBr.out
 have HCK := Lib.hid hk1
 have HST := Lib.hid hk2
 have HZ := Lib.hid hsz
 clear hfin hk1 hk2 hsz
 have hg1 : decide (k < 1) = false := decide_eq_false (by omega)
 have hg2 : decide (k > 6) = false := decide_eq_false (by omega)
 have hi0 : i = 0 → k = 2 := fun h => Classical.byContradiction fun h' => hbad (.inr (.inr ⟨h, h'⟩))
 clear hbad HP HP1
 by_cases k2 : k = 2
 ·subst k2
  clear hg1 hg2 hi0
  go_enter Tryz.func80, Tryz.ntmps80
  have hor : (i == 0) = false ∨ (i == 0) = true := by cases (i == 0) <;> simp
  rcases hor with q | q
  all_goals
   go_wp2_with fail
   refine (parentw HM.out v i h0 h1 (by omega)).mono ?_
   by_cases hz : parP st i = 0
   ·rw [hz]
    have HP1 := HP2.out
    rw [if_neg (fun h => h hz)] at HP1
    have HP2 := Lib.hid HP1
    clear HP1
    clear hz
    rintro e w1 ⟨rfl, hb1⟩
    have HB1 := Lib.hid (below_then HBr.out HBr.out.size hb1)
    have hck := (HB1.out.block _ (lt_of_block HCK.out)).trans HCK.out
    have hst := (HB1.out.block _ (lt_of_block HST.out)).trans HST.out
    obtain ⟨y0, y1, y2⟩ := chk_cells hck
    obtain ⟨x0, x1, x2, x3, x4⟩ : _ ∧ _ ∧ _ ∧ _ ∧ _ := ⟨blk_cell hst 0, blk_cell hst 1, blk_cell hst 2, blk_cell hst 3, blk_cell hst 4⟩
    clear hck hst hb1
    go_wp2_with fail
    refine (kids_any (HM.out.below HB1.out) v i (by omega)).mono ?_
    clear y0 y1 y2 x0 x1 x2 x3 x4
    rintro e w2 ⟨u, rfl, hu, hb2⟩
    obtain ⟨U, uc, rfl⟩ := Kd.R_slice hu
    clear hu
    have HB2 := Lib.hid (below_then HB1.out HB1.out.size hb2)
    have hck := (HB2.out.block _ (lt_of_block HCK.out)).trans HCK.out
    have hst := (HB2.out.block _ (lt_of_block HST.out)).trans HST.out
    obtain ⟨y0, y1, y2⟩ := chk_cells hck
    obtain ⟨x0, x1, x2, x3, x4⟩ : _ ∧ _ ∧ _ ∧ _ ∧ _ := ⟨blk_cell hst 0, blk_cell hst 1, blk_cell hst 2, blk_cell hst 3, blk_cell hst 4⟩
    clear hck hst hb2
    by_cases hk : kidsP st i = []
    ·have HR : Hid (stateP v st i = 4) := Lib.hid (by rw [HP2.out]; rw [if_pos ⟨by decide, hk⟩])
     rw [hk]
     clear hk
     go_wp2_with fail
     go_ret
     exact ⟨by rw [HR.out]; rfl, HFin.out _ HB2.out⟩
    ·have HP1 := HP2.out
     rw [if_neg (fun h => hk h.2)] at HP1
     have HP2 := Lib.hid HP1
     clear HP1
     have d7 : (((kidsP st i).length : Int) == 0) = false := by
      have : (kidsP st i).length ≠ 0 := fun h => hk (List.length_eq_zero_iff.1 h)
      simp; exact hk
     clear hk
     go_wp2_with fail
     refine (initialw (HM.out.below HB2.out) v i h0 h1).mono ?_
     cases e0 : iniP st i with
     | false =>
      have HR : Hid (stateP v st i = 11) := Lib.hid (by rw [HP2.out]; rw [if_pos e0])
      clear e0
      clear y0 y1 y2 x0 x1 x2 x3 x4
      rintro e w3 ⟨rfl, hb3⟩
      have HB3 := Lib.hid (below_then HB2.out HB2.out.size hb3)
      have hck := (HB3.out.block _ (lt_of_block HCK.out)).trans HCK.out
      have hst := (HB3.out.block _ (lt_of_block HST.out)).trans HST.out
      obtain ⟨y0, y1, y2⟩ := chk_cells hck
      obtain ⟨x0, x1, x2, x3, x4⟩ : _ ∧ _ ∧ _ ∧ _ ∧ _ := ⟨blk_cell hst 0, blk_cell hst 1, blk_cell hst 2, blk_cell hst 3, blk_cell hst 4⟩
      clear hck hst hb3
      go_wp2_with fail
      go_ret
      exact ⟨by rw [HR.out]; rfl, HFin.out _ HB3.out⟩
     | true =>
      have HP1 := HP2.out
      rw [if_neg (by rw [e0]; simp)] at HP1
      have HP2 := Lib.hid HP1
      clear HP1
      clear e0
      clear y0 y1 y2 x0 x1 x2 x3 x4
      rintro e w3 ⟨rfl, hb3⟩
      have HB3 := Lib.hid (below_then HB2.out HB2.out.size hb3)
      have hck := (HB3.out.block _ (lt_of_block HCK.out)).trans HCK.out
      have hst := (HB3.out.block _ (lt_of_block HST.out)).trans HST.out
      obtain ⟨y0, y1, y2⟩ := chk_cells hck
      obtain ⟨x0, x1, x2, x3, x4⟩ : _ ∧ _ ∧ _ ∧ _ ∧ _ := ⟨blk_cell hst 0, blk_cell hst 1, blk_cell hst 2, blk_cell hst 3, blk_cell hst 4⟩
      clear hck hst hb3
      go_wp2_with fail
      refine (hist_any _ _).mono ?_
      rw [show histP 2 = false from rfl]
      have HP1 := HP2.out
      rw [if_neg (by rw [show histP 2 = false from rfl]; simp)] at HP1
      have HP2 := Lib.hid HP1
      clear HP1
      clear y0 y1 y2 x0 x1 x2 x3 x4
      rintro e w4 ⟨rfl, hb4⟩
      have HB4 := Lib.hid (below_then HB3.out HB3.out.size hb4)
      have hck := (HB4.out.block _ (lt_of_block HCK.out)).trans HCK.out
      have hst := (HB4.out.block _ (lt_of_block HST.out)).trans HST.out
      obtain ⟨y0, y1, y2⟩ := chk_cells hck
      obtain ⟨x0, x1, x2, x3, x4⟩ : _ ∧ _ ∧ _ ∧ _ ∧ _ := ⟨blk_cell hst 0, blk_cell hst 1, blk_cell hst 2, blk_cell hst 3, blk_cell hst 4⟩
      clear hck hst hb4
      go_wp2_with fail
      refine (acts_any v (some ad) B st.length tr.length ca cb A3 c3 en (fun a ha => HZ.out a (by simp [ha])) _ (HW.out.below HB4.out) (Kd.C_below H3.out HB4.out) l3).mono ?_
      cases e1 : actsP v en with
      | false =>
       have HR : Hid (stateP v st i = 1) := Lib.hid (by rw [HP2.out]; rw [if_pos e1])
       clear e1
       clear y0 y1 y2 x0 x1 x2 x3 x4
       rintro e w5 ⟨rfl, hb5⟩
       have HB5 := Lib.hid (below_then HB4.out HB4.out.size hb5)
       have hck := (HB5.out.block _ (lt_of_block HCK.out)).trans HCK.out
       have hst := (HB5.out.block _ (lt_of_block HST.out)).trans HST.out
       obtain ⟨y0, y1, y2⟩ := chk_cells hck
       obtain ⟨x0, x1, x2, x3, x4⟩ : _ ∧ _ ∧ _ ∧ _ ∧ _ := ⟨blk_cell hst 0, blk_cell hst 1, blk_cell hst 2, blk_cell hst 3, blk_cell hst 4⟩
       clear hck hst hb5
       go_wp2_with fail
       go_ret
       exact ⟨by rw [HR.out]; rfl, HFin.out _ HB5.out⟩
      | true =>
       have HP1 := HP2.out
       rw [if_neg (by rw [e1]; simp)] at HP1
       have HP2 := Lib.hid HP1
       clear HP1
       clear e1
       clear y0 y1 y2 x0 x1 x2 x3 x4
       rintro e w5 ⟨rfl, hb5⟩
       have HB5 := Lib.hid (below_then HB4.out HB4.out.size hb5)
       have hck := (HB5.out.block _ (lt_of_block HCK.out)).trans HCK.out
       have hst := (HB5.out.block _ (lt_of_block HST.out)).trans HST.out
       obtain ⟨y0, y1, y2⟩ := chk_cells hck
       obtain ⟨x0, x1, x2, x3, x4⟩ : _ ∧ _ ∧ _ ∧ _ ∧ _ := ⟨blk_cell hst 0, blk_cell hst 1, blk_cell hst 2, blk_cell hst 3, blk_cell hst 4⟩
       clear hck hst hb5
       go_wp2_with fail
       refine (acts_any v (some ad) B st.length tr.length ca cb A4 c4 ex (fun a ha => HZ.out a (by simp [ha])) _ (HW.out.below HB5.out) (Kd.C_below H4.out HB5.out) l4).mono ?_
       cases e2 : actsP v ex with
       | false =>
        have HR : Hid (stateP v st i = 1) := Lib.hid (by rw [HP2.out]; rw [if_pos e2])
        clear e2
        clear y0 y1 y2 x0 x1 x2 x3 x4
        rintro e w6 ⟨rfl, hb6⟩
        have HB6 := Lib.hid (below_then HB5.out HB5.out.size hb6)
        have hck := (HB6.out.block _ (lt_of_block HCK.out)).trans HCK.out
        have hst := (HB6.out.block _ (lt_of_block HST.out)).trans HST.out
        obtain ⟨y0, y1, y2⟩ := chk_cells hck
        obtain ⟨x0, x1, x2, x3, x4⟩ : _ ∧ _ ∧ _ ∧ _ ∧ _ := ⟨blk_cell hst 0, blk_cell hst 1, blk_cell hst 2, blk_cell hst 3, blk_cell hst 4⟩
        clear hck hst hb6
        go_wp2_with fail
        go_ret
        exact ⟨by rw [HR.out]; rfl, HFin.out _ HB6.out⟩
       | true =>
        have HR : Hid (stateP v st i = 0) := Lib.hid (by rw [HP2.out]; rw [if_neg (by rw [e2]; simp)])
        clear e2
        clear y0 y1 y2 x0 x1 x2 x3 x4
        rintro e w6 ⟨rfl, hb6⟩
        have HB6 := Lib.hid (below_then HB5.out HB5.out.size hb6)
        have hck := (HB6.out.block _ (lt_of_block HCK.out)).trans HCK.out
        have hst := (HB6.out.block _ (lt_of_block HST.out)).trans HST.out
        obtain ⟨y0, y1, y2⟩ := chk_cells hck
        obtain ⟨x0, x1, x2, x3, x4⟩ : _ ∧ _ ∧ _ ∧ _ ∧ _ := ⟨blk_cell hst 0, blk_cell hst 1, blk_cell hst 2, blk_cell hst 3, blk_cell hst 4⟩
        clear hck hst hb6
        go_wp2_with fail
        go_ret
        exact ⟨by rw [HR.out]; rfl, HFin.out _ HB6.out⟩
   ·have HR : Hid (stateP v st i = parP st i) := Lib.hid (by rw [HP2.out]; rw [if_pos hz])
    have d0 : (parP st i == 0) = false := by simp [hz]
    have d00 : (parP st i != 0) = true := by simp [hz]
    generalize parP st i = pc at HR d0 d00 ⊢
    clear hz
    rintro e w1 ⟨rfl, hb1⟩
    have HB1 := Lib.hid (below_then HBr.out HBr.out.size hb1)
    have hck := (HB1.out.block _ (lt_of_block HCK.out)).trans HCK.out
    have hst := (HB1.out.block _ (lt_of_block HST.out)).trans HST.out
    obtain ⟨y0, y1, y2⟩ := chk_cells hck
    obtain ⟨x0, x1, x2, x3, x4⟩ : _ ∧ _ ∧ _ ∧ _ ∧ _ := ⟨blk_cell hst 0, blk_cell hst 1, blk_cell hst 2, blk_cell hst 3, blk_cell hst 4⟩
    clear hck hst hb1
    go_wp2_with fail
    go_ret
    exact ⟨by rw [HR.out]; rfl, HFin.out _ HB1.out⟩
 have hin : i ≠ 0 := fun h => k2 (hi0 h)
 have q : (i == 0) = false := by simp [hin]
 clear hi0
 by_cases k3 : k = 3
 ·subst k3
  clear hg1 hg2 k2
  go_enter Tryz.func80, Tryz.ntmps80
  go_wp2_with fail
  refine (parentw HM.out v i h0 h1 (by omega)).mono ?_
  by_cases hz : parP st i = 0
  ·rw [hz]
   have HP1 := HP2.out
   rw [if_neg (fun h => h hz)] at HP1
   have HP2 := Lib.hid HP1
   clear HP1
   clear hz
   rintro e w7 ⟨rfl, hb7⟩
   have HB7 := Lib.hid (below_then HBr.out HBr.out.size hb7)
   have hck := (HB7.out.block _ (lt_of_block HCK.out)).trans HCK.out
   have hst := (HB7.out.block _ (lt_of_block HST.out)).trans HST.out
   obtain ⟨y0, y1, y2⟩ := chk_cells hck
   obtain ⟨x0, x1, x2, x3, x4⟩ : _ ∧ _ ∧ _ ∧ _ ∧ _ := ⟨blk_cell hst 0, blk_cell hst 1, blk_cell hst 2, blk_cell hst 3, blk_cell hst 4⟩
   clear hck hst hb7
   go_wp2_with fail
   refine (kids_any (HM.out.below HB7.out) v i (by omega)).mono ?_
   clear y0 y1 y2 x0 x1 x2 x3 x4
   rintro e w8 ⟨u, rfl, hu, hb8⟩
   obtain ⟨U, uc, rfl⟩ := Kd.R_slice hu
   clear hu
   have HB8 := Lib.hid (below_then HB7.out HB7.out.size hb8)
   have hck := (HB8.out.block _ (lt_of_block HCK.out)).trans HCK.out
   have hst := (HB8.out.block _ (lt_of_block HST.out)).trans HST.out
   obtain ⟨y0, y1, y2⟩ := chk_cells hck
   obtain ⟨x0, x1, x2, x3, x4⟩ : _ ∧ _ ∧ _ ∧ _ ∧ _ := ⟨blk_cell hst 0, blk_cell hst 1, blk_cell hst 2, blk_cell hst 3, blk_cell hst 4⟩
   clear hck hst hb8
   by_cases hk : kidsP st i = []
   ·have HR : Hid (stateP v st i = 4) := Lib.hid (by rw [HP2.out]; rw [if_pos ⟨by decide, hk⟩])
    rw [hk]
    clear hk
    go_wp2_with fail
    go_ret
    exact ⟨by rw [HR.out]; rfl, HFin.out _ HB8.out⟩
   ·have HP1 := HP2.out
    rw [if_neg (fun h => hk h.2)] at HP1
    have HP2 := Lib.hid HP1
    clear HP1
    have d7 : (((kidsP st i).length : Int) == 0) = false := by
     have : (kidsP st i).length ≠ 0 := fun h => hk (List.length_eq_zero_iff.1 h)
     simp; exact hk
    clear hk
    go_wp2_with fail
    refine (initialw (HM.out.below HB8.out) v i h0 h1).mono ?_
    cases e0 : iniP st i with
    | false =>
     have HR : Hid (stateP v st i = 11) := Lib.hid (by rw [HP2.out]; rw [if_pos e0])
     clear e0
     clear y0 y1 y2 x0 x1 x2 x3 x4
     rintro e w9 ⟨rfl, hb9⟩
     have HB9 := Lib.hid (below_then HB8.out HB8.out.size hb9)
     have hck := (HB9.out.block _ (lt_of_block HCK.out)).trans HCK.out
     have hst := (HB9.out.block _ (lt_of_block HST.out)).trans HST.out
     obtain ⟨y0, y1, y2⟩ := chk_cells hck
     obtain ⟨x0, x1, x2, x3, x4⟩ : _ ∧ _ ∧ _ ∧ _ ∧ _ := ⟨blk_cell hst 0, blk_cell hst 1, blk_cell hst 2, blk_cell hst 3, blk_cell hst 4⟩
     clear hck hst hb9
     go_wp2_with fail
     go_ret
     exact ⟨by rw [HR.out]; rfl, HFin.out _ HB9.out⟩
    | true =>
     have HP1 := HP2.out
     rw [if_neg (by rw [e0]; simp)] at HP1
     have HP2 := Lib.hid HP1
     clear HP1
     clear e0
     clear y0 y1 y2 x0 x1 x2 x3 x4
     rintro e w9 ⟨rfl, hb9⟩
     have HB9 := Lib.hid (below_then HB8.out HB8.out.size hb9)
     have hck := (HB9.out.block _ (lt_of_block HCK.out)).trans HCK.out
     have hst := (HB9.out.block _ (lt_of_block HST.out)).trans HST.out
     obtain ⟨y0, y1, y2⟩ := chk_cells hck
     obtain ⟨x0, x1, x2, x3, x4⟩ : _ ∧ _ ∧ _ ∧ _ ∧ _ := ⟨blk_cell hst 0, blk_cell hst 1, blk_cell hst 2, blk_cell hst 3, blk_cell hst 4⟩
     clear hck hst hb9
     go_wp2_with fail
     refine (hist_any _ _).mono ?_
     rw [show histP 3 = false from rfl]
     have HP1 := HP2.out
     rw [if_neg (by rw [show histP 3 = false from rfl]; simp)] at HP1
     have HP2 := Lib.hid HP1
     clear HP1
     clear y0 y1 y2 x0 x1 x2 x3 x4
     rintro e w10 ⟨rfl, hb10⟩
     have HB10 := Lib.hid (below_then HB9.out HB9.out.size hb10)
     have hck := (HB10.out.block _ (lt_of_block HCK.out)).trans HCK.out
     have hst := (HB10.out.block _ (lt_of_block HST.out)).trans HST.out
     obtain ⟨y0, y1, y2⟩ := chk_cells hck
     obtain ⟨x0, x1, x2, x3, x4⟩ : _ ∧ _ ∧ _ ∧ _ ∧ _ := ⟨blk_cell hst 0, blk_cell hst 1, blk_cell hst 2, blk_cell hst 3, blk_cell hst 4⟩
     clear hck hst hb10
     go_wp2_with fail
     refine (acts_any v (some ad) B st.length tr.length ca cb A3 c3 en (fun a ha => HZ.out a (by simp [ha])) _ (HW.out.below HB10.out) (Kd.C_below H3.out HB10.out) l3).mono ?_
     cases e1 : actsP v en with
     | false =>
      have HR : Hid (stateP v st i = 1) := Lib.hid (by rw [HP2.out]; rw [if_pos e1])
      clear e1
      clear y0 y1 y2 x0 x1 x2 x3 x4
      rintro e w11 ⟨rfl, hb11⟩
      have HB11 := Lib.hid (below_then HB10.out HB10.out.size hb11)
      have hck := (HB11.out.block _ (lt_of_block HCK.out)).trans HCK.out
      have hst := (HB11.out.block _ (lt_of_block HST.out)).trans HST.out
      obtain ⟨y0, y1, y2⟩ := chk_cells hck
      obtain ⟨x0, x1, x2, x3, x4⟩ : _ ∧ _ ∧ _ ∧ _ ∧ _ := ⟨blk_cell hst 0, blk_cell hst 1, blk_cell hst 2, blk_cell hst 3, blk_cell hst 4⟩
      clear hck hst hb11
      go_wp2_with fail
      go_ret
      exact ⟨by rw [HR.out]; rfl, HFin.out _ HB11.out⟩
     | true =>
      have HP1 := HP2.out
      rw [if_neg (by rw [e1]; simp)] at HP1
      have HP2 := Lib.hid HP1
      clear HP1
      clear e1
      clear y0 y1 y2 x0 x1 x2 x3 x4
      rintro e w11 ⟨rfl, hb11⟩
      have HB11 := Lib.hid (below_then HB10.out HB10.out.size hb11)
      have hck := (HB11.out.block _ (lt_of_block HCK.out)).trans HCK.out
      have hst := (HB11.out.block _ (lt_of_block HST.out)).trans HST.out
      obtain ⟨y0, y1, y2⟩ := chk_cells hck
      obtain ⟨x0, x1, x2, x3, x4⟩ : _ ∧ _ ∧ _ ∧ _ ∧ _ := ⟨blk_cell hst 0, blk_cell hst 1, blk_cell hst 2, blk_cell hst 3, blk_cell hst 4⟩
      clear hck hst hb11
      go_wp2_with fail
      refine (acts_any v (some ad) B st.length tr.length ca cb A4 c4 ex (fun a ha => HZ.out a (by simp [ha])) _ (HW.out.below HB11.out) (Kd.C_below H4.out HB11.out) l4).mono ?_
      cases e2 : actsP v ex with
      | false =>
       have HR : Hid (stateP v st i = 1) := Lib.hid (by rw [HP2.out]; rw [if_pos e2])
       clear e2
       clear y0 y1 y2 x0 x1 x2 x3 x4
       rintro e w12 ⟨rfl, hb12⟩
       have HB12 := Lib.hid (below_then HB11.out HB11.out.size hb12)
       have hck := (HB12.out.block _ (lt_of_block HCK.out)).trans HCK.out
       have hst := (HB12.out.block _ (lt_of_block HST.out)).trans HST.out
       obtain ⟨y0, y1, y2⟩ := chk_cells hck
       obtain ⟨x0, x1, x2, x3, x4⟩ : _ ∧ _ ∧ _ ∧ _ ∧ _ := ⟨blk_cell hst 0, blk_cell hst 1, blk_cell hst 2, blk_cell hst 3, blk_cell hst 4⟩
       clear hck hst hb12
       go_wp2_with fail
       go_ret
       exact ⟨by rw [HR.out]; rfl, HFin.out _ HB12.out⟩
      | true =>
       have HR : Hid (stateP v st i = 0) := Lib.hid (by rw [HP2.out]; rw [if_neg (by rw [e2]; simp)])
       clear e2
       clear y0 y1 y2 x0 x1 x2 x3 x4
       rintro e w12 ⟨rfl, hb12⟩
       have HB12 := Lib.hid (below_then HB11.out HB11.out.size hb12)
       have hck := (HB12.out.block _ (lt_of_block HCK.out)).trans HCK.out
       have hst := (HB12.out.block _ (lt_of_block HST.out)).trans HST.out
       obtain ⟨y0, y1, y2⟩ := chk_cells hck
       obtain ⟨x0, x1, x2, x3, x4⟩ : _ ∧ _ ∧ _ ∧ _ ∧ _ := ⟨blk_cell hst 0, blk_cell hst 1, blk_cell hst 2, blk_cell hst 3, blk_cell hst 4⟩
       clear hck hst hb12
       go_wp2_with fail
       go_ret
       exact ⟨by rw [HR.out]; rfl, HFin.out _ HB12.out⟩
  ·have HR : Hid (stateP v st i = parP st i) := Lib.hid (by rw [HP2.out]; rw [if_pos hz])
   have d0 : (parP st i == 0) = false := by simp [hz]
   have d00 : (parP st i != 0) = true := by simp [hz]
   generalize parP st i = pc at HR d0 d00 ⊢
   clear hz
   rintro e w7 ⟨rfl, hb7⟩
   have HB7 := Lib.hid (below_then HBr.out HBr.out.size hb7)
   have hck := (HB7.out.block _ (lt_of_block HCK.out)).trans HCK.out
   have hst := (HB7.out.block _ (lt_of_block HST.out)).trans HST.out
   obtain ⟨y0, y1, y2⟩ := chk_cells hck
   obtain ⟨x0, x1, x2, x3, x4⟩ : _ ∧ _ ∧ _ ∧ _ ∧ _ := ⟨blk_cell hst 0, blk_cell hst 1, blk_cell hst 2, blk_cell hst 3, blk_cell hst 4⟩
   clear hck hst hb7
   go_wp2_with fail
   go_ret
   exact ⟨by rw [HR.out]; rfl, HFin.out _ HB7.out⟩
 have f2 : (k == 2) = false := by simp [k2]
 have f3 : (k == 3) = false := by simp [k3]
 go_enter Tryz.func80, Tryz.ntmps80
 go_wp2_with fail
 refine (parentw HM.out v i h0 h1 (by omega)).mono ?_
 by_cases hz : parP st i = 0
 ·rw [hz]
  have HP1 := HP2.out
  rw [if_neg (fun h => h hz)] at HP1
  have HP2 := Lib.hid HP1
  clear HP1
  clear hz
  rintro e w13 ⟨rfl, hb13⟩
  have HB13 := Lib.hid (below_then HBr.out HBr.out.size hb13)
  have hck := (HB13.out.block _ (lt_of_block HCK.out)).trans HCK.out
  have hst := (HB13.out.block _ (lt_of_block HST.out)).trans HST.out
  obtain ⟨y0, y1, y2⟩ := chk_cells hck
  obtain ⟨x0, x1, x2, x3, x4⟩ : _ ∧ _ ∧ _ ∧ _ ∧ _ := ⟨blk_cell hst 0, blk_cell hst 1, blk_cell hst 2, blk_cell hst 3, blk_cell hst 4⟩
  clear hck hst hb13
  go_wp2_with fail
  have HP1 := HP2.out
  rw [if_neg (fun h => by rcases h.1 with h | h; exact k2 h; exact k3 h)] at HP1
  have HP2 := Lib.hid HP1
  clear HP1
  refine (initialw (HM.out.below HB13.out) v i h0 h1).mono ?_
  cases e0 : iniP st i with
  | false =>
   have HR : Hid (stateP v st i = 11) := Lib.hid (by rw [HP2.out]; rw [if_pos e0])
   clear e0
   clear y0 y1 y2 x0 x1 x2 x3 x4
   rintro e w14 ⟨rfl, hb14⟩
   have HB14 := Lib.hid (below_then HB13.out HB13.out.size hb14)
   have hck := (HB14.out.block _ (lt_of_block HCK.out)).trans HCK.out
   have hst := (HB14.out.block _ (lt_of_block HST.out)).trans HST.out
   obtain ⟨y0, y1, y2⟩ := chk_cells hck
   obtain ⟨x0, x1, x2, x3, x4⟩ : _ ∧ _ ∧ _ ∧ _ ∧ _ := ⟨blk_cell hst 0, blk_cell hst 1, blk_cell hst 2, blk_cell hst 3, blk_cell hst 4⟩
   clear hck hst hb14
   go_wp2_with fail
   go_ret
   exact ⟨by rw [HR.out]; rfl, HFin.out _ HB14.out⟩
  | true =>
   have HP1 := HP2.out
   rw [if_neg (by rw [e0]; simp)] at HP1
   have HP2 := Lib.hid HP1
   clear HP1
   clear e0
   clear y0 y1 y2 x0 x1 x2 x3 x4
   rintro e w14 ⟨rfl, hb14⟩
   have HB14 := Lib.hid (below_then HB13.out HB13.out.size hb14)
   have hck := (HB14.out.block _ (lt_of_block HCK.out)).trans HCK.out
   have hst := (HB14.out.block _ (lt_of_block HST.out)).trans HST.out
   obtain ⟨y0, y1, y2⟩ := chk_cells hck
   obtain ⟨x0, x1, x2, x3, x4⟩ : _ ∧ _ ∧ _ ∧ _ ∧ _ := ⟨blk_cell hst 0, blk_cell hst 1, blk_cell hst 2, blk_cell hst 3, blk_cell hst 4⟩
   clear hck hst hb14
   go_wp2_with fail
   refine (hist_any _ _).mono ?_
   cases eh : histP k with
   | false =>
    have HP1 := HP2.out
    rw [if_neg (by rw [eh]; simp)] at HP1
    have HP2 := Lib.hid HP1
    clear HP1
    clear eh
    clear y0 y1 y2 x0 x1 x2 x3 x4
    rintro e w15 ⟨rfl, hb15⟩
    have HB15 := Lib.hid (below_then HB14.out HB14.out.size hb15)
    have hck := (HB15.out.block _ (lt_of_block HCK.out)).trans HCK.out
    have hst := (HB15.out.block _ (lt_of_block HST.out)).trans HST.out
    obtain ⟨y0, y1, y2⟩ := chk_cells hck
    obtain ⟨x0, x1, x2, x3, x4⟩ : _ ∧ _ ∧ _ ∧ _ ∧ _ := ⟨blk_cell hst 0, blk_cell hst 1, blk_cell hst 2, blk_cell hst 3, blk_cell hst 4⟩
    clear hck hst hb15
    go_wp2_with fail
    refine (acts_any v (some ad) B st.length tr.length ca cb A3 c3 en (fun a ha => HZ.out a (by simp [ha])) _ (HW.out.below HB15.out) (Kd.C_below H3.out HB15.out) l3).mono ?_
    cases e1 : actsP v en with
    | false =>
     have HR : Hid (stateP v st i = 1) := Lib.hid (by rw [HP2.out]; rw [if_pos e1])
     clear e1
     clear y0 y1 y2 x0 x1 x2 x3 x4
     rintro e w16 ⟨rfl, hb16⟩
     have HB16 := Lib.hid (below_then HB15.out HB15.out.size hb16)
     have hck := (HB16.out.block _ (lt_of_block HCK.out)).trans HCK.out
     have hst := (HB16.out.block _ (lt_of_block HST.out)).trans HST.out
     obtain ⟨y0, y1, y2⟩ := chk_cells hck
     obtain ⟨x0, x1, x2, x3, x4⟩ : _ ∧ _ ∧ _ ∧ _ ∧ _ := ⟨blk_cell hst 0, blk_cell hst 1, blk_cell hst 2, blk_cell hst 3, blk_cell hst 4⟩
     clear hck hst hb16
     go_wp2_with fail
     go_ret
     exact ⟨by rw [HR.out]; rfl, HFin.out _ HB16.out⟩
    | true =>
     have HP1 := HP2.out
     rw [if_neg (by rw [e1]; simp)] at HP1
     have HP2 := Lib.hid HP1
     clear HP1
     clear e1
     clear y0 y1 y2 x0 x1 x2 x3 x4
     rintro e w16 ⟨rfl, hb16⟩
     have HB16 := Lib.hid (below_then HB15.out HB15.out.size hb16)
     have hck := (HB16.out.block _ (lt_of_block HCK.out)).trans HCK.out
     have hst := (HB16.out.block _ (lt_of_block HST.out)).trans HST.out
     obtain ⟨y0, y1, y2⟩ := chk_cells hck
     obtain ⟨x0, x1, x2, x3, x4⟩ : _ ∧ _ ∧ _ ∧ _ ∧ _ := ⟨blk_cell hst 0, blk_cell hst 1, blk_cell hst 2, blk_cell hst 3, blk_cell hst 4⟩
     clear hck hst hb16
     go_wp2_with fail
     refine (acts_any v (some ad) B st.length tr.length ca cb A4 c4 ex (fun a ha => HZ.out a (by simp [ha])) _ (HW.out.below HB16.out) (Kd.C_below H4.out HB16.out) l4).mono ?_
     cases e2 : actsP v ex with
     | false =>
      have HR : Hid (stateP v st i = 1) := Lib.hid (by rw [HP2.out]; rw [if_pos e2])
      clear e2
      clear y0 y1 y2 x0 x1 x2 x3 x4
      rintro e w17 ⟨rfl, hb17⟩
      have HB17 := Lib.hid (below_then HB16.out HB16.out.size hb17)
      have hck := (HB17.out.block _ (lt_of_block HCK.out)).trans HCK.out
      have hst := (HB17.out.block _ (lt_of_block HST.out)).trans HST.out
      obtain ⟨y0, y1, y2⟩ := chk_cells hck
      obtain ⟨x0, x1, x2, x3, x4⟩ : _ ∧ _ ∧ _ ∧ _ ∧ _ := ⟨blk_cell hst 0, blk_cell hst 1, blk_cell hst 2, blk_cell hst 3, blk_cell hst 4⟩
      clear hck hst hb17
      go_wp2_with fail
      go_ret
      exact ⟨by rw [HR.out]; rfl, HFin.out _ HB17.out⟩
     | true =>
      have HR : Hid (stateP v st i = 0) := Lib.hid (by rw [HP2.out]; rw [if_neg (by rw [e2]; simp)])
      clear e2
      clear y0 y1 y2 x0 x1 x2 x3 x4
      rintro e w17 ⟨rfl, hb17⟩
      have HB17 := Lib.hid (below_then HB16.out HB16.out.size hb17)
      have hck := (HB17.out.block _ (lt_of_block HCK.out)).trans HCK.out
      have hst := (HB17.out.block _ (lt_of_block HST.out)).trans HST.out
      obtain ⟨y0, y1, y2⟩ := chk_cells hck
      obtain ⟨x0, x1, x2, x3, x4⟩ : _ ∧ _ ∧ _ ∧ _ ∧ _ := ⟨blk_cell hst 0, blk_cell hst 1, blk_cell hst 2, blk_cell hst 3, blk_cell hst 4⟩
      clear hck hst hb17
      go_wp2_with fail
      go_ret
      exact ⟨by rw [HR.out]; rfl, HFin.out _ HB17.out⟩
   | true =>
    by_cases hs : 0 < en.length + ex.length
    ·have HR : Hid (stateP v st i = 1) := Lib.hid (by rw [HP2.out]; rw [if_pos ⟨eh, hs⟩])
     have d9 : decide ((en.length : Int) + (ex.length : Int) > 0) = true := decide_eq_true (by omega)
     clear eh hs
     clear y0 y1 y2 x0 x1 x2 x3 x4
     rintro e w15 ⟨rfl, hb15⟩
     have HB15 := Lib.hid (below_then HB14.out HB14.out.size hb15)
     have hck := (HB15.out.block _ (lt_of_block HCK.out)).trans HCK.out
     have hst := (HB15.out.block _ (lt_of_block HST.out)).trans HST.out
     obtain ⟨y0, y1, y2⟩ := chk_cells hck
     obtain ⟨x0, x1, x2, x3, x4⟩ : _ ∧ _ ∧ _ ∧ _ ∧ _ := ⟨blk_cell hst 0, blk_cell hst 1, blk_cell hst 2, blk_cell hst 3, blk_cell hst 4⟩
     clear hck hst hb15
     go_wp2_with fail
     go_ret
     exact ⟨by rw [HR.out]; rfl, HFin.out _ HB15.out⟩
    ·have HP1 := HP2.out
     rw [if_neg (fun h => hs h.2)] at HP1
     have HP2 := Lib.hid HP1
     clear HP1
     have d9 : decide ((en.length : Int) + (ex.length : Int) > 0) = false := decide_eq_false (by omega)
     have d8 : (0 < (en.length : Int) + (ex.length : Int)) = False := eq_false (by omega)
     clear eh hs
     clear y0 y1 y2 x0 x1 x2 x3 x4
     rintro e w15 ⟨rfl, hb15⟩
     have HB15 := Lib.hid (below_then HB14.out HB14.out.size hb15)
     have hck := (HB15.out.block _ (lt_of_block HCK.out)).trans HCK.out
     have hst := (HB15.out.block _ (lt_of_block HST.out)).trans HST.out
     obtain ⟨y0, y1, y2⟩ := chk_cells hck
     obtain ⟨x0, x1, x2, x3, x4⟩ : _ ∧ _ ∧ _ ∧ _ ∧ _ := ⟨blk_cell hst 0, blk_cell hst 1, blk_cell hst 2, blk_cell hst 3, blk_cell hst 4⟩
     clear hck hst hb15
     go_wp2_with fail
     refine (acts_any v (some ad) B st.length tr.length ca cb A3 c3 en (fun a ha => HZ.out a (by simp [ha])) _ (HW.out.below HB15.out) (Kd.C_below H3.out HB15.out) l3).mono ?_
     cases e1 : actsP v en with
     | false =>
      have HR : Hid (stateP v st i = 1) := Lib.hid (by rw [HP2.out]; rw [if_pos e1])
      clear e1
      clear y0 y1 y2 x0 x1 x2 x3 x4
      rintro e w18 ⟨rfl, hb18⟩
      have HB18 := Lib.hid (below_then HB15.out HB15.out.size hb18)
      have hck := (HB18.out.block _ (lt_of_block HCK.out)).trans HCK.out
      have hst := (HB18.out.block _ (lt_of_block HST.out)).trans HST.out
      obtain ⟨y0, y1, y2⟩ := chk_cells hck
      obtain ⟨x0, x1, x2, x3, x4⟩ : _ ∧ _ ∧ _ ∧ _ ∧ _ := ⟨blk_cell hst 0, blk_cell hst 1, blk_cell hst 2, blk_cell hst 3, blk_cell hst 4⟩
      clear hck hst hb18
      go_wp2_with fail
      go_ret
      exact ⟨by rw [HR.out]; rfl, HFin.out _ HB18.out⟩
     | true =>
      have HP1 := HP2.out
      rw [if_neg (by rw [e1]; simp)] at HP1
      have HP2 := Lib.hid HP1
      clear HP1
      clear e1
      clear y0 y1 y2 x0 x1 x2 x3 x4
      rintro e w18 ⟨rfl, hb18⟩
      have HB18 := Lib.hid (below_then HB15.out HB15.out.size hb18)
      have hck := (HB18.out.block _ (lt_of_block HCK.out)).trans HCK.out
      have hst := (HB18.out.block _ (lt_of_block HST.out)).trans HST.out
      obtain ⟨y0, y1, y2⟩ := chk_cells hck
      obtain ⟨x0, x1, x2, x3, x4⟩ : _ ∧ _ ∧ _ ∧ _ ∧ _ := ⟨blk_cell hst 0, blk_cell hst 1, blk_cell hst 2, blk_cell hst 3, blk_cell hst 4⟩
      clear hck hst hb18
      go_wp2_with fail
      refine (acts_any v (some ad) B st.length tr.length ca cb A4 c4 ex (fun a ha => HZ.out a (by simp [ha])) _ (HW.out.below HB18.out) (Kd.C_below H4.out HB18.out) l4).mono ?_
      cases e2 : actsP v ex with
      | false =>
       have HR : Hid (stateP v st i = 1) := Lib.hid (by rw [HP2.out]; rw [if_pos e2])
       clear e2
       clear y0 y1 y2 x0 x1 x2 x3 x4
       rintro e w19 ⟨rfl, hb19⟩
       have HB19 := Lib.hid (below_then HB18.out HB18.out.size hb19)
       have hck := (HB19.out.block _ (lt_of_block HCK.out)).trans HCK.out
       have hst := (HB19.out.block _ (lt_of_block HST.out)).trans HST.out
       obtain ⟨y0, y1, y2⟩ := chk_cells hck
       obtain ⟨x0, x1, x2, x3, x4⟩ : _ ∧ _ ∧ _ ∧ _ ∧ _ := ⟨blk_cell hst 0, blk_cell hst 1, blk_cell hst 2, blk_cell hst 3, blk_cell hst 4⟩
       clear hck hst hb19
       go_wp2_with fail
       go_ret
       exact ⟨by rw [HR.out]; rfl, HFin.out _ HB19.out⟩
      | true =>
       have HR : Hid (stateP v st i = 0) := Lib.hid (by rw [HP2.out]; rw [if_neg (by rw [e2]; simp)])
       clear e2
       clear y0 y1 y2 x0 x1 x2 x3 x4
       rintro e w19 ⟨rfl, hb19⟩
       have HB19 := Lib.hid (below_then HB18.out HB18.out.size hb19)
       have hck := (HB19.out.block _ (lt_of_block HCK.out)).trans HCK.out
       have hst := (HB19.out.block _ (lt_of_block HST.out)).trans HST.out
       obtain ⟨y0, y1, y2⟩ := chk_cells hck
       obtain ⟨x0, x1, x2, x3, x4⟩ : _ ∧ _ ∧ _ ∧ _ ∧ _ := ⟨blk_cell hst 0, blk_cell hst 1, blk_cell hst 2, blk_cell hst 3, blk_cell hst 4⟩
       clear hck hst hb19
       go_wp2_with fail
       go_ret
       exact ⟨by rw [HR.out]; rfl, HFin.out _ HB19.out⟩
 ·have HR : Hid (stateP v st i = parP st i) := Lib.hid (by rw [HP2.out]; rw [if_pos hz])
  have d0 : (parP st i == 0) = false := by simp [hz]
  have d00 : (parP st i != 0) = true := by simp [hz]
  generalize parP st i = pc at HR d0 d00 ⊢
  clear hz
  rintro e w13 ⟨rfl, hb13⟩
  have HB13 := Lib.hid (below_then HBr.out HBr.out.size hb13)
  have hck := (HB13.out.block _ (lt_of_block HCK.out)).trans HCK.out
  have hst := (HB13.out.block _ (lt_of_block HST.out)).trans HST.out
  obtain ⟨y0, y1, y2⟩ := chk_cells hck
  obtain ⟨x0, x1, x2, x3, x4⟩ : _ ∧ _ ∧ _ ∧ _ ∧ _ := ⟨blk_cell hst 0, blk_cell hst 1, blk_cell hst 2, blk_cell hst 3, blk_cell hst 4⟩
  clear hck hst hb13
  go_wp2_with fail
  go_ret
  exact ⟨by rw [HR.out]; rfl, HFin.out _ HB13.out⟩
end Go.Proofs.YtikilglbhnplaaaGreatDoor
end
section
namespace Go.Proofs.YtikilglbhnplaaaGreatDoor
open Go.RowKit Go.Proofs.YtikilglbhnplaaaGreatDoorW.PrintWords
open PX (T V)
noncomputable def transP (v : Int) (st : List Sta) (t : Tra) : Int :=
 if t.f0 = 0 ∨ ¬ (0 ≤ t.f0 ∧ t.f0 < (st.length : Int)) ∨ 3 < (PAll.rd_T66 st t.f0).f0 then 10
 else if t.f1 ≠ 0 ∧ ¬ (1 ≤ t.f1 ∧ t.f1 ≤ 1000) ∧ t.f1 ≠ 1001 ∧ t.f1 ≠ 1002 ∧ ¬ (2000 ≤ t.f1 ∧ t.f1 < 2000 + (st.length : Int)) then 1
 else if tgtP st t.f3 = false then 11
 else if t.f2.toList.isEmpty = false ∧ typP t.f2 2 v = false then 8
 else if actsP v t.f5 = false then 1
 else 0
theorem trans_any (v : Int) (A B : Option Addr) (ca cb : Nat) (st : List Sta) (tr : List Tra) (ha : Ahead st) (hn : st.length ≤ 1000) (f0 f1 : Int) (f2 : ByteArray) (hs : f2.size ≤ 281474976710656) (A3 : Option Addr) (c3 : Nat) (f3 : List Int) (l3 : f3.length ≤ c3) (f4 : Bool) (A5 : Option Addr) (c5 : Nat) (f5 : List Ac) (l5 : f5.length ≤ c5)
  (hz : ∀ a ∈ f5, a.f3.size ≤ 281474976710656) (w : World) (hw : Laid w) (hM : ChM w A ca st B cb tr) (g3 : NumsC w A3 f3.length f3) (g5 : ActsC w A5 f5.length f5) :
  Calls Tryz.prog 81 #[ckV v A B st.length tr.length ca cb, .agg #[.int .i64 f0, .int .i64 f1, .string f2, .slice A3 f3.length c3, .bool f4, .slice A5 f5.length c5]] w fun e w' => e = .returned (.int .i64 (transP v st ⟨f0, f1, f2, f3, f4, f5⟩)) ∧ Below w.heap.size w w' := by
 have HP2 : Hid (transP v st ⟨f0, f1, f2, f3, f4, f5⟩ = if f0 = 0 ∨ ¬ (0 ≤ f0 ∧ f0 < (st.length : Int)) ∨ 3 < (PAll.rd_T66 st f0).f0 then 10
  else if f1 ≠ 0 ∧ ¬ (1 ≤ f1 ∧ f1 ≤ 1000) ∧ f1 ≠ 1001 ∧ f1 ≠ 1002 ∧ ¬ (2000 ≤ f1 ∧ f1 < 2000 + (st.length : Int)) then 1
  else if tgtP st f3 = false then 11
  else if f2.toList.isEmpty = false ∧ typP f2 2 v = false then 8
  else if actsP v f5 = false then 1
  else 0) := Lib.hid rfl
 have hb0 : Below w.heap.size w ((w.alloc (.cells #[.int .i64 v, .slice A st.length ca, .slice B tr.length cb] 136)).alloc (.cells #[.int .i64 f0, .int .i64 f1, .string f2, .slice A3 f3.length c3, .bool f4, .slice A5 f5.length c5] 63)) := ((Below.refl _ w).alloc (Nat.le_refl _) _).alloc (by simp) _
 have HB0 := Lib.hid hb0
 have HW := Lib.hid (hw.below hb0)
 have HM := Lib.hid (hM.below hb0)
 have H3 := Lib.hid (Kd.C_below g3 hb0)
 have H5 := Lib.hid (Kd.C_below g5 hb0)
 have HZ := Lib.hid hz
 have hfin : ∀ wr, Below ((w.alloc (.cells #[.int .i64 v, .slice A st.length ca, .slice B tr.length cb] 136)).alloc (.cells #[.int .i64 f0, .int .i64 f1, .string f2, .slice A3 f3.length c3, .bool f4, .slice A5 f5.length c5] 63)).heap.size ((w.alloc (.cells #[.int .i64 v, .slice A st.length ca, .slice B tr.length cb] 136)).alloc (.cells #[.int .i64 f0, .int .i64 f1, .string f2, .slice A3 f3.length c3, .bool f4, .slice A5 f5.length c5] 63)) wr → Below w.heap.size w wr := fun wr h => HB0.out.trans (h.mono HB0.out.size)
 have HFin := Lib.hid hfin
 have HBr : Hid (Below ((w.alloc (.cells #[.int .i64 v, .slice A st.length ca, .slice B tr.length cb] 136)).alloc (.cells #[.int .i64 f0, .int .i64 f1, .string f2, .slice A3 f3.length c3, .bool f4, .slice A5 f5.length c5] 63)).heap.size ((w.alloc (.cells #[.int .i64 v, .slice A st.length ca, .slice B tr.length cb] 136)).alloc (.cells #[.int .i64 f0, .int .i64 f1, .string f2, .slice A3 f3.length c3, .bool f4, .slice A5 f5.length c5] 63)) ((w.alloc (.cells #[.int .i64 v, .slice A st.length ca, .slice B tr.length cb] 136)).alloc (.cells #[.int .i64 f0, .int .i64 f1, .string f2, .slice A3 f3.length c3, .bool f4, .slice A5 f5.length c5] 63))) := Lib.hid (Below.refl _ _)
 obtain ⟨hk1, hk2, _, _⟩ := boxed2 HBr.out
 have HCK := Lib.hid hk1
 have HTR := Lib.hid hk2
 clear hfin hk1 hk2 hz hb0 hw hM g3 g5
 by_cases s0 : f0 = 0
 ·have HR : Hid (transP v st ⟨f0, f1, f2, f3, f4, f5⟩ = 10) := Lib.hid (by rw [HP2.out]; rw [if_pos (.inl s0)])
  subst s0
  go_enter Tryz.func81, Tryz.ntmps81
  go_wp2_with fail
  all_goals
   go_ret
   exact ⟨by rw [HR.out]; rfl, HFin.out _ HBr.out⟩
 have z0 : (f0 == 0) = false := by simp [s0]
 by_cases sw : ¬ (0 ≤ f0 ∧ f0 < (st.length : Int))
 ·have htd : decide (0 ≤ f0 ∧ f0 < (st.length : Int)) = false := decide_eq_false sw
  have HTd := Lib.hid htd
  have HR : Hid (transP v st ⟨f0, f1, f2, f3, f4, f5⟩ = 10) := Lib.hid (by rw [HP2.out]; rw [if_pos (.inr (.inl sw))])
  clear s0 sw htd
  go_enter Tryz.func81, Tryz.ntmps81
  go_wp2_with fail
  all_goals
   refine (there_any HM.out v f0).mono ?_
   rw [HTd.out]
   rintro e w1 ⟨rfl, hb1⟩
   have HB1 := Lib.hid (below_then HBr.out HBr.out.size hb1)
   have hck := (HB1.out.block _ (lt_of_block HCK.out)).trans HCK.out
   have htr := (HB1.out.block _ (lt_of_block HTR.out)).trans HTR.out
   obtain ⟨y0, y1, y2⟩ := chk_cells hck
   obtain ⟨x0, x1, x2, x3, x4, x5⟩ : _ ∧ _ ∧ _ ∧ _ ∧ _ ∧ _ := ⟨blk_cell htr 0, blk_cell htr 1, blk_cell htr 2, blk_cell htr 3, blk_cell htr 4, blk_cell htr 5⟩
   clear hck htr hb1
   go_wp2_with fail
   go_ret
   exact ⟨by rw [HR.out]; rfl, HFin.out _ HB1.out⟩
 have sw := Classical.not_not.1 sw
 have htd : decide (0 ≤ f0 ∧ f0 < (st.length : Int)) = true := decide_eq_true sw
 have HTd := Lib.hid htd
 have q0 : (0 ≤ f0) = True := eq_true sw.1
 have q1 : (f0 < (st.length : Int)) = True := eq_true sw.2
 have HSW := Lib.hid sw
 clear htd
 by_cases sk : 3 < (PAll.rd_T66 st f0).f0
 ·have HR : Hid (transP v st ⟨f0, f1, f2, f3, f4, f5⟩ = 10) := Lib.hid (by rw [HP2.out]; rw [if_pos (.inr (.inr sk))])
  clear s0 sw
  go_enter Tryz.func81, Tryz.ntmps81
  go_wp2_with fail
  all_goals
   refine (there_any HM.out v f0).mono ?_
   rw [HTd.out]
   rintro e w2 ⟨rfl, hb2⟩
   have HB2 := Lib.hid (below_then HBr.out HBr.out.size hb2)
   have hck := (HB2.out.block _ (lt_of_block HCK.out)).trans HCK.out
   have htr := (HB2.out.block _ (lt_of_block HTR.out)).trans HTR.out
   obtain ⟨y0, y1, y2⟩ := chk_cells hck
   obtain ⟨x0, x1, x2, x3, x4, x5⟩ : _ ∧ _ ∧ _ ∧ _ ∧ _ ∧ _ := ⟨blk_cell htr 0, blk_cell htr 1, blk_cell htr 2, blk_cell htr 3, blk_cell htr 4, blk_cell htr 5⟩
   clear hck htr hb2
   obtain ⟨sd, rfl, c0⟩ := state_at (HM.out.below HB2.out) f0 HSW.out.1 HSW.out.2
   generalize (PAll.rd_T66 st f0).f0 = kk at c0 sk
   have d3 : decide (kk > 3) = true := decide_eq_true sk
   clear sk
   go_wp2_with fail
   go_ret
   exact ⟨by rw [HR.out]; rfl, HFin.out _ HB2.out⟩
 have HP1 := HP2.out
 rw [if_neg (by rintro (h | h | h); exact s0 h; exact h sw; exact sk h)] at HP1
 have HP2 := Lib.hid HP1
 clear HP1
 clear s0 sw
 by_cases v0 : f1 = 0
 ·subst v0
  have HP1 := HP2.out
  rw [if_neg (fun h => h.1 rfl)] at HP1
  have HP2 := Lib.hid HP1
  clear HP1
  go_enter Tryz.func81, Tryz.ntmps81
  go_wp2_with fail
  refine (there_any HM.out v f0).mono ?_
  rw [HTd.out]
  rintro e w3 ⟨rfl, hb3⟩
  have HB3 := Lib.hid (below_then HBr.out HBr.out.size hb3)
  have hck := (HB3.out.block _ (lt_of_block HCK.out)).trans HCK.out
  have htr := (HB3.out.block _ (lt_of_block HTR.out)).trans HTR.out
  obtain ⟨y0, y1, y2⟩ := chk_cells hck
  obtain ⟨x0, x1, x2, x3, x4, x5⟩ : _ ∧ _ ∧ _ ∧ _ ∧ _ ∧ _ := ⟨blk_cell htr 0, blk_cell htr 1, blk_cell htr 2, blk_cell htr 3, blk_cell htr 4, blk_cell htr 5⟩
  clear hck htr hb3
  obtain ⟨sd, rfl, c0⟩ := state_at (HM.out.below HB3.out) f0 HSW.out.1 HSW.out.2
  generalize (PAll.rd_T66 st f0).f0 = kk at c0 sk
  have d3 : decide (kk > 3) = false := decide_eq_false (by omega)
  clear sk
  go_wp2_with fail
  refine (targets_any v _ B ca cb st tr ha A3 c3 f3 _ (HM.out.below HB3.out) (Kd.C_below H3.out HB3.out) l3).mono ?_
  cases e0 : tgtP st f3 with
  | false =>
   have HR : Hid (transP v st ⟨f0, 0, f2, f3, f4, f5⟩ = 11) := Lib.hid (by rw [HP2.out]; rw [if_pos e0])
   clear e0
   clear y0 y1 y2 x0 x1 x2 x3 x4 x5
   rintro e w4 ⟨rfl, hb4⟩
   have HB4 := Lib.hid (below_then HB3.out HB3.out.size hb4)
   have hck := (HB4.out.block _ (lt_of_block HCK.out)).trans HCK.out
   have htr := (HB4.out.block _ (lt_of_block HTR.out)).trans HTR.out
   obtain ⟨y0, y1, y2⟩ := chk_cells hck
   obtain ⟨x0, x1, x2, x3, x4, x5⟩ : _ ∧ _ ∧ _ ∧ _ ∧ _ ∧ _ := ⟨blk_cell htr 0, blk_cell htr 1, blk_cell htr 2, blk_cell htr 3, blk_cell htr 4, blk_cell htr 5⟩
   clear hck htr hb4
   go_wp2_with fail
   go_ret
   exact ⟨by rw [HR.out]; rfl, HFin.out _ HB4.out⟩
  | true =>
   have HP1 := HP2.out
   rw [if_neg (by rw [e0]; simp)] at HP1
   have HP2 := Lib.hid HP1
   clear HP1
   clear e0
   clear y0 y1 y2 x0 x1 x2 x3 x4 x5
   rintro e w4 ⟨rfl, hb4⟩
   have HB4 := Lib.hid (below_then HB3.out HB3.out.size hb4)
   have hck := (HB4.out.block _ (lt_of_block HCK.out)).trans HCK.out
   have htr := (HB4.out.block _ (lt_of_block HTR.out)).trans HTR.out
   obtain ⟨y0, y1, y2⟩ := chk_cells hck
   obtain ⟨x0, x1, x2, x3, x4, x5⟩ : _ ∧ _ ∧ _ ∧ _ ∧ _ ∧ _ := ⟨blk_cell htr 0, blk_cell htr 1, blk_cell htr 2, blk_cell htr 3, blk_cell htr 4, blk_cell htr 5⟩
   clear hck htr hb4
   cases eg : f2.toList.isEmpty with
   | true =>
    have HP1 := HP2.out
    rw [if_neg (fun h => by rw [eg] at h; exact absurd h.1 (by simp))] at HP1
    have HP2 := Lib.hid HP1
    clear HP1
    go_wp2_with fail
    refine (acts_any v _ B st.length tr.length ca cb A5 c5 f5 HZ.out _ (HW.out.below HB4.out) (Kd.C_below H5.out HB4.out) l5).mono ?_
    cases e1 : actsP v f5 with
    | false =>
     have HR : Hid (transP v st ⟨f0, 0, f2, f3, f4, f5⟩ = 1) := Lib.hid (by rw [HP2.out]; rw [if_pos e1])
     clear e1
     clear y0 y1 y2 x0 x1 x2 x3 x4 x5
     rintro e w6 ⟨rfl, hb6⟩
     have HB6 := Lib.hid (below_then HB4.out HB4.out.size hb6)
     have hck := (HB6.out.block _ (lt_of_block HCK.out)).trans HCK.out
     have htr := (HB6.out.block _ (lt_of_block HTR.out)).trans HTR.out
     obtain ⟨y0, y1, y2⟩ := chk_cells hck
     obtain ⟨x0, x1, x2, x3, x4, x5⟩ : _ ∧ _ ∧ _ ∧ _ ∧ _ ∧ _ := ⟨blk_cell htr 0, blk_cell htr 1, blk_cell htr 2, blk_cell htr 3, blk_cell htr 4, blk_cell htr 5⟩
     clear hck htr hb6
     go_wp2_with fail
     go_ret
     exact ⟨by rw [HR.out]; rfl, HFin.out _ HB6.out⟩
    | true =>
     have HR : Hid (transP v st ⟨f0, 0, f2, f3, f4, f5⟩ = 0) := Lib.hid (by rw [HP2.out]; rw [if_neg (by rw [e1]; simp)])
     clear e1
     clear y0 y1 y2 x0 x1 x2 x3 x4 x5
     rintro e w6 ⟨rfl, hb6⟩
     have HB6 := Lib.hid (below_then HB4.out HB4.out.size hb6)
     have hck := (HB6.out.block _ (lt_of_block HCK.out)).trans HCK.out
     have htr := (HB6.out.block _ (lt_of_block HTR.out)).trans HTR.out
     obtain ⟨y0, y1, y2⟩ := chk_cells hck
     obtain ⟨x0, x1, x2, x3, x4, x5⟩ : _ ∧ _ ∧ _ ∧ _ ∧ _ ∧ _ := ⟨blk_cell htr 0, blk_cell htr 1, blk_cell htr 2, blk_cell htr 3, blk_cell htr 4, blk_cell htr 5⟩
     clear hck htr hb6
     go_wp2_with fail
     go_ret
     exact ⟨by rw [HR.out]; rfl, HFin.out _ HB6.out⟩
   | false =>
    go_wp2_with fail
    refine (typed_any v _ B st.length tr.length ca cb f2 hs 2 _ (HW.out.below HB4.out)).mono ?_
    cases et : typP f2 2 v with
    | false =>
     have HR : Hid (transP v st ⟨f0, 0, f2, f3, f4, f5⟩ = 8) := Lib.hid (by rw [HP2.out]; rw [if_pos ⟨eg, et⟩])
     clear et
     clear y0 y1 y2 x0 x1 x2 x3 x4 x5
     rintro e w5 ⟨rfl, hb5⟩
     have HB5 := Lib.hid (below_then HB4.out HB4.out.size hb5)
     have hck := (HB5.out.block _ (lt_of_block HCK.out)).trans HCK.out
     have htr := (HB5.out.block _ (lt_of_block HTR.out)).trans HTR.out
     obtain ⟨y0, y1, y2⟩ := chk_cells hck
     obtain ⟨x0, x1, x2, x3, x4, x5⟩ : _ ∧ _ ∧ _ ∧ _ ∧ _ ∧ _ := ⟨blk_cell htr 0, blk_cell htr 1, blk_cell htr 2, blk_cell htr 3, blk_cell htr 4, blk_cell htr 5⟩
     clear hck htr hb5
     go_wp2_with fail
     go_ret
     exact ⟨by rw [HR.out]; rfl, HFin.out _ HB5.out⟩
    | true =>
     have HP1 := HP2.out
     rw [if_neg (fun h => by rw [et] at h; exact absurd h.2 (by simp))] at HP1
     have HP2 := Lib.hid HP1
     clear HP1
     clear et
     clear y0 y1 y2 x0 x1 x2 x3 x4 x5
     rintro e w5 ⟨rfl, hb5⟩
     have HB5 := Lib.hid (below_then HB4.out HB4.out.size hb5)
     have hck := (HB5.out.block _ (lt_of_block HCK.out)).trans HCK.out
     have htr := (HB5.out.block _ (lt_of_block HTR.out)).trans HTR.out
     obtain ⟨y0, y1, y2⟩ := chk_cells hck
     obtain ⟨x0, x1, x2, x3, x4, x5⟩ : _ ∧ _ ∧ _ ∧ _ ∧ _ ∧ _ := ⟨blk_cell htr 0, blk_cell htr 1, blk_cell htr 2, blk_cell htr 3, blk_cell htr 4, blk_cell htr 5⟩
     clear hck htr hb5
     go_wp2_with fail
     refine (acts_any v _ B st.length tr.length ca cb A5 c5 f5 HZ.out _ (HW.out.below HB5.out) (Kd.C_below H5.out HB5.out) l5).mono ?_
     cases e1 : actsP v f5 with
     | false =>
      have HR : Hid (transP v st ⟨f0, 0, f2, f3, f4, f5⟩ = 1) := Lib.hid (by rw [HP2.out]; rw [if_pos e1])
      clear e1
      clear y0 y1 y2 x0 x1 x2 x3 x4 x5
      rintro e w7 ⟨rfl, hb7⟩
      have HB7 := Lib.hid (below_then HB5.out HB5.out.size hb7)
      have hck := (HB7.out.block _ (lt_of_block HCK.out)).trans HCK.out
      have htr := (HB7.out.block _ (lt_of_block HTR.out)).trans HTR.out
      obtain ⟨y0, y1, y2⟩ := chk_cells hck
      obtain ⟨x0, x1, x2, x3, x4, x5⟩ : _ ∧ _ ∧ _ ∧ _ ∧ _ ∧ _ := ⟨blk_cell htr 0, blk_cell htr 1, blk_cell htr 2, blk_cell htr 3, blk_cell htr 4, blk_cell htr 5⟩
      clear hck htr hb7
      go_wp2_with fail
      go_ret
      exact ⟨by rw [HR.out]; rfl, HFin.out _ HB7.out⟩
     | true =>
      have HR : Hid (transP v st ⟨f0, 0, f2, f3, f4, f5⟩ = 0) := Lib.hid (by rw [HP2.out]; rw [if_neg (by rw [e1]; simp)])
      clear e1
      clear y0 y1 y2 x0 x1 x2 x3 x4 x5
      rintro e w7 ⟨rfl, hb7⟩
      have HB7 := Lib.hid (below_then HB5.out HB5.out.size hb7)
      have hck := (HB7.out.block _ (lt_of_block HCK.out)).trans HCK.out
      have htr := (HB7.out.block _ (lt_of_block HTR.out)).trans HTR.out
      obtain ⟨y0, y1, y2⟩ := chk_cells hck
      obtain ⟨x0, x1, x2, x3, x4, x5⟩ : _ ∧ _ ∧ _ ∧ _ ∧ _ ∧ _ := ⟨blk_cell htr 0, blk_cell htr 1, blk_cell htr 2, blk_cell htr 3, blk_cell htr 4, blk_cell htr 5⟩
      clear hck htr hb7
      go_wp2_with fail
      go_ret
      exact ⟨by rw [HR.out]; rfl, HFin.out _ HB7.out⟩
 have z1 : (f1 == 0) = false := by simp [v0]
 have z2 : (f1 != 0) = true := by simp [v0]
 by_cases v1 : 1 ≤ f1 ∧ f1 ≤ 1000
 ·have HP1 := HP2.out
  rw [if_neg (fun h => h.2.1 v1)] at HP1
  have HP2 := Lib.hid HP1
  clear HP1
  have d1 : decide (f1 ≥ 2000) = false := decide_eq_false (by omega)
  have HEv := Lib.hid (decide_eq_true v1)
  clear v0 v1
  go_enter Tryz.func81, Tryz.ntmps81
  go_wp2_with fail
  refine (there_any HM.out v f0).mono ?_
  rw [HTd.out]
  rintro e w8 ⟨rfl, hb8⟩
  have HB8 := Lib.hid (below_then HBr.out HBr.out.size hb8)
  have hck := (HB8.out.block _ (lt_of_block HCK.out)).trans HCK.out
  have htr := (HB8.out.block _ (lt_of_block HTR.out)).trans HTR.out
  obtain ⟨y0, y1, y2⟩ := chk_cells hck
  obtain ⟨x0, x1, x2, x3, x4, x5⟩ : _ ∧ _ ∧ _ ∧ _ ∧ _ ∧ _ := ⟨blk_cell htr 0, blk_cell htr 1, blk_cell htr 2, blk_cell htr 3, blk_cell htr 4, blk_cell htr 5⟩
  clear hck htr hb8
  obtain ⟨sd, rfl, c0⟩ := state_at (HM.out.below HB8.out) f0 HSW.out.1 HSW.out.2
  generalize (PAll.rd_T66 st f0).f0 = kk at c0 sk
  have d3 : decide (kk > 3) = false := decide_eq_false (by omega)
  clear sk
  go_wp2_with fail
  refine (event_any f1 _).mono ?_
  rw [show decide (1 ≤ f1 ∧ f1 ≤ 1000) = true from HEv.out]
  clear y0 y1 y2 x0 x1 x2 x3 x4 x5
  rintro e w9 ⟨rfl, hb9⟩
  have HB9 := Lib.hid (below_then HB8.out HB8.out.size hb9)
  have hck := (HB9.out.block _ (lt_of_block HCK.out)).trans HCK.out
  have htr := (HB9.out.block _ (lt_of_block HTR.out)).trans HTR.out
  obtain ⟨y0, y1, y2⟩ := chk_cells hck
  obtain ⟨x0, x1, x2, x3, x4, x5⟩ : _ ∧ _ ∧ _ ∧ _ ∧ _ ∧ _ := ⟨blk_cell htr 0, blk_cell htr 1, blk_cell htr 2, blk_cell htr 3, blk_cell htr 4, blk_cell htr 5⟩
  clear hck htr hb9
  go_wp2_with fail
  refine (targets_any v _ B ca cb st tr ha A3 c3 f3 _ (HM.out.below HB9.out) (Kd.C_below H3.out HB9.out) l3).mono ?_
  cases e0 : tgtP st f3 with
  | false =>
   have HR : Hid (transP v st ⟨f0, f1, f2, f3, f4, f5⟩ = 11) := Lib.hid (by rw [HP2.out]; rw [if_pos e0])
   clear e0
   clear y0 y1 y2 x0 x1 x2 x3 x4 x5
   rintro e w10 ⟨rfl, hb10⟩
   have HB10 := Lib.hid (below_then HB9.out HB9.out.size hb10)
   have hck := (HB10.out.block _ (lt_of_block HCK.out)).trans HCK.out
   have htr := (HB10.out.block _ (lt_of_block HTR.out)).trans HTR.out
   obtain ⟨y0, y1, y2⟩ := chk_cells hck
   obtain ⟨x0, x1, x2, x3, x4, x5⟩ : _ ∧ _ ∧ _ ∧ _ ∧ _ ∧ _ := ⟨blk_cell htr 0, blk_cell htr 1, blk_cell htr 2, blk_cell htr 3, blk_cell htr 4, blk_cell htr 5⟩
   clear hck htr hb10
   go_wp2_with fail
   go_ret
   exact ⟨by rw [HR.out]; rfl, HFin.out _ HB10.out⟩
  | true =>
   have HP1 := HP2.out
   rw [if_neg (by rw [e0]; simp)] at HP1
   have HP2 := Lib.hid HP1
   clear HP1
   clear e0
   clear y0 y1 y2 x0 x1 x2 x3 x4 x5
   rintro e w10 ⟨rfl, hb10⟩
   have HB10 := Lib.hid (below_then HB9.out HB9.out.size hb10)
   have hck := (HB10.out.block _ (lt_of_block HCK.out)).trans HCK.out
   have htr := (HB10.out.block _ (lt_of_block HTR.out)).trans HTR.out
   obtain ⟨y0, y1, y2⟩ := chk_cells hck
   obtain ⟨x0, x1, x2, x3, x4, x5⟩ : _ ∧ _ ∧ _ ∧ _ ∧ _ ∧ _ := ⟨blk_cell htr 0, blk_cell htr 1, blk_cell htr 2, blk_cell htr 3, blk_cell htr 4, blk_cell htr 5⟩
   clear hck htr hb10
   cases eg : f2.toList.isEmpty with
   | true =>
    have HP1 := HP2.out
    rw [if_neg (fun h => by rw [eg] at h; exact absurd h.1 (by simp))] at HP1
    have HP2 := Lib.hid HP1
    clear HP1
    go_wp2_with fail
    refine (acts_any v _ B st.length tr.length ca cb A5 c5 f5 HZ.out _ (HW.out.below HB10.out) (Kd.C_below H5.out HB10.out) l5).mono ?_
    cases e1 : actsP v f5 with
    | false =>
     have HR : Hid (transP v st ⟨f0, f1, f2, f3, f4, f5⟩ = 1) := Lib.hid (by rw [HP2.out]; rw [if_pos e1])
     clear e1
     clear y0 y1 y2 x0 x1 x2 x3 x4 x5
     rintro e w12 ⟨rfl, hb12⟩
     have HB12 := Lib.hid (below_then HB10.out HB10.out.size hb12)
     have hck := (HB12.out.block _ (lt_of_block HCK.out)).trans HCK.out
     have htr := (HB12.out.block _ (lt_of_block HTR.out)).trans HTR.out
     obtain ⟨y0, y1, y2⟩ := chk_cells hck
     obtain ⟨x0, x1, x2, x3, x4, x5⟩ : _ ∧ _ ∧ _ ∧ _ ∧ _ ∧ _ := ⟨blk_cell htr 0, blk_cell htr 1, blk_cell htr 2, blk_cell htr 3, blk_cell htr 4, blk_cell htr 5⟩
     clear hck htr hb12
     go_wp2_with fail
     go_ret
     exact ⟨by rw [HR.out]; rfl, HFin.out _ HB12.out⟩
    | true =>
     have HR : Hid (transP v st ⟨f0, f1, f2, f3, f4, f5⟩ = 0) := Lib.hid (by rw [HP2.out]; rw [if_neg (by rw [e1]; simp)])
     clear e1
     clear y0 y1 y2 x0 x1 x2 x3 x4 x5
     rintro e w12 ⟨rfl, hb12⟩
     have HB12 := Lib.hid (below_then HB10.out HB10.out.size hb12)
     have hck := (HB12.out.block _ (lt_of_block HCK.out)).trans HCK.out
     have htr := (HB12.out.block _ (lt_of_block HTR.out)).trans HTR.out
     obtain ⟨y0, y1, y2⟩ := chk_cells hck
     obtain ⟨x0, x1, x2, x3, x4, x5⟩ : _ ∧ _ ∧ _ ∧ _ ∧ _ ∧ _ := ⟨blk_cell htr 0, blk_cell htr 1, blk_cell htr 2, blk_cell htr 3, blk_cell htr 4, blk_cell htr 5⟩
     clear hck htr hb12
     go_wp2_with fail
     go_ret
     exact ⟨by rw [HR.out]; rfl, HFin.out _ HB12.out⟩
   | false =>
    go_wp2_with fail
    refine (typed_any v _ B st.length tr.length ca cb f2 hs 2 _ (HW.out.below HB10.out)).mono ?_
    cases et : typP f2 2 v with
    | false =>
     have HR : Hid (transP v st ⟨f0, f1, f2, f3, f4, f5⟩ = 8) := Lib.hid (by rw [HP2.out]; rw [if_pos ⟨eg, et⟩])
     clear et
     clear y0 y1 y2 x0 x1 x2 x3 x4 x5
     rintro e w11 ⟨rfl, hb11⟩
     have HB11 := Lib.hid (below_then HB10.out HB10.out.size hb11)
     have hck := (HB11.out.block _ (lt_of_block HCK.out)).trans HCK.out
     have htr := (HB11.out.block _ (lt_of_block HTR.out)).trans HTR.out
     obtain ⟨y0, y1, y2⟩ := chk_cells hck
     obtain ⟨x0, x1, x2, x3, x4, x5⟩ : _ ∧ _ ∧ _ ∧ _ ∧ _ ∧ _ := ⟨blk_cell htr 0, blk_cell htr 1, blk_cell htr 2, blk_cell htr 3, blk_cell htr 4, blk_cell htr 5⟩
     clear hck htr hb11
     go_wp2_with fail
     go_ret
     exact ⟨by rw [HR.out]; rfl, HFin.out _ HB11.out⟩
    | true =>
     have HP1 := HP2.out
     rw [if_neg (fun h => by rw [et] at h; exact absurd h.2 (by simp))] at HP1
     have HP2 := Lib.hid HP1
     clear HP1
     clear et
     clear y0 y1 y2 x0 x1 x2 x3 x4 x5
     rintro e w11 ⟨rfl, hb11⟩
     have HB11 := Lib.hid (below_then HB10.out HB10.out.size hb11)
     have hck := (HB11.out.block _ (lt_of_block HCK.out)).trans HCK.out
     have htr := (HB11.out.block _ (lt_of_block HTR.out)).trans HTR.out
     obtain ⟨y0, y1, y2⟩ := chk_cells hck
     obtain ⟨x0, x1, x2, x3, x4, x5⟩ : _ ∧ _ ∧ _ ∧ _ ∧ _ ∧ _ := ⟨blk_cell htr 0, blk_cell htr 1, blk_cell htr 2, blk_cell htr 3, blk_cell htr 4, blk_cell htr 5⟩
     clear hck htr hb11
     go_wp2_with fail
     refine (acts_any v _ B st.length tr.length ca cb A5 c5 f5 HZ.out _ (HW.out.below HB11.out) (Kd.C_below H5.out HB11.out) l5).mono ?_
     cases e1 : actsP v f5 with
     | false =>
      have HR : Hid (transP v st ⟨f0, f1, f2, f3, f4, f5⟩ = 1) := Lib.hid (by rw [HP2.out]; rw [if_pos e1])
      clear e1
      clear y0 y1 y2 x0 x1 x2 x3 x4 x5
      rintro e w13 ⟨rfl, hb13⟩
      have HB13 := Lib.hid (below_then HB11.out HB11.out.size hb13)
      have hck := (HB13.out.block _ (lt_of_block HCK.out)).trans HCK.out
      have htr := (HB13.out.block _ (lt_of_block HTR.out)).trans HTR.out
      obtain ⟨y0, y1, y2⟩ := chk_cells hck
      obtain ⟨x0, x1, x2, x3, x4, x5⟩ : _ ∧ _ ∧ _ ∧ _ ∧ _ ∧ _ := ⟨blk_cell htr 0, blk_cell htr 1, blk_cell htr 2, blk_cell htr 3, blk_cell htr 4, blk_cell htr 5⟩
      clear hck htr hb13
      go_wp2_with fail
      go_ret
      exact ⟨by rw [HR.out]; rfl, HFin.out _ HB13.out⟩
     | true =>
      have HR : Hid (transP v st ⟨f0, f1, f2, f3, f4, f5⟩ = 0) := Lib.hid (by rw [HP2.out]; rw [if_neg (by rw [e1]; simp)])
      clear e1
      clear y0 y1 y2 x0 x1 x2 x3 x4 x5
      rintro e w13 ⟨rfl, hb13⟩
      have HB13 := Lib.hid (below_then HB11.out HB11.out.size hb13)
      have hck := (HB13.out.block _ (lt_of_block HCK.out)).trans HCK.out
      have htr := (HB13.out.block _ (lt_of_block HTR.out)).trans HTR.out
      obtain ⟨y0, y1, y2⟩ := chk_cells hck
      obtain ⟨x0, x1, x2, x3, x4, x5⟩ : _ ∧ _ ∧ _ ∧ _ ∧ _ ∧ _ := ⟨blk_cell htr 0, blk_cell htr 1, blk_cell htr 2, blk_cell htr 3, blk_cell htr 4, blk_cell htr 5⟩
      clear hck htr hb13
      go_wp2_with fail
      go_ret
      exact ⟨by rw [HR.out]; rfl, HFin.out _ HB13.out⟩
 have HEv := Lib.hid (decide_eq_false v1)
 by_cases v1001 : f1 = 1001
 ·subst v1001
  have HP1 := HP2.out
  rw [if_neg (fun h => h.2.2.1 rfl)] at HP1
  have HP2 := Lib.hid HP1
  clear HP1
  clear v0 v1
  go_enter Tryz.func81, Tryz.ntmps81
  go_wp2_with fail
  refine (there_any HM.out v f0).mono ?_
  rw [HTd.out]
  rintro e w14 ⟨rfl, hb14⟩
  have HB14 := Lib.hid (below_then HBr.out HBr.out.size hb14)
  have hck := (HB14.out.block _ (lt_of_block HCK.out)).trans HCK.out
  have htr := (HB14.out.block _ (lt_of_block HTR.out)).trans HTR.out
  obtain ⟨y0, y1, y2⟩ := chk_cells hck
  obtain ⟨x0, x1, x2, x3, x4, x5⟩ : _ ∧ _ ∧ _ ∧ _ ∧ _ ∧ _ := ⟨blk_cell htr 0, blk_cell htr 1, blk_cell htr 2, blk_cell htr 3, blk_cell htr 4, blk_cell htr 5⟩
  clear hck htr hb14
  obtain ⟨sd, rfl, c0⟩ := state_at (HM.out.below HB14.out) f0 HSW.out.1 HSW.out.2
  generalize (PAll.rd_T66 st f0).f0 = kk at c0 sk
  have d3 : decide (kk > 3) = false := decide_eq_false (by omega)
  clear sk
  go_wp2_with fail
  refine (event_any 1001 _).mono ?_
  rw [show decide (1 ≤ (1001 : Int) ∧ (1001 : Int) ≤ 1000) = false from HEv.out]
  clear y0 y1 y2 x0 x1 x2 x3 x4 x5
  rintro e w15 ⟨rfl, hb15⟩
  have HB15 := Lib.hid (below_then HB14.out HB14.out.size hb15)
  have hck := (HB15.out.block _ (lt_of_block HCK.out)).trans HCK.out
  have htr := (HB15.out.block _ (lt_of_block HTR.out)).trans HTR.out
  obtain ⟨y0, y1, y2⟩ := chk_cells hck
  obtain ⟨x0, x1, x2, x3, x4, x5⟩ : _ ∧ _ ∧ _ ∧ _ ∧ _ ∧ _ := ⟨blk_cell htr 0, blk_cell htr 1, blk_cell htr 2, blk_cell htr 3, blk_cell htr 4, blk_cell htr 5⟩
  clear hck htr hb15
  go_wp2_with fail
  refine (targets_any v _ B ca cb st tr ha A3 c3 f3 _ (HM.out.below HB15.out) (Kd.C_below H3.out HB15.out) l3).mono ?_
  cases e0 : tgtP st f3 with
  | false =>
   have HR : Hid (transP v st ⟨f0, 1001, f2, f3, f4, f5⟩ = 11) := Lib.hid (by rw [HP2.out]; rw [if_pos e0])
   clear e0
   clear y0 y1 y2 x0 x1 x2 x3 x4 x5
   rintro e w16 ⟨rfl, hb16⟩
   have HB16 := Lib.hid (below_then HB15.out HB15.out.size hb16)
   have hck := (HB16.out.block _ (lt_of_block HCK.out)).trans HCK.out
   have htr := (HB16.out.block _ (lt_of_block HTR.out)).trans HTR.out
   obtain ⟨y0, y1, y2⟩ := chk_cells hck
   obtain ⟨x0, x1, x2, x3, x4, x5⟩ : _ ∧ _ ∧ _ ∧ _ ∧ _ ∧ _ := ⟨blk_cell htr 0, blk_cell htr 1, blk_cell htr 2, blk_cell htr 3, blk_cell htr 4, blk_cell htr 5⟩
   clear hck htr hb16
   go_wp2_with fail
   go_ret
   exact ⟨by rw [HR.out]; rfl, HFin.out _ HB16.out⟩
  | true =>
   have HP1 := HP2.out
   rw [if_neg (by rw [e0]; simp)] at HP1
   have HP2 := Lib.hid HP1
   clear HP1
   clear e0
   clear y0 y1 y2 x0 x1 x2 x3 x4 x5
   rintro e w16 ⟨rfl, hb16⟩
   have HB16 := Lib.hid (below_then HB15.out HB15.out.size hb16)
   have hck := (HB16.out.block _ (lt_of_block HCK.out)).trans HCK.out
   have htr := (HB16.out.block _ (lt_of_block HTR.out)).trans HTR.out
   obtain ⟨y0, y1, y2⟩ := chk_cells hck
   obtain ⟨x0, x1, x2, x3, x4, x5⟩ : _ ∧ _ ∧ _ ∧ _ ∧ _ ∧ _ := ⟨blk_cell htr 0, blk_cell htr 1, blk_cell htr 2, blk_cell htr 3, blk_cell htr 4, blk_cell htr 5⟩
   clear hck htr hb16
   cases eg : f2.toList.isEmpty with
   | true =>
    have HP1 := HP2.out
    rw [if_neg (fun h => by rw [eg] at h; exact absurd h.1 (by simp))] at HP1
    have HP2 := Lib.hid HP1
    clear HP1
    go_wp2_with fail
    refine (acts_any v _ B st.length tr.length ca cb A5 c5 f5 HZ.out _ (HW.out.below HB16.out) (Kd.C_below H5.out HB16.out) l5).mono ?_
    cases e1 : actsP v f5 with
    | false =>
     have HR : Hid (transP v st ⟨f0, 1001, f2, f3, f4, f5⟩ = 1) := Lib.hid (by rw [HP2.out]; rw [if_pos e1])
     clear e1
     clear y0 y1 y2 x0 x1 x2 x3 x4 x5
     rintro e w18 ⟨rfl, hb18⟩
     have HB18 := Lib.hid (below_then HB16.out HB16.out.size hb18)
     have hck := (HB18.out.block _ (lt_of_block HCK.out)).trans HCK.out
     have htr := (HB18.out.block _ (lt_of_block HTR.out)).trans HTR.out
     obtain ⟨y0, y1, y2⟩ := chk_cells hck
     obtain ⟨x0, x1, x2, x3, x4, x5⟩ : _ ∧ _ ∧ _ ∧ _ ∧ _ ∧ _ := ⟨blk_cell htr 0, blk_cell htr 1, blk_cell htr 2, blk_cell htr 3, blk_cell htr 4, blk_cell htr 5⟩
     clear hck htr hb18
     go_wp2_with fail
     go_ret
     exact ⟨by rw [HR.out]; rfl, HFin.out _ HB18.out⟩
    | true =>
     have HR : Hid (transP v st ⟨f0, 1001, f2, f3, f4, f5⟩ = 0) := Lib.hid (by rw [HP2.out]; rw [if_neg (by rw [e1]; simp)])
     clear e1
     clear y0 y1 y2 x0 x1 x2 x3 x4 x5
     rintro e w18 ⟨rfl, hb18⟩
     have HB18 := Lib.hid (below_then HB16.out HB16.out.size hb18)
     have hck := (HB18.out.block _ (lt_of_block HCK.out)).trans HCK.out
     have htr := (HB18.out.block _ (lt_of_block HTR.out)).trans HTR.out
     obtain ⟨y0, y1, y2⟩ := chk_cells hck
     obtain ⟨x0, x1, x2, x3, x4, x5⟩ : _ ∧ _ ∧ _ ∧ _ ∧ _ ∧ _ := ⟨blk_cell htr 0, blk_cell htr 1, blk_cell htr 2, blk_cell htr 3, blk_cell htr 4, blk_cell htr 5⟩
     clear hck htr hb18
     go_wp2_with fail
     go_ret
     exact ⟨by rw [HR.out]; rfl, HFin.out _ HB18.out⟩
   | false =>
    go_wp2_with fail
    refine (typed_any v _ B st.length tr.length ca cb f2 hs 2 _ (HW.out.below HB16.out)).mono ?_
    cases et : typP f2 2 v with
    | false =>
     have HR : Hid (transP v st ⟨f0, 1001, f2, f3, f4, f5⟩ = 8) := Lib.hid (by rw [HP2.out]; rw [if_pos ⟨eg, et⟩])
     clear et
     clear y0 y1 y2 x0 x1 x2 x3 x4 x5
     rintro e w17 ⟨rfl, hb17⟩
     have HB17 := Lib.hid (below_then HB16.out HB16.out.size hb17)
     have hck := (HB17.out.block _ (lt_of_block HCK.out)).trans HCK.out
     have htr := (HB17.out.block _ (lt_of_block HTR.out)).trans HTR.out
     obtain ⟨y0, y1, y2⟩ := chk_cells hck
     obtain ⟨x0, x1, x2, x3, x4, x5⟩ : _ ∧ _ ∧ _ ∧ _ ∧ _ ∧ _ := ⟨blk_cell htr 0, blk_cell htr 1, blk_cell htr 2, blk_cell htr 3, blk_cell htr 4, blk_cell htr 5⟩
     clear hck htr hb17
     go_wp2_with fail
     go_ret
     exact ⟨by rw [HR.out]; rfl, HFin.out _ HB17.out⟩
    | true =>
     have HP1 := HP2.out
     rw [if_neg (fun h => by rw [et] at h; exact absurd h.2 (by simp))] at HP1
     have HP2 := Lib.hid HP1
     clear HP1
     clear et
     clear y0 y1 y2 x0 x1 x2 x3 x4 x5
     rintro e w17 ⟨rfl, hb17⟩
     have HB17 := Lib.hid (below_then HB16.out HB16.out.size hb17)
     have hck := (HB17.out.block _ (lt_of_block HCK.out)).trans HCK.out
     have htr := (HB17.out.block _ (lt_of_block HTR.out)).trans HTR.out
     obtain ⟨y0, y1, y2⟩ := chk_cells hck
     obtain ⟨x0, x1, x2, x3, x4, x5⟩ : _ ∧ _ ∧ _ ∧ _ ∧ _ ∧ _ := ⟨blk_cell htr 0, blk_cell htr 1, blk_cell htr 2, blk_cell htr 3, blk_cell htr 4, blk_cell htr 5⟩
     clear hck htr hb17
     go_wp2_with fail
     refine (acts_any v _ B st.length tr.length ca cb A5 c5 f5 HZ.out _ (HW.out.below HB17.out) (Kd.C_below H5.out HB17.out) l5).mono ?_
     cases e1 : actsP v f5 with
     | false =>
      have HR : Hid (transP v st ⟨f0, 1001, f2, f3, f4, f5⟩ = 1) := Lib.hid (by rw [HP2.out]; rw [if_pos e1])
      clear e1
      clear y0 y1 y2 x0 x1 x2 x3 x4 x5
      rintro e w19 ⟨rfl, hb19⟩
      have HB19 := Lib.hid (below_then HB17.out HB17.out.size hb19)
      have hck := (HB19.out.block _ (lt_of_block HCK.out)).trans HCK.out
      have htr := (HB19.out.block _ (lt_of_block HTR.out)).trans HTR.out
      obtain ⟨y0, y1, y2⟩ := chk_cells hck
      obtain ⟨x0, x1, x2, x3, x4, x5⟩ : _ ∧ _ ∧ _ ∧ _ ∧ _ ∧ _ := ⟨blk_cell htr 0, blk_cell htr 1, blk_cell htr 2, blk_cell htr 3, blk_cell htr 4, blk_cell htr 5⟩
      clear hck htr hb19
      go_wp2_with fail
      go_ret
      exact ⟨by rw [HR.out]; rfl, HFin.out _ HB19.out⟩
     | true =>
      have HR : Hid (transP v st ⟨f0, 1001, f2, f3, f4, f5⟩ = 0) := Lib.hid (by rw [HP2.out]; rw [if_neg (by rw [e1]; simp)])
      clear e1
      clear y0 y1 y2 x0 x1 x2 x3 x4 x5
      rintro e w19 ⟨rfl, hb19⟩
      have HB19 := Lib.hid (below_then HB17.out HB17.out.size hb19)
      have hck := (HB19.out.block _ (lt_of_block HCK.out)).trans HCK.out
      have htr := (HB19.out.block _ (lt_of_block HTR.out)).trans HTR.out
      obtain ⟨y0, y1, y2⟩ := chk_cells hck
      obtain ⟨x0, x1, x2, x3, x4, x5⟩ : _ ∧ _ ∧ _ ∧ _ ∧ _ ∧ _ := ⟨blk_cell htr 0, blk_cell htr 1, blk_cell htr 2, blk_cell htr 3, blk_cell htr 4, blk_cell htr 5⟩
      clear hck htr hb19
      go_wp2_with fail
      go_ret
      exact ⟨by rw [HR.out]; rfl, HFin.out _ HB19.out⟩
 by_cases v1002 : f1 = 1002
 ·subst v1002
  have HP1 := HP2.out
  rw [if_neg (fun h => h.2.2.2.1 rfl)] at HP1
  have HP2 := Lib.hid HP1
  clear HP1
  clear v0 v1
  go_enter Tryz.func81, Tryz.ntmps81
  go_wp2_with fail
  refine (there_any HM.out v f0).mono ?_
  rw [HTd.out]
  rintro e w20 ⟨rfl, hb20⟩
  have HB20 := Lib.hid (below_then HBr.out HBr.out.size hb20)
  have hck := (HB20.out.block _ (lt_of_block HCK.out)).trans HCK.out
  have htr := (HB20.out.block _ (lt_of_block HTR.out)).trans HTR.out
  obtain ⟨y0, y1, y2⟩ := chk_cells hck
  obtain ⟨x0, x1, x2, x3, x4, x5⟩ : _ ∧ _ ∧ _ ∧ _ ∧ _ ∧ _ := ⟨blk_cell htr 0, blk_cell htr 1, blk_cell htr 2, blk_cell htr 3, blk_cell htr 4, blk_cell htr 5⟩
  clear hck htr hb20
  obtain ⟨sd, rfl, c0⟩ := state_at (HM.out.below HB20.out) f0 HSW.out.1 HSW.out.2
  generalize (PAll.rd_T66 st f0).f0 = kk at c0 sk
  have d3 : decide (kk > 3) = false := decide_eq_false (by omega)
  clear sk
  go_wp2_with fail
  refine (event_any 1002 _).mono ?_
  rw [show decide (1 ≤ (1002 : Int) ∧ (1002 : Int) ≤ 1000) = false from HEv.out]
  clear y0 y1 y2 x0 x1 x2 x3 x4 x5
  rintro e w21 ⟨rfl, hb21⟩
  have HB21 := Lib.hid (below_then HB20.out HB20.out.size hb21)
  have hck := (HB21.out.block _ (lt_of_block HCK.out)).trans HCK.out
  have htr := (HB21.out.block _ (lt_of_block HTR.out)).trans HTR.out
  obtain ⟨y0, y1, y2⟩ := chk_cells hck
  obtain ⟨x0, x1, x2, x3, x4, x5⟩ : _ ∧ _ ∧ _ ∧ _ ∧ _ ∧ _ := ⟨blk_cell htr 0, blk_cell htr 1, blk_cell htr 2, blk_cell htr 3, blk_cell htr 4, blk_cell htr 5⟩
  clear hck htr hb21
  go_wp2_with fail
  refine (targets_any v _ B ca cb st tr ha A3 c3 f3 _ (HM.out.below HB21.out) (Kd.C_below H3.out HB21.out) l3).mono ?_
  cases e0 : tgtP st f3 with
  | false =>
   have HR : Hid (transP v st ⟨f0, 1002, f2, f3, f4, f5⟩ = 11) := Lib.hid (by rw [HP2.out]; rw [if_pos e0])
   clear e0
   clear y0 y1 y2 x0 x1 x2 x3 x4 x5
   rintro e w22 ⟨rfl, hb22⟩
   have HB22 := Lib.hid (below_then HB21.out HB21.out.size hb22)
   have hck := (HB22.out.block _ (lt_of_block HCK.out)).trans HCK.out
   have htr := (HB22.out.block _ (lt_of_block HTR.out)).trans HTR.out
   obtain ⟨y0, y1, y2⟩ := chk_cells hck
   obtain ⟨x0, x1, x2, x3, x4, x5⟩ : _ ∧ _ ∧ _ ∧ _ ∧ _ ∧ _ := ⟨blk_cell htr 0, blk_cell htr 1, blk_cell htr 2, blk_cell htr 3, blk_cell htr 4, blk_cell htr 5⟩
   clear hck htr hb22
   go_wp2_with fail
   go_ret
   exact ⟨by rw [HR.out]; rfl, HFin.out _ HB22.out⟩
  | true =>
   have HP1 := HP2.out
   rw [if_neg (by rw [e0]; simp)] at HP1
   have HP2 := Lib.hid HP1
   clear HP1
   clear e0
   clear y0 y1 y2 x0 x1 x2 x3 x4 x5
   rintro e w22 ⟨rfl, hb22⟩
   have HB22 := Lib.hid (below_then HB21.out HB21.out.size hb22)
   have hck := (HB22.out.block _ (lt_of_block HCK.out)).trans HCK.out
   have htr := (HB22.out.block _ (lt_of_block HTR.out)).trans HTR.out
   obtain ⟨y0, y1, y2⟩ := chk_cells hck
   obtain ⟨x0, x1, x2, x3, x4, x5⟩ : _ ∧ _ ∧ _ ∧ _ ∧ _ ∧ _ := ⟨blk_cell htr 0, blk_cell htr 1, blk_cell htr 2, blk_cell htr 3, blk_cell htr 4, blk_cell htr 5⟩
   clear hck htr hb22
   cases eg : f2.toList.isEmpty with
   | true =>
    have HP1 := HP2.out
    rw [if_neg (fun h => by rw [eg] at h; exact absurd h.1 (by simp))] at HP1
    have HP2 := Lib.hid HP1
    clear HP1
    go_wp2_with fail
    refine (acts_any v _ B st.length tr.length ca cb A5 c5 f5 HZ.out _ (HW.out.below HB22.out) (Kd.C_below H5.out HB22.out) l5).mono ?_
    cases e1 : actsP v f5 with
    | false =>
     have HR : Hid (transP v st ⟨f0, 1002, f2, f3, f4, f5⟩ = 1) := Lib.hid (by rw [HP2.out]; rw [if_pos e1])
     clear e1
     clear y0 y1 y2 x0 x1 x2 x3 x4 x5
     rintro e w24 ⟨rfl, hb24⟩
     have HB24 := Lib.hid (below_then HB22.out HB22.out.size hb24)
     have hck := (HB24.out.block _ (lt_of_block HCK.out)).trans HCK.out
     have htr := (HB24.out.block _ (lt_of_block HTR.out)).trans HTR.out
     obtain ⟨y0, y1, y2⟩ := chk_cells hck
     obtain ⟨x0, x1, x2, x3, x4, x5⟩ : _ ∧ _ ∧ _ ∧ _ ∧ _ ∧ _ := ⟨blk_cell htr 0, blk_cell htr 1, blk_cell htr 2, blk_cell htr 3, blk_cell htr 4, blk_cell htr 5⟩
     clear hck htr hb24
     go_wp2_with fail
     go_ret
     exact ⟨by rw [HR.out]; rfl, HFin.out _ HB24.out⟩
    | true =>
     have HR : Hid (transP v st ⟨f0, 1002, f2, f3, f4, f5⟩ = 0) := Lib.hid (by rw [HP2.out]; rw [if_neg (by rw [e1]; simp)])
     clear e1
     clear y0 y1 y2 x0 x1 x2 x3 x4 x5
     rintro e w24 ⟨rfl, hb24⟩
     have HB24 := Lib.hid (below_then HB22.out HB22.out.size hb24)
     have hck := (HB24.out.block _ (lt_of_block HCK.out)).trans HCK.out
     have htr := (HB24.out.block _ (lt_of_block HTR.out)).trans HTR.out
     obtain ⟨y0, y1, y2⟩ := chk_cells hck
     obtain ⟨x0, x1, x2, x3, x4, x5⟩ : _ ∧ _ ∧ _ ∧ _ ∧ _ ∧ _ := ⟨blk_cell htr 0, blk_cell htr 1, blk_cell htr 2, blk_cell htr 3, blk_cell htr 4, blk_cell htr 5⟩
     clear hck htr hb24
     go_wp2_with fail
     go_ret
     exact ⟨by rw [HR.out]; rfl, HFin.out _ HB24.out⟩
   | false =>
    go_wp2_with fail
    refine (typed_any v _ B st.length tr.length ca cb f2 hs 2 _ (HW.out.below HB22.out)).mono ?_
    cases et : typP f2 2 v with
    | false =>
     have HR : Hid (transP v st ⟨f0, 1002, f2, f3, f4, f5⟩ = 8) := Lib.hid (by rw [HP2.out]; rw [if_pos ⟨eg, et⟩])
     clear et
     clear y0 y1 y2 x0 x1 x2 x3 x4 x5
     rintro e w23 ⟨rfl, hb23⟩
     have HB23 := Lib.hid (below_then HB22.out HB22.out.size hb23)
     have hck := (HB23.out.block _ (lt_of_block HCK.out)).trans HCK.out
     have htr := (HB23.out.block _ (lt_of_block HTR.out)).trans HTR.out
     obtain ⟨y0, y1, y2⟩ := chk_cells hck
     obtain ⟨x0, x1, x2, x3, x4, x5⟩ : _ ∧ _ ∧ _ ∧ _ ∧ _ ∧ _ := ⟨blk_cell htr 0, blk_cell htr 1, blk_cell htr 2, blk_cell htr 3, blk_cell htr 4, blk_cell htr 5⟩
     clear hck htr hb23
     go_wp2_with fail
     go_ret
     exact ⟨by rw [HR.out]; rfl, HFin.out _ HB23.out⟩
    | true =>
     have HP1 := HP2.out
     rw [if_neg (fun h => by rw [et] at h; exact absurd h.2 (by simp))] at HP1
     have HP2 := Lib.hid HP1
     clear HP1
     clear et
     clear y0 y1 y2 x0 x1 x2 x3 x4 x5
     rintro e w23 ⟨rfl, hb23⟩
     have HB23 := Lib.hid (below_then HB22.out HB22.out.size hb23)
     have hck := (HB23.out.block _ (lt_of_block HCK.out)).trans HCK.out
     have htr := (HB23.out.block _ (lt_of_block HTR.out)).trans HTR.out
     obtain ⟨y0, y1, y2⟩ := chk_cells hck
     obtain ⟨x0, x1, x2, x3, x4, x5⟩ : _ ∧ _ ∧ _ ∧ _ ∧ _ ∧ _ := ⟨blk_cell htr 0, blk_cell htr 1, blk_cell htr 2, blk_cell htr 3, blk_cell htr 4, blk_cell htr 5⟩
     clear hck htr hb23
     go_wp2_with fail
     refine (acts_any v _ B st.length tr.length ca cb A5 c5 f5 HZ.out _ (HW.out.below HB23.out) (Kd.C_below H5.out HB23.out) l5).mono ?_
     cases e1 : actsP v f5 with
     | false =>
      have HR : Hid (transP v st ⟨f0, 1002, f2, f3, f4, f5⟩ = 1) := Lib.hid (by rw [HP2.out]; rw [if_pos e1])
      clear e1
      clear y0 y1 y2 x0 x1 x2 x3 x4 x5
      rintro e w25 ⟨rfl, hb25⟩
      have HB25 := Lib.hid (below_then HB23.out HB23.out.size hb25)
      have hck := (HB25.out.block _ (lt_of_block HCK.out)).trans HCK.out
      have htr := (HB25.out.block _ (lt_of_block HTR.out)).trans HTR.out
      obtain ⟨y0, y1, y2⟩ := chk_cells hck
      obtain ⟨x0, x1, x2, x3, x4, x5⟩ : _ ∧ _ ∧ _ ∧ _ ∧ _ ∧ _ := ⟨blk_cell htr 0, blk_cell htr 1, blk_cell htr 2, blk_cell htr 3, blk_cell htr 4, blk_cell htr 5⟩
      clear hck htr hb25
      go_wp2_with fail
      go_ret
      exact ⟨by rw [HR.out]; rfl, HFin.out _ HB25.out⟩
     | true =>
      have HR : Hid (transP v st ⟨f0, 1002, f2, f3, f4, f5⟩ = 0) := Lib.hid (by rw [HP2.out]; rw [if_neg (by rw [e1]; simp)])
      clear e1
      clear y0 y1 y2 x0 x1 x2 x3 x4 x5
      rintro e w25 ⟨rfl, hb25⟩
      have HB25 := Lib.hid (below_then HB23.out HB23.out.size hb25)
      have hck := (HB25.out.block _ (lt_of_block HCK.out)).trans HCK.out
      have htr := (HB25.out.block _ (lt_of_block HTR.out)).trans HTR.out
      obtain ⟨y0, y1, y2⟩ := chk_cells hck
      obtain ⟨x0, x1, x2, x3, x4, x5⟩ : _ ∧ _ ∧ _ ∧ _ ∧ _ ∧ _ := ⟨blk_cell htr 0, blk_cell htr 1, blk_cell htr 2, blk_cell htr 3, blk_cell htr 4, blk_cell htr 5⟩
      clear hck htr hb25
      go_wp2_with fail
      go_ret
      exact ⟨by rw [HR.out]; rfl, HFin.out _ HB25.out⟩
 have z3 : (f1 == 1001) = false := by simp [v1001]
 have z4 : (f1 != 1001) = true := by simp [v1001]
 have z5 : (f1 == 1002) = false := by simp [v1002]
 have z6 : (f1 != 1002) = true := by simp [v1002]
 by_cases vd : 2000 ≤ f1 ∧ f1 < 2000 + (st.length : Int)
 ·have HP1 := HP2.out
  rw [if_neg (fun h => h.2.2.2.2 vd)] at HP1
  have HP2 := Lib.hid HP1
  clear HP1
  have d1 : decide (f1 ≥ 2000) = true := decide_eq_true vd.1
  have d2 : decide (f1 < 2000 + (st.length : Int)) = true := decide_eq_true vd.2
  clear v0 v1 v1001 v1002 vd
  go_enter Tryz.func81, Tryz.ntmps81
  go_wp2_with fail
  refine (there_any HM.out v f0).mono ?_
  rw [HTd.out]
  rintro e w26 ⟨rfl, hb26⟩
  have HB26 := Lib.hid (below_then HBr.out HBr.out.size hb26)
  have hck := (HB26.out.block _ (lt_of_block HCK.out)).trans HCK.out
  have htr := (HB26.out.block _ (lt_of_block HTR.out)).trans HTR.out
  obtain ⟨y0, y1, y2⟩ := chk_cells hck
  obtain ⟨x0, x1, x2, x3, x4, x5⟩ : _ ∧ _ ∧ _ ∧ _ ∧ _ ∧ _ := ⟨blk_cell htr 0, blk_cell htr 1, blk_cell htr 2, blk_cell htr 3, blk_cell htr 4, blk_cell htr 5⟩
  clear hck htr hb26
  obtain ⟨sd, rfl, c0⟩ := state_at (HM.out.below HB26.out) f0 HSW.out.1 HSW.out.2
  generalize (PAll.rd_T66 st f0).f0 = kk at c0 sk
  have d3 : decide (kk > 3) = false := decide_eq_false (by omega)
  clear sk
  go_wp2_with fail
  refine (event_any f1 _).mono ?_
  rw [show decide (1 ≤ f1 ∧ f1 ≤ 1000) = false from HEv.out]
  clear y0 y1 y2 x0 x1 x2 x3 x4 x5
  rintro e w27 ⟨rfl, hb27⟩
  have HB27 := Lib.hid (below_then HB26.out HB26.out.size hb27)
  have hck := (HB27.out.block _ (lt_of_block HCK.out)).trans HCK.out
  have htr := (HB27.out.block _ (lt_of_block HTR.out)).trans HTR.out
  obtain ⟨y0, y1, y2⟩ := chk_cells hck
  obtain ⟨x0, x1, x2, x3, x4, x5⟩ : _ ∧ _ ∧ _ ∧ _ ∧ _ ∧ _ := ⟨blk_cell htr 0, blk_cell htr 1, blk_cell htr 2, blk_cell htr 3, blk_cell htr 4, blk_cell htr 5⟩
  clear hck htr hb27
  go_wp2_with fail
  refine (targets_any v _ B ca cb st tr ha A3 c3 f3 _ (HM.out.below HB27.out) (Kd.C_below H3.out HB27.out) l3).mono ?_
  cases e0 : tgtP st f3 with
  | false =>
   have HR : Hid (transP v st ⟨f0, f1, f2, f3, f4, f5⟩ = 11) := Lib.hid (by rw [HP2.out]; rw [if_pos e0])
   clear e0
   clear y0 y1 y2 x0 x1 x2 x3 x4 x5
   rintro e w28 ⟨rfl, hb28⟩
   have HB28 := Lib.hid (below_then HB27.out HB27.out.size hb28)
   have hck := (HB28.out.block _ (lt_of_block HCK.out)).trans HCK.out
   have htr := (HB28.out.block _ (lt_of_block HTR.out)).trans HTR.out
   obtain ⟨y0, y1, y2⟩ := chk_cells hck
   obtain ⟨x0, x1, x2, x3, x4, x5⟩ : _ ∧ _ ∧ _ ∧ _ ∧ _ ∧ _ := ⟨blk_cell htr 0, blk_cell htr 1, blk_cell htr 2, blk_cell htr 3, blk_cell htr 4, blk_cell htr 5⟩
   clear hck htr hb28
   go_wp2_with fail
   go_ret
   exact ⟨by rw [HR.out]; rfl, HFin.out _ HB28.out⟩
  | true =>
   have HP1 := HP2.out
   rw [if_neg (by rw [e0]; simp)] at HP1
   have HP2 := Lib.hid HP1
   clear HP1
   clear e0
   clear y0 y1 y2 x0 x1 x2 x3 x4 x5
   rintro e w28 ⟨rfl, hb28⟩
   have HB28 := Lib.hid (below_then HB27.out HB27.out.size hb28)
   have hck := (HB28.out.block _ (lt_of_block HCK.out)).trans HCK.out
   have htr := (HB28.out.block _ (lt_of_block HTR.out)).trans HTR.out
   obtain ⟨y0, y1, y2⟩ := chk_cells hck
   obtain ⟨x0, x1, x2, x3, x4, x5⟩ : _ ∧ _ ∧ _ ∧ _ ∧ _ ∧ _ := ⟨blk_cell htr 0, blk_cell htr 1, blk_cell htr 2, blk_cell htr 3, blk_cell htr 4, blk_cell htr 5⟩
   clear hck htr hb28
   cases eg : f2.toList.isEmpty with
   | true =>
    have HP1 := HP2.out
    rw [if_neg (fun h => by rw [eg] at h; exact absurd h.1 (by simp))] at HP1
    have HP2 := Lib.hid HP1
    clear HP1
    go_wp2_with fail
    refine (acts_any v _ B st.length tr.length ca cb A5 c5 f5 HZ.out _ (HW.out.below HB28.out) (Kd.C_below H5.out HB28.out) l5).mono ?_
    cases e1 : actsP v f5 with
    | false =>
     have HR : Hid (transP v st ⟨f0, f1, f2, f3, f4, f5⟩ = 1) := Lib.hid (by rw [HP2.out]; rw [if_pos e1])
     clear e1
     clear y0 y1 y2 x0 x1 x2 x3 x4 x5
     rintro e w30 ⟨rfl, hb30⟩
     have HB30 := Lib.hid (below_then HB28.out HB28.out.size hb30)
     have hck := (HB30.out.block _ (lt_of_block HCK.out)).trans HCK.out
     have htr := (HB30.out.block _ (lt_of_block HTR.out)).trans HTR.out
     obtain ⟨y0, y1, y2⟩ := chk_cells hck
     obtain ⟨x0, x1, x2, x3, x4, x5⟩ : _ ∧ _ ∧ _ ∧ _ ∧ _ ∧ _ := ⟨blk_cell htr 0, blk_cell htr 1, blk_cell htr 2, blk_cell htr 3, blk_cell htr 4, blk_cell htr 5⟩
     clear hck htr hb30
     go_wp2_with fail
     go_ret
     exact ⟨by rw [HR.out]; rfl, HFin.out _ HB30.out⟩
    | true =>
     have HR : Hid (transP v st ⟨f0, f1, f2, f3, f4, f5⟩ = 0) := Lib.hid (by rw [HP2.out]; rw [if_neg (by rw [e1]; simp)])
     clear e1
     clear y0 y1 y2 x0 x1 x2 x3 x4 x5
     rintro e w30 ⟨rfl, hb30⟩
     have HB30 := Lib.hid (below_then HB28.out HB28.out.size hb30)
     have hck := (HB30.out.block _ (lt_of_block HCK.out)).trans HCK.out
     have htr := (HB30.out.block _ (lt_of_block HTR.out)).trans HTR.out
     obtain ⟨y0, y1, y2⟩ := chk_cells hck
     obtain ⟨x0, x1, x2, x3, x4, x5⟩ : _ ∧ _ ∧ _ ∧ _ ∧ _ ∧ _ := ⟨blk_cell htr 0, blk_cell htr 1, blk_cell htr 2, blk_cell htr 3, blk_cell htr 4, blk_cell htr 5⟩
     clear hck htr hb30
     go_wp2_with fail
     go_ret
     exact ⟨by rw [HR.out]; rfl, HFin.out _ HB30.out⟩
   | false =>
    go_wp2_with fail
    refine (typed_any v _ B st.length tr.length ca cb f2 hs 2 _ (HW.out.below HB28.out)).mono ?_
    cases et : typP f2 2 v with
    | false =>
     have HR : Hid (transP v st ⟨f0, f1, f2, f3, f4, f5⟩ = 8) := Lib.hid (by rw [HP2.out]; rw [if_pos ⟨eg, et⟩])
     clear et
     clear y0 y1 y2 x0 x1 x2 x3 x4 x5
     rintro e w29 ⟨rfl, hb29⟩
     have HB29 := Lib.hid (below_then HB28.out HB28.out.size hb29)
     have hck := (HB29.out.block _ (lt_of_block HCK.out)).trans HCK.out
     have htr := (HB29.out.block _ (lt_of_block HTR.out)).trans HTR.out
     obtain ⟨y0, y1, y2⟩ := chk_cells hck
     obtain ⟨x0, x1, x2, x3, x4, x5⟩ : _ ∧ _ ∧ _ ∧ _ ∧ _ ∧ _ := ⟨blk_cell htr 0, blk_cell htr 1, blk_cell htr 2, blk_cell htr 3, blk_cell htr 4, blk_cell htr 5⟩
     clear hck htr hb29
     go_wp2_with fail
     go_ret
     exact ⟨by rw [HR.out]; rfl, HFin.out _ HB29.out⟩
    | true =>
     have HP1 := HP2.out
     rw [if_neg (fun h => by rw [et] at h; exact absurd h.2 (by simp))] at HP1
     have HP2 := Lib.hid HP1
     clear HP1
     clear et
     clear y0 y1 y2 x0 x1 x2 x3 x4 x5
     rintro e w29 ⟨rfl, hb29⟩
     have HB29 := Lib.hid (below_then HB28.out HB28.out.size hb29)
     have hck := (HB29.out.block _ (lt_of_block HCK.out)).trans HCK.out
     have htr := (HB29.out.block _ (lt_of_block HTR.out)).trans HTR.out
     obtain ⟨y0, y1, y2⟩ := chk_cells hck
     obtain ⟨x0, x1, x2, x3, x4, x5⟩ : _ ∧ _ ∧ _ ∧ _ ∧ _ ∧ _ := ⟨blk_cell htr 0, blk_cell htr 1, blk_cell htr 2, blk_cell htr 3, blk_cell htr 4, blk_cell htr 5⟩
     clear hck htr hb29
     go_wp2_with fail
     refine (acts_any v _ B st.length tr.length ca cb A5 c5 f5 HZ.out _ (HW.out.below HB29.out) (Kd.C_below H5.out HB29.out) l5).mono ?_
     cases e1 : actsP v f5 with
     | false =>
      have HR : Hid (transP v st ⟨f0, f1, f2, f3, f4, f5⟩ = 1) := Lib.hid (by rw [HP2.out]; rw [if_pos e1])
      clear e1
      clear y0 y1 y2 x0 x1 x2 x3 x4 x5
      rintro e w31 ⟨rfl, hb31⟩
      have HB31 := Lib.hid (below_then HB29.out HB29.out.size hb31)
      have hck := (HB31.out.block _ (lt_of_block HCK.out)).trans HCK.out
      have htr := (HB31.out.block _ (lt_of_block HTR.out)).trans HTR.out
      obtain ⟨y0, y1, y2⟩ := chk_cells hck
      obtain ⟨x0, x1, x2, x3, x4, x5⟩ : _ ∧ _ ∧ _ ∧ _ ∧ _ ∧ _ := ⟨blk_cell htr 0, blk_cell htr 1, blk_cell htr 2, blk_cell htr 3, blk_cell htr 4, blk_cell htr 5⟩
      clear hck htr hb31
      go_wp2_with fail
      go_ret
      exact ⟨by rw [HR.out]; rfl, HFin.out _ HB31.out⟩
     | true =>
      have HR : Hid (transP v st ⟨f0, f1, f2, f3, f4, f5⟩ = 0) := Lib.hid (by rw [HP2.out]; rw [if_neg (by rw [e1]; simp)])
      clear e1
      clear y0 y1 y2 x0 x1 x2 x3 x4 x5
      rintro e w31 ⟨rfl, hb31⟩
      have HB31 := Lib.hid (below_then HB29.out HB29.out.size hb31)
      have hck := (HB31.out.block _ (lt_of_block HCK.out)).trans HCK.out
      have htr := (HB31.out.block _ (lt_of_block HTR.out)).trans HTR.out
      obtain ⟨y0, y1, y2⟩ := chk_cells hck
      obtain ⟨x0, x1, x2, x3, x4, x5⟩ : _ ∧ _ ∧ _ ∧ _ ∧ _ ∧ _ := ⟨blk_cell htr 0, blk_cell htr 1, blk_cell htr 2, blk_cell htr 3, blk_cell htr 4, blk_cell htr 5⟩
      clear hck htr hb31
      go_wp2_with fail
      go_ret
      exact ⟨by rw [HR.out]; rfl, HFin.out _ HB31.out⟩
 have HR : Hid (transP v st ⟨f0, f1, f2, f3, f4, f5⟩ = 1) := Lib.hid (by rw [HP2.out]; rw [if_pos ⟨v0, v1, v1001, v1002, vd⟩])
 have hor : decide (f1 ≥ 2000) = false ∨ decide (f1 ≥ 2000) = true ∧ decide (f1 < 2000 + (st.length : Int)) = false := by
  by_cases h : 2000 ≤ f1
  ·exact .inr ⟨decide_eq_true h, decide_eq_false (fun h' => vd ⟨h, h'⟩)⟩
  ·exact .inl (decide_eq_false h)
 clear v0 v1 v1001 v1002 vd
 go_enter Tryz.func81, Tryz.ntmps81
 rcases hor with d1 | ⟨d1, d2⟩
 all_goals
  go_wp2_with fail
  refine (there_any HM.out v f0).mono ?_
  rw [HTd.out]
  rintro e w32 ⟨rfl, hb32⟩
  have HB32 := Lib.hid (below_then HBr.out HBr.out.size hb32)
  have hck := (HB32.out.block _ (lt_of_block HCK.out)).trans HCK.out
  have htr := (HB32.out.block _ (lt_of_block HTR.out)).trans HTR.out
  obtain ⟨y0, y1, y2⟩ := chk_cells hck
  obtain ⟨x0, x1, x2, x3, x4, x5⟩ : _ ∧ _ ∧ _ ∧ _ ∧ _ ∧ _ := ⟨blk_cell htr 0, blk_cell htr 1, blk_cell htr 2, blk_cell htr 3, blk_cell htr 4, blk_cell htr 5⟩
  clear hck htr hb32
  obtain ⟨sd, rfl, c0⟩ := state_at (HM.out.below HB32.out) f0 HSW.out.1 HSW.out.2
  generalize (PAll.rd_T66 st f0).f0 = kk at c0 sk
  have d3 : decide (kk > 3) = false := decide_eq_false (by omega)
  clear sk
  go_wp2_with fail
  refine (event_any f1 _).mono ?_
  rw [show decide (1 ≤ f1 ∧ f1 ≤ 1000) = false from HEv.out]
  clear y0 y1 y2 x0 x1 x2 x3 x4 x5
  rintro e w33 ⟨rfl, hb33⟩
  have HB33 := Lib.hid (below_then HB32.out HB32.out.size hb33)
  have hck := (HB33.out.block _ (lt_of_block HCK.out)).trans HCK.out
  have htr := (HB33.out.block _ (lt_of_block HTR.out)).trans HTR.out
  obtain ⟨y0, y1, y2⟩ := chk_cells hck
  obtain ⟨x0, x1, x2, x3, x4, x5⟩ : _ ∧ _ ∧ _ ∧ _ ∧ _ ∧ _ := ⟨blk_cell htr 0, blk_cell htr 1, blk_cell htr 2, blk_cell htr 3, blk_cell htr 4, blk_cell htr 5⟩
  clear hck htr hb33
  go_wp2_with fail
  go_ret
  exact ⟨by rw [HR.out]; rfl, HFin.out _ HB33.out⟩
end Go.Proofs.YtikilglbhnplaaaGreatDoor
end
