-- printed by the kit's print.py, regrouped by repack.py
import Derived.Test.YtldcplgfkcionaaDoorPAllT
import Derived.Test.YtldcplgfkcionaaDoorPAllTwo
namespace Go.Proofs.YtldcplgfkcionaaDoor.PAll
open Go.RowKit Go.Proofs.YtldcplgfkcionaaDoorW.PrintWords Go.Proofs.YtldcplgfkcionaaDoorW.PrintLast Go.Proofs.YtldcplgfkcionaaDoorW.PrintMore
attribute [local go_sem] max2_int min2_int max_two min_two max_three min_three max_four min_four   -- for this text's walks alone
set_option linter.unusedVariables false
set_option linter.unusedSimpArgs false

/-! ### spinetref04_End: function 58 -/
mutual
def spinetref04_End.j0 : Nat → Int → List Int → Bool → Bool → Int → Int → Int → Option (Int × Int × Int × Int)
  | 0, _, _, _, _, _, _, _ => none
  | k + 1, x1, x2, x4, x40, x239000, x239001, x239002 => if x40 = true then ((spinetref04_whole.f 0).bind fun bt242 => (some (bt242.1, bt242.2.1, bt242.2.2, x1))) else (if x4 = true then (some (0, 0, 4, x1)) else (if x239001 < (x2.length : Int) then (if 0 ≤ x239001 then ((spinetref04_whole.f (rd x2 x239001)).bind fun bt246 => (some (bt246.1, bt246.2.1, bt246.2.2, x1))) else (none)) else (some (0, 0, 4, x1))))
def spinetref04_End.j1 : Nat → List (S40) → Int → List Int → Int → Bool → Int → Bool → Int → Int → Int → Option (Int × Int × Int × Int)
  | 0, _, _, _, _, _, _, _, _, _, _ => none
  | k + 1, x0, x1, x2, x3, x4, x25, x61, x239000, x239001, x239002 => if x61 = true then ((spinetref04_truth.f (x239000 == 15)).bind fun bt249 => (some (bt249.1, bt249.2.1, bt249.2.2, x1))) else (if x25 = 14 then (spinetref04_End.j2 k x0 x1 x2 x3 x4 (x25 == 14) x239000 x239001 x239002) else (spinetref04_End.j2 k x0 x1 x2 x3 x4 (x25 == 19) x239000 x239001 x239002))
def spinetref04_End.j2 : Nat → List (S40) → Int → List Int → Int → Bool → Bool → Int → Int → Int → Option (Int × Int × Int × Int)
  | 0, _, _, _, _, _, _, _, _, _ => none
  | k + 1, x0, x1, x2, x3, x4, x69, x239000, x239001, x239002 => if x69 = true then ((spinetref04_End.f k x0 (wrap64 (x1 - 1)) x2 x3 x4).bind fun bt252 => (if bt252.2.2.1 = 0 then (if x239000 = 14 then (spinetref04_End.j3 k bt252.2.2.2 (bt252.1 == 2) x239000 x239001 x239002 bt252.1 bt252.2.1 bt252.2.2.1) else (spinetref04_End.j3 k bt252.2.2.2 false x239000 x239001 x239002 bt252.1 bt252.2.1 bt252.2.2.1)) else (some (bt252.1, bt252.2.1, bt252.2.2.1, bt252.2.2.2)))) else ((spinetref04_End.f k x0 (wrap64 (x1 - 1)) x2 x3 x4).bind fun bt264 => ((spinetref04_End.f k x0 (wrap64 (bt264.2.2.2 - 1)) x2 x3 x4).bind fun bt269 => (if bt269.2.2.1 = 0 then (if bt264.2.2.1 = 0 then ((spinetref04_two.f k x239000 bt269.1 bt269.2.1 bt264.1 bt264.2.1).bind fun bt274 => (if bt274.2.2 = 9 then (if x4 = true then ((spinetref04_whole.f 0).bind fun bt278 => (some (bt278.1, bt278.2.1, bt278.2.2, bt269.2.2.2))) else (some (bt274.1, bt274.2.1, bt274.2.2, bt269.2.2.2))) else (some (bt274.1, bt274.2.1, bt274.2.2, bt269.2.2.2)))) else (some (bt264.1, bt264.2.1, bt264.2.2.1, bt269.2.2.2))) else (some (bt269.1, bt269.2.1, bt269.2.2.1, bt269.2.2.2)))))
def spinetref04_End.j3 : Nat → Int → Bool → Int → Int → Int → Int → Int → Int → Option (Int × Int × Int × Int)
  | 0, _, _, _, _, _, _, _, _ => none
  | k + 1, x14, x95, x239000, x239001, x239002, x257000, x257001, x257002 => if x95 = true then ((spinetref04_truth.f (x257001 == 0)).bind fun bt257 => (some (bt257.1, bt257.2.1, bt257.2.2, x14))) else (if x239000 = 19 then (spinetref04_End.j4 k x14 (x257000 == 1) x257000 x257001 x257002) else (spinetref04_End.j4 k x14 false x257000 x257001 x257002))
def spinetref04_End.j4 : Nat → Int → Bool → Int → Int → Int → Option (Int × Int × Int × Int)
  | 0, _, _, _, _, _ => none
  | k + 1, x14, x110, x257000, x257001, x257002 => if x110 = true then ((spinetref01_Sub.f 0 x257001).bind fun t260 => ((spinetref04_whole.f t260).bind fun bt261 => (some (bt261.1, bt261.2.1, bt261.2.2, x14)))) else (some (0, 0, 8, x14))
def spinetref04_End.f : Nat → List (S40) → Int → List Int → Int → Bool → Option (Int × Int × Int × Int)
  | 0, _, _, _, _, _ => none
  | k + 1, l0, a1, l2, a3, a4 => if 0 ≤ a1 then (if a1 < (l0.length : Int) then (if ((rd_T40 l0 a1).f0) = 1 then ((spinetref04_whole.f ((rd_T40 l0 a1).f1)).bind fun bt239 => (some (bt239.1, bt239.2.1, bt239.2.2, a1))) else (if ((rd_T40 l0 a1).f0) = 2 then (if a4 = true then (spinetref04_End.j0 k a1 l2 a4 (decide (((rd_T40 l0 a1).f1) < a3)) ((rd_T40 l0 a1).f0) ((rd_T40 l0 a1).f1) ((rd_T40 l0 a1).f2)) else (spinetref04_End.j0 k a1 l2 a4 false ((rd_T40 l0 a1).f0) ((rd_T40 l0 a1).f1) ((rd_T40 l0 a1).f2))) else (if ((rd_T40 l0 a1).f0) = 15 then (spinetref04_End.j1 k l0 a1 l2 a3 a4 ((rd_T40 l0 a1).f0) (((rd_T40 l0 a1).f0) == 15) ((rd_T40 l0 a1).f0) ((rd_T40 l0 a1).f1) ((rd_T40 l0 a1).f2)) else (spinetref04_End.j1 k l0 a1 l2 a3 a4 ((rd_T40 l0 a1).f0) (((rd_T40 l0 a1).f0) == 16) ((rd_T40 l0 a1).f0) ((rd_T40 l0 a1).f1) ((rd_T40 l0 a1).f2))))) else (none)) else (none)
end
theorem spinetref04_End.mono_l : ∀ k, (∀ y0 y1 y2 y3 y4, LeO (spinetref04_End.f k y0 y1 y2 y3 y4) (spinetref04_End.f (k + 1) y0 y1 y2 y3 y4)) ∧ (∀ y0 y1 y2 y3 y4 y5 y6, LeO (spinetref04_End.j0 k y0 y1 y2 y3 y4 y5 y6) (spinetref04_End.j0 (k + 1) y0 y1 y2 y3 y4 y5 y6)) ∧ (∀ y0 y1 y2 y3 y4 y5 y6 y7 y8 y9, LeO (spinetref04_End.j1 k y0 y1 y2 y3 y4 y5 y6 y7 y8 y9) (spinetref04_End.j1 (k + 1) y0 y1 y2 y3 y4 y5 y6 y7 y8 y9)) ∧ (∀ y0 y1 y2 y3 y4 y5 y6 y7 y8, LeO (spinetref04_End.j2 k y0 y1 y2 y3 y4 y5 y6 y7 y8) (spinetref04_End.j2 (k + 1) y0 y1 y2 y3 y4 y5 y6 y7 y8)) ∧ (∀ y0 y1 y2 y3 y4 y5 y6 y7, LeO (spinetref04_End.j3 k y0 y1 y2 y3 y4 y5 y6 y7) (spinetref04_End.j3 (k + 1) y0 y1 y2 y3 y4 y5 y6 y7)) ∧ (∀ y0 y1 y2 y3 y4, LeO (spinetref04_End.j4 k y0 y1 y2 y3 y4) (spinetref04_End.j4 (k + 1) y0 y1 y2 y3 y4))
  | 0 => ⟨fun _ _ _ _ _ r h => by simp [spinetref04_End.f] at h, fun _ _ _ _ _ _ _ r h => by simp [spinetref04_End.j0] at h, fun _ _ _ _ _ _ _ _ _ _ r h => by simp [spinetref04_End.j1] at h, fun _ _ _ _ _ _ _ _ _ r h => by simp [spinetref04_End.j2] at h, fun _ _ _ _ _ _ _ _ r h => by simp [spinetref04_End.j3] at h, fun _ _ _ _ _ r h => by simp [spinetref04_End.j4] at h⟩
  | k + 1 => by
    obtain ⟨ih0, ih1, ih2, ih3, ih4, ih5⟩ := spinetref04_End.mono_l k
    refine ⟨?_, ?_, ?_, ?_, ?_, ?_⟩
    · intro y0 y1 y2 y3 y4
      unfold spinetref04_End.f
      repeat' first
      | (with_reducible exact ih0 _ _ _ _ _)
      | (with_reducible exact ih1 _ _ _ _ _ _ _)
      | (with_reducible exact ih2 _ _ _ _ _ _ _ _ _ _)
      | (with_reducible exact ih3 _ _ _ _ _ _ _ _ _)
      | (with_reducible exact ih4 _ _ _ _ _ _ _ _)
      | (with_reducible exact ih5 _ _ _ _ _)
      | (with_reducible exact spinetref04_two.mono _ _ _ _ _ _)
      | (with_reducible exact LeO.refl _)
      | (with_reducible exact LeO.none _)
      | (with_reducible refine LeO.ite ?_ ?_)
      | (with_reducible refine LeO.bind ?_ (fun _ => ?_))
      | exact ih0 _ _ _ _ _
      | exact ih1 _ _ _ _ _ _ _
      | exact ih2 _ _ _ _ _ _ _ _ _ _
      | exact ih3 _ _ _ _ _ _ _ _ _
      | exact ih4 _ _ _ _ _ _ _ _
      | exact ih5 _ _ _ _ _
      | exact spinetref04_two.mono _ _ _ _ _ _
      | exact LeO.none _
      | refine LeO.ite ?_ ?_
      | refine LeO.bind ?_ (fun _ => ?_)
    · intro y0 y1 y2 y3 y4 y5 y6
      unfold spinetref04_End.j0
      repeat' first
      | (with_reducible exact ih0 _ _ _ _ _)
      | (with_reducible exact ih1 _ _ _ _ _ _ _)
      | (with_reducible exact ih2 _ _ _ _ _ _ _ _ _ _)
      | (with_reducible exact ih3 _ _ _ _ _ _ _ _ _)
      | (with_reducible exact ih4 _ _ _ _ _ _ _ _)
      | (with_reducible exact ih5 _ _ _ _ _)
      | (with_reducible exact spinetref04_two.mono _ _ _ _ _ _)
      | (with_reducible exact LeO.refl _)
      | (with_reducible exact LeO.none _)
      | (with_reducible refine LeO.ite ?_ ?_)
      | (with_reducible refine LeO.bind ?_ (fun _ => ?_))
      | exact ih0 _ _ _ _ _
      | exact ih1 _ _ _ _ _ _ _
      | exact ih2 _ _ _ _ _ _ _ _ _ _
      | exact ih3 _ _ _ _ _ _ _ _ _
      | exact ih4 _ _ _ _ _ _ _ _
      | exact ih5 _ _ _ _ _
      | exact spinetref04_two.mono _ _ _ _ _ _
      | exact LeO.none _
      | refine LeO.ite ?_ ?_
      | refine LeO.bind ?_ (fun _ => ?_)
    · intro y0 y1 y2 y3 y4 y5 y6 y7 y8 y9
      unfold spinetref04_End.j1
      repeat' first
      | (with_reducible exact ih0 _ _ _ _ _)
      | (with_reducible exact ih1 _ _ _ _ _ _ _)
      | (with_reducible exact ih2 _ _ _ _ _ _ _ _ _ _)
      | (with_reducible exact ih3 _ _ _ _ _ _ _ _ _)
      | (with_reducible exact ih4 _ _ _ _ _ _ _ _)
      | (with_reducible exact ih5 _ _ _ _ _)
      | (with_reducible exact spinetref04_two.mono _ _ _ _ _ _)
      | (with_reducible exact LeO.refl _)
      | (with_reducible exact LeO.none _)
      | (with_reducible refine LeO.ite ?_ ?_)
      | (with_reducible refine LeO.bind ?_ (fun _ => ?_))
      | exact ih0 _ _ _ _ _
      | exact ih1 _ _ _ _ _ _ _
      | exact ih2 _ _ _ _ _ _ _ _ _ _
      | exact ih3 _ _ _ _ _ _ _ _ _
      | exact ih4 _ _ _ _ _ _ _ _
      | exact ih5 _ _ _ _ _
      | exact spinetref04_two.mono _ _ _ _ _ _
      | exact LeO.none _
      | refine LeO.ite ?_ ?_
      | refine LeO.bind ?_ (fun _ => ?_)
    · intro y0 y1 y2 y3 y4 y5 y6 y7 y8
      unfold spinetref04_End.j2
      repeat' first
      | (with_reducible exact ih0 _ _ _ _ _)
      | (with_reducible exact ih1 _ _ _ _ _ _ _)
      | (with_reducible exact ih2 _ _ _ _ _ _ _ _ _ _)
      | (with_reducible exact ih3 _ _ _ _ _ _ _ _ _)
      | (with_reducible exact ih4 _ _ _ _ _ _ _ _)
      | (with_reducible exact ih5 _ _ _ _ _)
      | (with_reducible exact spinetref04_two.mono _ _ _ _ _ _)
      | (with_reducible exact LeO.refl _)
      | (with_reducible exact LeO.none _)
      | (with_reducible refine LeO.ite ?_ ?_)
      | (with_reducible refine LeO.bind ?_ (fun _ => ?_))
      | exact ih0 _ _ _ _ _
      | exact ih1 _ _ _ _ _ _ _
      | exact ih2 _ _ _ _ _ _ _ _ _ _
      | exact ih3 _ _ _ _ _ _ _ _ _
      | exact ih4 _ _ _ _ _ _ _ _
      | exact ih5 _ _ _ _ _
      | exact spinetref04_two.mono _ _ _ _ _ _
      | exact LeO.none _
      | refine LeO.ite ?_ ?_
      | refine LeO.bind ?_ (fun _ => ?_)
    · intro y0 y1 y2 y3 y4 y5 y6 y7
      unfold spinetref04_End.j3
      repeat' first
      | (with_reducible exact ih0 _ _ _ _ _)
      | (with_reducible exact ih1 _ _ _ _ _ _ _)
      | (with_reducible exact ih2 _ _ _ _ _ _ _ _ _ _)
      | (with_reducible exact ih3 _ _ _ _ _ _ _ _ _)
      | (with_reducible exact ih4 _ _ _ _ _ _ _ _)
      | (with_reducible exact ih5 _ _ _ _ _)
      | (with_reducible exact spinetref04_two.mono _ _ _ _ _ _)
      | (with_reducible exact LeO.refl _)
      | (with_reducible exact LeO.none _)
      | (with_reducible refine LeO.ite ?_ ?_)
      | (with_reducible refine LeO.bind ?_ (fun _ => ?_))
      | exact ih0 _ _ _ _ _
      | exact ih1 _ _ _ _ _ _ _
      | exact ih2 _ _ _ _ _ _ _ _ _ _
      | exact ih3 _ _ _ _ _ _ _ _ _
      | exact ih4 _ _ _ _ _ _ _ _
      | exact ih5 _ _ _ _ _
      | exact spinetref04_two.mono _ _ _ _ _ _
      | exact LeO.none _
      | refine LeO.ite ?_ ?_
      | refine LeO.bind ?_ (fun _ => ?_)
    · intro y0 y1 y2 y3 y4
      unfold spinetref04_End.j4
      repeat' first
      | (with_reducible exact ih0 _ _ _ _ _)
      | (with_reducible exact ih1 _ _ _ _ _ _ _)
      | (with_reducible exact ih2 _ _ _ _ _ _ _ _ _ _)
      | (with_reducible exact ih3 _ _ _ _ _ _ _ _ _)
      | (with_reducible exact ih4 _ _ _ _ _ _ _ _)
      | (with_reducible exact ih5 _ _ _ _ _)
      | (with_reducible exact spinetref04_two.mono _ _ _ _ _ _)
      | (with_reducible exact LeO.refl _)
      | (with_reducible exact LeO.none _)
      | (with_reducible refine LeO.ite ?_ ?_)
      | (with_reducible refine LeO.bind ?_ (fun _ => ?_))
      | exact ih0 _ _ _ _ _
      | exact ih1 _ _ _ _ _ _ _
      | exact ih2 _ _ _ _ _ _ _ _ _ _
      | exact ih3 _ _ _ _ _ _ _ _ _
      | exact ih4 _ _ _ _ _ _ _ _
      | exact ih5 _ _ _ _ _
      | exact spinetref04_two.mono _ _ _ _ _ _
      | exact LeO.none _
      | refine LeO.ite ?_ ?_
      | refine LeO.bind ?_ (fun _ => ?_)
theorem spinetref04_End.mono : ∀ a0 a1 a2 a3 a4 k, LeO (spinetref04_End.f k a0 a1 a2 a3 a4) (spinetref04_End.f (k + 1) a0 a1 a2 a3 a4) := by
  intro a0 a1 a2 a3 a4 k
  obtain ⟨ih0, ih1, ih2, ih3, ih4, ih5⟩ := spinetref04_End.mono_l k
  exact ih0 a0 a1 a2 a3 a4
set_option maxHeartbeats 8000000 in
set_option maxRecDepth 100000 in
theorem spinetref04_End.calls (k : Nat) : ∀ (A0 : Option Addr) (c0 : Nat) (l0 : List (S40)) (a1 : Int) (A2 : Option Addr) (c2 : Nat) (l2 : List Int) (a3 : Int) (a4 : Bool) (r1 : Int) (r2 : Int) (r3 : Int) (r4 : Int) (w : World) (hr0 : Kd.C k40 w A0 l0.length l0) (hc0 : l0.length ≤ c0) (hr2 : Kd.C (Kd.int .i64) w A2 l2.length l2) (hc2 : l2.length ≤ c2) (h : spinetref04_End.f k l0 a1 l2 a3 a4 = some (r1, r2, r3, r4)),
    Calls Tryd.prog 58 #[.slice A0 l0.length c0, .int .i64 a1, .slice A2 l2.length c2, .int .i64 a3, .bool a4] w fun e w' => e = .returned (.tuple #[.agg #[.int .i64 r1, .int .i64 r2, .int .i64 r3], .int .i64 r4]) ∧ Below w.heap.size w w' := by
  induction k using Nat.strongRecOn with
  | _ k ih =>
  intro A0 c0 l0 a1 A2 c2 l2 a3 a4 r1 r2 r3 r4 w hr0 hc0 hr2 hc2 h
  cases k with
  | zero => exact absurd h (by simp [spinetref04_End.f])
  | succ k =>
  simp only [spinetref04_End.f] at h
  have hu101 := Tryd.underlying101
  have hu40 := Tryd.underlying40
  have hu54 := Tryd.underlying54
  have HR0 := Aside0.mk hr0
  have HC0 := Aside0.mk hc0
  clear hr0 hc0
  have HR2 := Aside0.mk hr2
  have HC2 := Aside0.mk hc2
  clear hr2 hc2
  have HB := Aside0.mk (Below.refl w.heap.size w)
  have H : (if 0 ≤ a1 then (if a1 < (l0.length : Int) then (if ((rd_T40 l0 a1).f0) = 1 then ((spinetref04_whole.f ((rd_T40 l0 a1).f1)).bind fun bt239 => (some (bt239.1, bt239.2.1, bt239.2.2, a1))) else (if ((rd_T40 l0 a1).f0) = 2 then (if a4 = true then (spinetref04_End.j0 k a1 l2 a4 (decide (((rd_T40 l0 a1).f1) < a3)) ((rd_T40 l0 a1).f0) ((rd_T40 l0 a1).f1) ((rd_T40 l0 a1).f2)) else (spinetref04_End.j0 k a1 l2 a4 false ((rd_T40 l0 a1).f0) ((rd_T40 l0 a1).f1) ((rd_T40 l0 a1).f2))) else (if ((rd_T40 l0 a1).f0) = 15 then (spinetref04_End.j1 k l0 a1 l2 a3 a4 ((rd_T40 l0 a1).f0) (((rd_T40 l0 a1).f0) == 15) ((rd_T40 l0 a1).f0) ((rd_T40 l0 a1).f1) ((rd_T40 l0 a1).f2)) else (spinetref04_End.j1 k l0 a1 l2 a3 a4 ((rd_T40 l0 a1).f0) (((rd_T40 l0 a1).f0) == 16) ((rd_T40 l0 a1).f0) ((rd_T40 l0 a1).f1) ((rd_T40 l0 a1).f2))))) else (none)) else (none)) = some (r1, r2, r3, r4) := h
  clear h
  by_cases c6 : 0 ≤ a1
  · rw [if_pos c6] at H
    have c6b0 : decide (0 ≤ a1) = true := decide_eq_true c6
    clear c6
    by_cases c7 : a1 < (l0.length : Int)
    · rw [if_pos c7] at H
      have c7b0 : decide (a1 < (l0.length : Int)) = true := decide_eq_true c7
      clear c7
      by_cases c8 : ((rd_T40 l0 a1).f0) = 1
      · rw [if_pos c8] at H
        have c8b0 : (((rd_T40 l0 a1).f0) == 1) = true := beq_iff_eq.mpr c8
        have c8b1 : (((rd_T40 l0 a1).f0) != 1) = false := bne_eq_false_iff_eq.mpr c8
        clear c8
        replace H := Option.bind_eq_some_iff.mp H
        obtain ⟨⟨t239, t240, t241⟩, A90, H⟩ := H
        replace H : (some (t239, t240, t241, a1)) = some (r1, r2, r3, r4) := H
        have A9 := Aside0.mk A90
        clear A90
        simp only [Option.some.injEq, Prod.mk.injEq] at H
        obtain ⟨rfl, rfl, rfl, rfl⟩ := H
        go_enter Tryd.func58, Tryd.ntmps58
        go_wp2_with (first | ((with_reducible refine gate_dst (N := 10) rfl ?_); (try (refine gate_guard (by rfl) ?_; dsimp only)); refine box_event ?hg (N := 10) ?hd (cs := #[.int .i64 0, .int .i64 0, .int .i64 0]) (t := 101) ?hr ?_; (case hd => rfl); (case hg => rfl); (case hr => first | (go_simp; done) | (go_simp; rfl)); intro gb236 hg w10 hbox hb; have n0_ := Aside0.mk (below_step (by repeat (first | (with_reducible first | exact HB.out | apply below_alloc | apply pw_below_drewN | apply below_drew1) | exact HB.out)) hb); have n1_ := Aside0.mk (hbox); have n2_ := Aside0.mk ((by rw [hg]; exact (below_size (by repeat (first | (with_reducible first | exact HB.out | apply below_alloc | apply pw_below_drewN | apply below_drew1) | exact HB.out))) : w.heap.size ≤ gb236)); have n3_ := Aside0.mk ((by rw [hg]; exact (below_size (by repeat (first | (with_reducible first | exact HB.out | apply below_alloc | apply pw_below_drewN | apply below_drew1) | exact HB.out))) : w.heap.size ≤ gb236)); clear HB; have HB := n0_; have BK236 := n1_; have GW236 := n2_; have GE236 := n3_; clear n0_ n1_ n2_ n3_; clear hb hbox hg; have p237 : 0 ≤ (a1 : Int) := of_decide_eq_true (by first | (with_reducible assumption) | assumption); have q237 : a1 < (l0.length : Int) := of_decide_eq_true (by first | (with_reducible assumption) | assumption); obtain ⟨ad237, e237, hx237_0, hx237_1, hx237_2⟩ := at_T40 HR0.out a1 p237 q237; cases e237; replace hx237_0 := (HB.out.cell (World.block_lt_of_cell? w _ hx237_0)).trans hx237_0; replace hx237_1 := (HB.out.cell (World.block_lt_of_cell? w _ hx237_1)).trans hx237_1; replace hx237_2 := (HB.out.cell (World.block_lt_of_cell? w _ hx237_2)).trans hx237_2; replace p237 := eq_true p237; replace q237 := eq_true q237) | ((with_reducible refine gate_dst (N := 12) rfl ?_); (try (refine gate_guard (by rfl) ?_; dsimp only)); refine box_event ?hg (N := 12) ?hd (cs := #[.int .i64 0, .int .i64 0, .int .i64 0]) (t := 40) ?hr ?_; (case hd => rfl); (case hg => rfl); (case hr => first | (go_simp; done) | (go_simp; rfl)); intro gb238 hg w11 hbox hb; have n0_ := Aside0.mk (blk_below (g := gb236) (o := .cells #[.int .i64 0, .int .i64 0, .int .i64 0] 101 (0, 0)) (by (with_reducible repeat (first | refine blk_drewN ?_ _ | refine blk_drew ?_ | refine blk_alloc ?_ _)); exact BK236.out) hb); have n1_ := Aside0.mk (below_step (by repeat (first | (with_reducible first | exact HB.out | apply below_alloc | apply pw_below_drewN | apply below_drew1 | refine below_set ?_ GE236.out) | exact HB.out)) hb); have n2_ := Aside0.mk (hbox); have n3_ := Aside0.mk ((by rw [hg]; exact (below_size (by repeat (first | (with_reducible first | exact HB.out | apply below_alloc | apply pw_below_drewN | apply below_drew1 | refine below_set ?_ GE236.out) | exact HB.out))) : w.heap.size ≤ gb238)); have n4_ := Aside0.mk ((by rw [hg]; exact (below_size (by repeat (first | (with_reducible first | exact HB.out | apply below_alloc | apply pw_below_drewN | apply below_drew1 | refine below_set ?_ GE236.out) | exact HB.out))) : w.heap.size ≤ gb238)); have n5_ := Aside0.mk ((by rw [hg]; exact Nat.ne_of_lt (blk_lt (g := gb236) (o := .cells #[.int .i64 0, .int .i64 0, .int .i64 0] 101 (0, 0)) (by (with_reducible repeat (first | refine blk_drewN ?_ _ | refine blk_drew ?_ | refine blk_alloc ?_ _)); exact BK236.out)) : gb236 ≠ gb238)); have n6_ := Aside0.mk ((by rw [hg]; exact Nat.ne_of_gt (blk_lt (g := gb236) (o := .cells #[.int .i64 0, .int .i64 0, .int .i64 0] 101 (0, 0)) (by (with_reducible repeat (first | refine blk_drewN ?_ _ | refine blk_drew ?_ | refine blk_alloc ?_ _)); exact BK236.out)) : gb238 ≠ gb236)); clear BK236; clear HB; have BK236 := n0_; have HB := n1_; have BK238 := n2_; have GW238 := n3_; have GE238 := n4_; have NB236_238 := n5_; have NB238_236 := n6_; clear n0_ n1_ n2_ n3_ n4_ n5_ n6_; clear hb hbox hg; have hnb12 := NB238_236.out; have hnc12 := NB236_238.out; have hcz13_0 : w11.cell? ⟨gb238, 0, none⟩ = some (.int .i64 0) := (blk_cell BK238.out 0).trans rfl; have hcz13_1 : w11.cell? ⟨gb238, 1, none⟩ = some (.int .i64 0) := (blk_cell BK238.out 1).trans rfl; have hcz13_2 : w11.cell? ⟨gb238, 2, none⟩ = some (.int .i64 0) := (blk_cell BK238.out 2).trans rfl; have hfz13_0 := blk_frozen BK238.out 0; have hfz13_1 := blk_frozen BK238.out 1; have hfz13_2 := blk_frozen BK238.out 2) | ((with_reducible refine gate_callee (f := 89) rfl ?_); refine goesL_ (some 30) rfl rfl Tryd.func89 (by kernel_rfl) rfl #[.int .i64 ((rd_T40 l0 a1).f1)] rfl (by (try simp only [List.map_toArray, List.map_cons, List.map_nil]); first | done | rfl | (simp only [List.length_drop, List.length_take]; rfl)) ?_; (with_reducible refine (spinetref04_whole.calls ((rd_T40 l0 a1).f1) t239 t240 t241 _ A9.out).mono ?_); rintro e w14 ⟨rfl, hb⟩; refine ⟨_, rfl, ?_⟩; have n0_ := Aside0.mk (blk_below (g := gb236) (o := .cells #[.int .i64 0, .int .i64 0, .int .i64 0] 101 (0, 0)) (by (with_reducible repeat (first | refine blk_drewN ?_ _ | refine blk_drew ?_ | refine blk_alloc ?_ _)); refine blk_far ?_ NB236_238.out _; (with_reducible repeat (first | refine blk_drewN ?_ _ | refine blk_drew ?_ | refine blk_alloc ?_ _)); refine blk_far ?_ NB236_238.out _; (with_reducible repeat (first | refine blk_drewN ?_ _ | refine blk_drew ?_ | refine blk_alloc ?_ _)); refine blk_far ?_ NB236_238.out _; (with_reducible repeat (first | refine blk_drewN ?_ _ | refine blk_drew ?_ | refine blk_alloc ?_ _)); exact BK236.out) hb); have n1_ := Aside0.mk (blk_below (g := gb238) (o := .cells #[.int .i64 ((rd_T40 l0 a1).f0), .int .i64 ((rd_T40 l0 a1).f1), .int .i64 ((rd_T40 l0 a1).f2)] 40 (0, 0)) (by (with_reducible repeat (first | refine blk_drewN ?_ _ | refine blk_drew ?_ | refine blk_alloc ?_ _)); refine blk_put (cs := #[.int .i64 ((rd_T40 l0 a1).f0), .int .i64 ((rd_T40 l0 a1).f1), .int .i64 0]) ?_ 2 _ rfl; (with_reducible repeat (first | refine blk_drewN ?_ _ | refine blk_drew ?_ | refine blk_alloc ?_ _)); refine blk_put (cs := #[.int .i64 ((rd_T40 l0 a1).f0), .int .i64 0, .int .i64 0]) ?_ 1 _ rfl; (with_reducible repeat (first | refine blk_drewN ?_ _ | refine blk_drew ?_ | refine blk_alloc ?_ _)); refine blk_put (cs := #[.int .i64 0, .int .i64 0, .int .i64 0]) ?_ 0 _ rfl; (with_reducible repeat (first | refine blk_drewN ?_ _ | refine blk_drew ?_ | refine blk_alloc ?_ _)); exact BK238.out) hb); have n2_ := Aside0.mk (below_step (by repeat (first | (with_reducible first | exact HB.out | apply below_alloc | apply pw_below_drewN | apply below_drew1 | refine below_set ?_ GE236.out | refine below_set ?_ GE238.out) | exact HB.out)) hb); clear BK236; clear BK238; clear HB; have BK236 := n0_; have BK238 := n1_; have HB := n2_; clear n0_ n1_ n2_; (try clear hb); (try clear hb2); (try clear hk); (try clear hi); have hcz15_0 : w14.cell? ⟨gb236, 0, none⟩ = some (.int .i64 0) := (blk_cell BK236.out 0).trans rfl; have hcz15_1 : w14.cell? ⟨gb236, 1, none⟩ = some (.int .i64 0) := (blk_cell BK236.out 1).trans rfl; have hcz15_2 : w14.cell? ⟨gb236, 2, none⟩ = some (.int .i64 0) := (blk_cell BK236.out 2).trans rfl; have hfz15_0 := blk_frozen BK236.out 0; have hfz15_1 := blk_frozen BK236.out 1; have hfz15_2 := blk_frozen BK236.out 2))
        refine bodyPost_ret (results_ct rfl _ _ gb236 101 #[.int .i64 t239, .int .i64 t240, .int .i64 t241] (0, 0) _ rfl (by (with_reducible repeat (first | refine blk_drewN ?_ _ | refine blk_drew ?_ | refine blk_alloc ?_ _)); refine blk_put (cs := #[.int .i64 t239, .int .i64 t240, .int .i64 0]) ?_ 2 _ rfl; (with_reducible repeat (first | refine blk_drewN ?_ _ | refine blk_drew ?_ | refine blk_alloc ?_ _)); refine blk_put (cs := #[.int .i64 t239, .int .i64 0, .int .i64 0]) ?_ 1 _ rfl; (with_reducible repeat (first | refine blk_drewN ?_ _ | refine blk_drew ?_ | refine blk_alloc ?_ _)); refine blk_put (cs := #[.int .i64 0, .int .i64 0, .int .i64 0]) ?_ 0 _ rfl; (with_reducible repeat (first | refine blk_drewN ?_ _ | refine blk_drew ?_ | refine blk_alloc ?_ _)); exact BK236.out) Tryd.underlying101 rfl (by kernel_rfl)) rfl ?_
        exact ⟨by first | rfl | (simp [errW_none, errW_some] <;> rfl) | (simp [*, errW_none, errW_some] <;> rfl), by repeat (first | (with_reducible first | exact HB.out | apply below_alloc | apply pw_below_drewN | apply below_drew1 | refine below_set ?_ GE236.out | refine below_set ?_ GE238.out) | exact HB.out)⟩
      · rw [if_neg c8] at H
        have c8b0 : (((rd_T40 l0 a1).f0) == 1) = false := beq_eq_false_iff_ne.mpr c8
        have c8b1 : (((rd_T40 l0 a1).f0) != 1) = true := bne_iff_ne.mpr c8
        by_cases c16 : ((rd_T40 l0 a1).f0) = 2
        · rw [if_pos c16] at H
          have c16b0 : (((rd_T40 l0 a1).f0) == 2) = true := beq_iff_eq.mpr c16
          have c16b1 : (((rd_T40 l0 a1).f0) != 2) = false := bne_eq_false_iff_eq.mpr c16
          clear c16
          have HC17 := Aside0.mk H
          clear H
          go_enter Tryd.func58, Tryd.ntmps58
          go_upto_region 6 with (first | ((with_reducible refine gate_dst (N := 10) rfl ?_); (try (refine gate_guard (by rfl) ?_; dsimp only)); refine box_event ?hg (N := 10) ?hd (cs := #[.int .i64 0, .int .i64 0, .int .i64 0]) (t := 101) ?hr ?_; (case hd => rfl); (case hg => rfl); (case hr => first | (go_simp; done) | (go_simp; rfl)); intro gb236 hg w18 hbox hb; have n0_ := Aside0.mk (below_step (by repeat (first | (with_reducible first | exact HB.out | apply below_alloc | apply pw_below_drewN | apply below_drew1) | exact HB.out)) hb); have n1_ := Aside0.mk (hbox); have n2_ := Aside0.mk ((by rw [hg]; exact (below_size (by repeat (first | (with_reducible first | exact HB.out | apply below_alloc | apply pw_below_drewN | apply below_drew1) | exact HB.out))) : w.heap.size ≤ gb236)); have n3_ := Aside0.mk ((by rw [hg]; exact (below_size (by repeat (first | (with_reducible first | exact HB.out | apply below_alloc | apply pw_below_drewN | apply below_drew1) | exact HB.out))) : w.heap.size ≤ gb236)); clear HB; have HB := n0_; have BK236 := n1_; have GW236 := n2_; have GE236 := n3_; clear n0_ n1_ n2_ n3_; clear hb hbox hg; have p237 : 0 ≤ (a1 : Int) := of_decide_eq_true (by first | (with_reducible assumption) | assumption); have q237 : a1 < (l0.length : Int) := of_decide_eq_true (by first | (with_reducible assumption) | assumption); obtain ⟨ad237, e237, hx237_0, hx237_1, hx237_2⟩ := at_T40 HR0.out a1 p237 q237; cases e237; replace hx237_0 := (HB.out.cell (World.block_lt_of_cell? w _ hx237_0)).trans hx237_0; replace hx237_1 := (HB.out.cell (World.block_lt_of_cell? w _ hx237_1)).trans hx237_1; replace hx237_2 := (HB.out.cell (World.block_lt_of_cell? w _ hx237_2)).trans hx237_2; replace p237 := eq_true p237; replace q237 := eq_true q237) | ((with_reducible refine gate_dst (N := 12) rfl ?_); (try (refine gate_guard (by rfl) ?_; dsimp only)); refine box_event ?hg (N := 12) ?hd (cs := #[.int .i64 0, .int .i64 0, .int .i64 0]) (t := 40) ?hr ?_; (case hd => rfl); (case hg => rfl); (case hr => first | (go_simp; done) | (go_simp; rfl)); intro gb238 hg w19 hbox hb; have n0_ := Aside0.mk (blk_below (g := gb236) (o := .cells #[.int .i64 0, .int .i64 0, .int .i64 0] 101 (0, 0)) (by (with_reducible repeat (first | refine blk_drewN ?_ _ | refine blk_drew ?_ | refine blk_alloc ?_ _)); exact BK236.out) hb); have n1_ := Aside0.mk (below_step (by repeat (first | (with_reducible first | exact HB.out | apply below_alloc | apply pw_below_drewN | apply below_drew1 | refine below_set ?_ GE236.out) | exact HB.out)) hb); have n2_ := Aside0.mk (hbox); have n3_ := Aside0.mk ((by rw [hg]; exact (below_size (by repeat (first | (with_reducible first | exact HB.out | apply below_alloc | apply pw_below_drewN | apply below_drew1 | refine below_set ?_ GE236.out) | exact HB.out))) : w.heap.size ≤ gb238)); have n4_ := Aside0.mk ((by rw [hg]; exact (below_size (by repeat (first | (with_reducible first | exact HB.out | apply below_alloc | apply pw_below_drewN | apply below_drew1 | refine below_set ?_ GE236.out) | exact HB.out))) : w.heap.size ≤ gb238)); have n5_ := Aside0.mk ((by rw [hg]; exact Nat.ne_of_lt (blk_lt (g := gb236) (o := .cells #[.int .i64 0, .int .i64 0, .int .i64 0] 101 (0, 0)) (by (with_reducible repeat (first | refine blk_drewN ?_ _ | refine blk_drew ?_ | refine blk_alloc ?_ _)); exact BK236.out)) : gb236 ≠ gb238)); have n6_ := Aside0.mk ((by rw [hg]; exact Nat.ne_of_gt (blk_lt (g := gb236) (o := .cells #[.int .i64 0, .int .i64 0, .int .i64 0] 101 (0, 0)) (by (with_reducible repeat (first | refine blk_drewN ?_ _ | refine blk_drew ?_ | refine blk_alloc ?_ _)); exact BK236.out)) : gb238 ≠ gb236)); clear BK236; clear HB; have BK236 := n0_; have HB := n1_; have BK238 := n2_; have GW238 := n3_; have GE238 := n4_; have NB236_238 := n5_; have NB238_236 := n6_; clear n0_ n1_ n2_ n3_ n4_ n5_ n6_; clear hb hbox hg; have hnb20 := NB238_236.out; have hnc20 := NB236_238.out; have hcz21_0 : w19.cell? ⟨gb238, 0, none⟩ = some (.int .i64 0) := (blk_cell BK238.out 0).trans rfl; have hcz21_1 : w19.cell? ⟨gb238, 1, none⟩ = some (.int .i64 0) := (blk_cell BK238.out 1).trans rfl; have hcz21_2 : w19.cell? ⟨gb238, 2, none⟩ = some (.int .i64 0) := (blk_cell BK238.out 2).trans rfl; have hfz21_0 := blk_frozen BK238.out 0; have hfz21_1 := blk_frozen BK238.out 1; have hfz21_2 := blk_frozen BK238.out 2))
          (try simp only [Act.put, List.setIfInBounds_toArray, List.set_cons_zero, List.set_cons_succ])
          go_cut [40] (fun v40 wc => ∃ (kq : Nat) (x40_16 : Bool), v40 = .bool x40_16 ∧ Aside0 (spinetref04_End.j0 kq a1 l2 a4 x40_16 ((rd_T40 l0 a1).f0) ((rd_T40 l0 a1).f1) ((rd_T40 l0 a1).f2) = some (r1, r2, r3, r4)) ∧ Aside0 (kq ≤ k) ∧ Aside0 (wc.heap[gb236]? = some (.cells #[.int .i64 0, .int .i64 0, .int .i64 0] 101 (0, 0))) ∧ Aside0 (wc.heap[gb238]? = some (.cells #[.int .i64 ((rd_T40 l0 a1).f0), .int .i64 ((rd_T40 l0 a1).f1), .int .i64 ((rd_T40 l0 a1).f2)] 40 (0, 0))) ∧ Aside0 (Below w.heap.size w wc))
          case first =>
            have H := HC17.out
            clear HC17
            by_cases c22 : a4 = true
            · subst c22
              have H1 : (spinetref04_End.j0 k a1 l2 true (decide (((rd_T40 l0 a1).f1) < a3)) ((rd_T40 l0 a1).f0) ((rd_T40 l0 a1).f1) ((rd_T40 l0 a1).f2)) = some (r1, r2, r3, r4) := by rw [if_pos rfl] at H; exact H
              clear H
              have H := H1
              clear H1
              have H' := Aside0.mk H
              clear H
              have hnb23 := NB238_236.out
              have hnc23 := NB236_238.out
              have hcz24_0 : w19.cell? ⟨gb238, 0, none⟩ = some (.int .i64 0) := (blk_cell BK238.out 0).trans rfl
              have hcz24_1 : w19.cell? ⟨gb238, 1, none⟩ = some (.int .i64 0) := (blk_cell BK238.out 1).trans rfl
              have hcz24_2 : w19.cell? ⟨gb238, 2, none⟩ = some (.int .i64 0) := (blk_cell BK238.out 2).trans rfl
              have hfz24_0 := blk_frozen BK238.out 0
              have hfz24_1 := blk_frozen BK238.out 1
              have hfz24_2 := blk_frozen BK238.out 2
              go_wp2
              go_meet
              case rel => exact ⟨_, (decide (((rd_T40 l0 a1).f1) < a3)), (by first | rfl | (simp; done) | (simp [*]; done)), H', ⟨by first | omega | exact Nat.le_refl _⟩, ⟨by (with_reducible repeat (first | refine blk_drewN ?_ _ | refine blk_drew ?_ | refine blk_alloc ?_ _)); refine blk_far ?_ NB236_238.out _; (with_reducible repeat (first | refine blk_drewN ?_ _ | refine blk_drew ?_ | refine blk_alloc ?_ _)); refine blk_far ?_ NB236_238.out _; (with_reducible repeat (first | refine blk_drewN ?_ _ | refine blk_drew ?_ | refine blk_alloc ?_ _)); refine blk_far ?_ NB236_238.out _; (with_reducible repeat (first | refine blk_drewN ?_ _ | refine blk_drew ?_ | refine blk_alloc ?_ _)); exact BK236.out⟩, ⟨by (with_reducible repeat (first | refine blk_drewN ?_ _ | refine blk_drew ?_ | refine blk_alloc ?_ _)); refine blk_put (cs := #[.int .i64 ((rd_T40 l0 a1).f0), .int .i64 ((rd_T40 l0 a1).f1), .int .i64 0]) ?_ 2 _ rfl; (with_reducible repeat (first | refine blk_drewN ?_ _ | refine blk_drew ?_ | refine blk_alloc ?_ _)); refine blk_put (cs := #[.int .i64 ((rd_T40 l0 a1).f0), .int .i64 0, .int .i64 0]) ?_ 1 _ rfl; (with_reducible repeat (first | refine blk_drewN ?_ _ | refine blk_drew ?_ | refine blk_alloc ?_ _)); refine blk_put (cs := #[.int .i64 0, .int .i64 0, .int .i64 0]) ?_ 0 _ rfl; (with_reducible repeat (first | refine blk_drewN ?_ _ | refine blk_drew ?_ | refine blk_alloc ?_ _)); exact BK238.out⟩, ⟨by repeat (first | (with_reducible first | exact HB.out | apply below_alloc | apply pw_below_drewN | apply below_drew1 | refine below_set ?_ GE236.out | refine below_set ?_ GE238.out) | exact HB.out)⟩⟩
            · replace c22 := Bool.eq_false_iff.mpr c22
              subst c22
              have H1 : (spinetref04_End.j0 k a1 l2 false false ((rd_T40 l0 a1).f0) ((rd_T40 l0 a1).f1) ((rd_T40 l0 a1).f2)) = some (r1, r2, r3, r4) := by rw [if_neg (show ¬ (false = true) by decide)] at H; exact H
              clear H
              have H := H1
              clear H1
              have H' := Aside0.mk H
              clear H
              go_wp2
              go_meet
              case rel => exact ⟨_, (false), (by first | rfl | (simp; done) | (simp [*]; done)), H', ⟨by first | omega | exact Nat.le_refl _⟩, ⟨by (with_reducible repeat (first | refine blk_drewN ?_ _ | refine blk_drew ?_ | refine blk_alloc ?_ _)); refine blk_far ?_ NB236_238.out _; (with_reducible repeat (first | refine blk_drewN ?_ _ | refine blk_drew ?_ | refine blk_alloc ?_ _)); refine blk_far ?_ NB236_238.out _; (with_reducible repeat (first | refine blk_drewN ?_ _ | refine blk_drew ?_ | refine blk_alloc ?_ _)); refine blk_far ?_ NB236_238.out _; (with_reducible repeat (first | refine blk_drewN ?_ _ | refine blk_drew ?_ | refine blk_alloc ?_ _)); exact BK236.out⟩, ⟨by (with_reducible repeat (first | refine blk_drewN ?_ _ | refine blk_drew ?_ | refine blk_alloc ?_ _)); refine blk_put (cs := #[.int .i64 ((rd_T40 l0 a1).f0), .int .i64 ((rd_T40 l0 a1).f1), .int .i64 0]) ?_ 2 _ rfl; (with_reducible repeat (first | refine blk_drewN ?_ _ | refine blk_drew ?_ | refine blk_alloc ?_ _)); refine blk_put (cs := #[.int .i64 ((rd_T40 l0 a1).f0), .int .i64 0, .int .i64 0]) ?_ 1 _ rfl; (with_reducible repeat (first | refine blk_drewN ?_ _ | refine blk_drew ?_ | refine blk_alloc ?_ _)); refine blk_put (cs := #[.int .i64 0, .int .i64 0, .int .i64 0]) ?_ 0 _ rfl; (with_reducible repeat (first | refine blk_drewN ?_ _ | refine blk_drew ?_ | refine blk_alloc ?_ _)); exact BK238.out⟩, ⟨by repeat (first | (with_reducible first | exact HB.out | apply below_alloc | apply pw_below_drewN | apply below_drew1 | refine below_set ?_ GE236.out | refine below_set ?_ GE238.out) | exact HB.out)⟩⟩
          case rest =>
            clear HC17
            try clear c1
            try clear c2
            try clear p2
            try clear q2
            try clear hx2
            try clear c5
            try clear c6
            try clear c6b0
            try clear c7
            try clear c7b0
            try clear c8
            try clear c8b0
            try clear c8b1
            try clear c12
            try clear c16
            try clear c16b0
            try clear c16b1
            try clear c20
            try clear c22
            try clear c23
            try clear p23
            try clear q23
            try clear hx23
            try clear hcz13_0
            try clear hcz13_1
            try clear hcz13_2
            try clear hcz15_0
            try clear hcz15_1
            try clear hcz15_2
            try clear hcz21_0
            try clear hcz21_1
            try clear hcz21_2
            try clear hcz24_0
            try clear hcz24_1
            try clear hcz24_2
            try clear hfz13_0
            try clear hfz13_1
            try clear hfz13_2
            try clear hfz15_0
            try clear hfz15_1
            try clear hfz15_2
            try clear hfz21_0
            try clear hfz21_1
            try clear hfz21_2
            try clear hfz24_0
            try clear hfz24_1
            try clear hfz24_2
            try clear hx237_0
            try clear hx237_1
            try clear hx237_2
            try clear p237
            try clear q237
            obtain ⟨kq, x40_16, rfl, HA, HJ16, BK236, BK238, HB⟩ := hcut
            cases kq with
            | zero => exact absurd HA.out (by simp [spinetref04_End.j0])
            | succ kj16 =>
              have H := HA.out
              clear HA
              simp only [spinetref04_End.j0] at H
              by_cases c25 : x40_16 = true
              · subst c25
                have H1 : ((spinetref04_whole.f 0).bind fun bt242 => (some (bt242.1, bt242.2.1, bt242.2.2, a1))) = some (r1, r2, r3, r4) := by rw [if_pos rfl] at H; exact H
                clear H
                have H := H1
                clear H1
                replace H := Option.bind_eq_some_iff.mp H
                obtain ⟨⟨t242, t243, t244⟩, A260, H⟩ := H
                replace H : (some (t242, t243, t244, a1)) = some (r1, r2, r3, r4) := H
                have A26 := Aside0.mk A260
                clear A260
                simp only [Option.some.injEq, Prod.mk.injEq] at H
                obtain ⟨rfl, rfl, rfl, rfl⟩ := H
                go_wp2_with (first | ((with_reducible refine gate_callee (f := 89) rfl ?_); refine goesL_ (some 41) rfl rfl Tryd.func89 (by kernel_rfl) rfl #[.int .i64 0] rfl (by (try simp only [List.map_toArray, List.map_cons, List.map_nil]); first | done | rfl | (simp only [List.length_drop, List.length_take]; rfl)) ?_; (with_reducible refine (spinetref04_whole.calls 0 t242 t243 t244 _ A26.out).mono ?_); rintro e w27 ⟨rfl, hb⟩; refine ⟨_, rfl, ?_⟩; have n0_ := Aside0.mk (blk_below (g := gb236) (o := .cells #[.int .i64 0, .int .i64 0, .int .i64 0] 101 (0, 0)) (by (with_reducible repeat (first | refine blk_drewN ?_ _ | refine blk_drew ?_ | refine blk_alloc ?_ _)); exact BK236.out) hb); have n1_ := Aside0.mk (blk_below (g := gb238) (o := .cells #[.int .i64 ((rd_T40 l0 a1).f0), .int .i64 ((rd_T40 l0 a1).f1), .int .i64 ((rd_T40 l0 a1).f2)] 40 (0, 0)) (by (with_reducible repeat (first | refine blk_drewN ?_ _ | refine blk_drew ?_ | refine blk_alloc ?_ _)); exact BK238.out) hb); have n2_ := Aside0.mk (below_step (by repeat (first | (with_reducible first | exact HB.out | apply below_alloc | apply pw_below_drewN | apply below_drew1 | refine below_set ?_ GE236.out | refine below_set ?_ GE238.out) | exact HB.out)) hb); clear BK236; clear BK238; clear HB; have BK236 := n0_; have BK238 := n1_; have HB := n2_; clear n0_ n1_ n2_; (try clear hb); (try clear hb2); (try clear hk); (try clear hi); have hnb28 := NB236_238.out; have hnc28 := NB238_236.out; have hcz29_0 : w27.cell? ⟨gb236, 0, none⟩ = some (.int .i64 0) := (blk_cell BK236.out 0).trans rfl; have hcz29_1 : w27.cell? ⟨gb236, 1, none⟩ = some (.int .i64 0) := (blk_cell BK236.out 1).trans rfl; have hcz29_2 : w27.cell? ⟨gb236, 2, none⟩ = some (.int .i64 0) := (blk_cell BK236.out 2).trans rfl; have hfz29_0 := blk_frozen BK236.out 0; have hfz29_1 := blk_frozen BK236.out 1; have hfz29_2 := blk_frozen BK236.out 2))
                refine bodyPost_ret (results_ct rfl _ _ gb236 101 #[.int .i64 t242, .int .i64 t243, .int .i64 t244] (0, 0) _ rfl (by (with_reducible repeat (first | refine blk_drewN ?_ _ | refine blk_drew ?_ | refine blk_alloc ?_ _)); refine blk_put (cs := #[.int .i64 t242, .int .i64 t243, .int .i64 0]) ?_ 2 _ rfl; (with_reducible repeat (first | refine blk_drewN ?_ _ | refine blk_drew ?_ | refine blk_alloc ?_ _)); refine blk_put (cs := #[.int .i64 t242, .int .i64 0, .int .i64 0]) ?_ 1 _ rfl; (with_reducible repeat (first | refine blk_drewN ?_ _ | refine blk_drew ?_ | refine blk_alloc ?_ _)); refine blk_put (cs := #[.int .i64 0, .int .i64 0, .int .i64 0]) ?_ 0 _ rfl; (with_reducible repeat (first | refine blk_drewN ?_ _ | refine blk_drew ?_ | refine blk_alloc ?_ _)); exact BK236.out) Tryd.underlying101 rfl (by kernel_rfl)) rfl ?_
                exact ⟨by first | rfl | (simp [errW_none, errW_some] <;> rfl) | (simp [*, errW_none, errW_some] <;> rfl), by repeat (first | (with_reducible first | exact HB.out | apply below_alloc | apply pw_below_drewN | apply below_drew1 | refine below_set ?_ GE236.out | refine below_set ?_ GE238.out) | exact HB.out)⟩
              · replace c25 := Bool.eq_false_iff.mpr c25
                subst c25
                have H1 : (if a4 = true then (some (0, 0, 4, a1)) else (if ((rd_T40 l0 a1).f1) < (l2.length : Int) then (if 0 ≤ ((rd_T40 l0 a1).f1) then ((spinetref04_whole.f (rd l2 ((rd_T40 l0 a1).f1))).bind fun bt246 => (some (bt246.1, bt246.2.1, bt246.2.2, a1))) else (none)) else (some (0, 0, 4, a1)))) = some (r1, r2, r3, r4) := by rw [if_neg (show ¬ (false = true) by decide)] at H; exact H
                clear H
                have H := H1
                clear H1
                by_cases c30 : a4 = true
                · subst c30
                  have H1 : (some (0, 0, 4, a1)) = some (r1, r2, r3, r4) := by rw [if_pos rfl] at H; exact H
                  clear H
                  have H := H1
                  clear H1
                  simp only [Option.some.injEq, Prod.mk.injEq] at H
                  obtain ⟨rfl, rfl, rfl, rfl⟩ := H
                  have hnb31 := NB236_238.out
                  have hnc31 := NB238_236.out
                  have hcz32_0 : wc.cell? ⟨gb236, 0, none⟩ = some (.int .i64 0) := (blk_cell BK236.out 0).trans rfl
                  have hcz32_1 : wc.cell? ⟨gb236, 1, none⟩ = some (.int .i64 0) := (blk_cell BK236.out 1).trans rfl
                  have hcz32_2 : wc.cell? ⟨gb236, 2, none⟩ = some (.int .i64 0) := (blk_cell BK236.out 2).trans rfl
                  have hfz32_0 := blk_frozen BK236.out 0
                  have hfz32_1 := blk_frozen BK236.out 1
                  have hfz32_2 := blk_frozen BK236.out 2
                  go_wp2
                  refine bodyPost_ret (results_ct rfl _ _ gb236 101 #[.int .i64 0, .int .i64 0, .int .i64 4] (0, 0) _ rfl (by (with_reducible repeat (first | refine blk_drewN ?_ _ | refine blk_drew ?_ | refine blk_alloc ?_ _)); refine blk_put (cs := #[.int .i64 0, .int .i64 0, .int .i64 0]) ?_ 2 _ rfl; (with_reducible repeat (first | refine blk_drewN ?_ _ | refine blk_drew ?_ | refine blk_alloc ?_ _)); refine blk_put (cs := #[.int .i64 0, .int .i64 0, .int .i64 0]) ?_ 1 _ rfl; (with_reducible repeat (first | refine blk_drewN ?_ _ | refine blk_drew ?_ | refine blk_alloc ?_ _)); refine blk_put (cs := #[.int .i64 0, .int .i64 0, .int .i64 0]) ?_ 0 _ rfl; (with_reducible repeat (first | refine blk_drewN ?_ _ | refine blk_drew ?_ | refine blk_alloc ?_ _)); exact BK236.out) Tryd.underlying101 rfl (by kernel_rfl)) rfl ?_
                  exact ⟨by first | rfl | (simp [errW_none, errW_some] <;> rfl) | (simp [*, errW_none, errW_some] <;> rfl), by repeat (first | (with_reducible first | exact HB.out | apply below_alloc | apply pw_below_drewN | apply below_drew1 | refine below_set ?_ GE236.out | refine below_set ?_ GE238.out) | exact HB.out)⟩
                · replace c30 := Bool.eq_false_iff.mpr c30
                  subst c30
                  have H1 : (if ((rd_T40 l0 a1).f1) < (l2.length : Int) then (if 0 ≤ ((rd_T40 l0 a1).f1) then ((spinetref04_whole.f (rd l2 ((rd_T40 l0 a1).f1))).bind fun bt246 => (some (bt246.1, bt246.2.1, bt246.2.2, a1))) else (none)) else (some (0, 0, 4, a1))) = some (r1, r2, r3, r4) := by rw [if_neg (show ¬ (false = true) by decide)] at H; exact H
                  clear H
                  have H := H1
                  clear H1
                  by_cases c33 : ((rd_T40 l0 a1).f1) < (l2.length : Int)
                  · rw [if_pos c33] at H
                    have c33b0 : decide (((rd_T40 l0 a1).f1) < (l2.length : Int)) = true := decide_eq_true c33
                    clear c33
                    by_cases c34 : 0 ≤ ((rd_T40 l0 a1).f1)
                    · rw [if_pos c34] at H
                      have c34b0 : decide (0 ≤ ((rd_T40 l0 a1).f1)) = true := decide_eq_true c34
                      clear c34
                      replace H := Option.bind_eq_some_iff.mp H
                      obtain ⟨⟨t246, t247, t248⟩, A350, H⟩ := H
                      replace H : (some (t246, t247, t248, a1)) = some (r1, r2, r3, r4) := H
                      have A35 := Aside0.mk A350
                      clear A350
                      simp only [Option.some.injEq, Prod.mk.injEq] at H
                      obtain ⟨rfl, rfl, rfl, rfl⟩ := H
                      have hnb36 := NB238_236.out
                      have hnc36 := NB236_238.out
                      have hcz37_0 : wc.cell? ⟨gb238, 0, none⟩ = some (.int .i64 ((rd_T40 l0 a1).f0)) := (blk_cell BK238.out 0).trans rfl
                      have hcz37_1 : wc.cell? ⟨gb238, 1, none⟩ = some (.int .i64 ((rd_T40 l0 a1).f1)) := (blk_cell BK238.out 1).trans rfl
                      have hcz37_2 : wc.cell? ⟨gb238, 2, none⟩ = some (.int .i64 ((rd_T40 l0 a1).f2)) := (blk_cell BK238.out 2).trans rfl
                      have hfz37_0 := blk_frozen BK238.out 0
                      have hfz37_1 := blk_frozen BK238.out 1
                      have hfz37_2 := blk_frozen BK238.out 2
                      have p245 : 0 ≤ (((rd_T40 l0 a1).f1) : Int) := of_decide_eq_true (by first | (with_reducible assumption) | assumption)
                      have q245 : ((rd_T40 l0 a1).f1) < (l2.length : Int) := of_decide_eq_true (by first | (with_reducible assumption) | assumption)
                      obtain ⟨ad245, e245, hx245_0⟩ := Kd.at_int HR2.out ((rd_T40 l0 a1).f1) p245 q245
                      cases e245
                      replace hx245_0 := (HB.out.cell (World.block_lt_of_cell? w _ hx245_0)).trans hx245_0
                      replace p245 := eq_true p245
                      replace q245 := eq_true q245
                      go_wp2_with (first | ((with_reducible refine gate_callee (f := 89) rfl ?_); refine goesL_ (some 57) rfl rfl Tryd.func89 (by kernel_rfl) rfl #[.int .i64 (rd l2 ((rd_T40 l0 a1).f1))] rfl (by (try simp only [List.map_toArray, List.map_cons, List.map_nil]); first | done | rfl | (simp only [List.length_drop, List.length_take]; rfl)) ?_; (with_reducible refine (spinetref04_whole.calls (rd l2 ((rd_T40 l0 a1).f1)) t246 t247 t248 _ A35.out).mono ?_); rintro e w38 ⟨rfl, hb⟩; refine ⟨_, rfl, ?_⟩; have n0_ := Aside0.mk (blk_below (g := gb236) (o := .cells #[.int .i64 0, .int .i64 0, .int .i64 0] 101 (0, 0)) (by (with_reducible repeat (first | refine blk_drewN ?_ _ | refine blk_drew ?_ | refine blk_alloc ?_ _)); exact BK236.out) hb); have n1_ := Aside0.mk (blk_below (g := gb238) (o := .cells #[.int .i64 ((rd_T40 l0 a1).f0), .int .i64 ((rd_T40 l0 a1).f1), .int .i64 ((rd_T40 l0 a1).f2)] 40 (0, 0)) (by (with_reducible repeat (first | refine blk_drewN ?_ _ | refine blk_drew ?_ | refine blk_alloc ?_ _)); exact BK238.out) hb); have n2_ := Aside0.mk (below_step (by repeat (first | (with_reducible first | exact HB.out | apply below_alloc | apply pw_below_drewN | apply below_drew1 | refine below_set ?_ GE236.out | refine below_set ?_ GE238.out) | exact HB.out)) hb); clear BK236; clear BK238; clear HB; have BK236 := n0_; have BK238 := n1_; have HB := n2_; clear n0_ n1_ n2_; (try clear hb); (try clear hb2); (try clear hk); (try clear hi); have hcz39_0 : w38.cell? ⟨gb236, 0, none⟩ = some (.int .i64 0) := (blk_cell BK236.out 0).trans rfl; have hcz39_1 : w38.cell? ⟨gb236, 1, none⟩ = some (.int .i64 0) := (blk_cell BK236.out 1).trans rfl; have hcz39_2 : w38.cell? ⟨gb236, 2, none⟩ = some (.int .i64 0) := (blk_cell BK236.out 2).trans rfl; have hfz39_0 := blk_frozen BK236.out 0; have hfz39_1 := blk_frozen BK236.out 1; have hfz39_2 := blk_frozen BK236.out 2))
                      refine bodyPost_ret (results_ct rfl _ _ gb236 101 #[.int .i64 t246, .int .i64 t247, .int .i64 t248] (0, 0) _ rfl (by (with_reducible repeat (first | refine blk_drewN ?_ _ | refine blk_drew ?_ | refine blk_alloc ?_ _)); refine blk_put (cs := #[.int .i64 t246, .int .i64 t247, .int .i64 0]) ?_ 2 _ rfl; (with_reducible repeat (first | refine blk_drewN ?_ _ | refine blk_drew ?_ | refine blk_alloc ?_ _)); refine blk_put (cs := #[.int .i64 t246, .int .i64 0, .int .i64 0]) ?_ 1 _ rfl; (with_reducible repeat (first | refine blk_drewN ?_ _ | refine blk_drew ?_ | refine blk_alloc ?_ _)); refine blk_put (cs := #[.int .i64 0, .int .i64 0, .int .i64 0]) ?_ 0 _ rfl; (with_reducible repeat (first | refine blk_drewN ?_ _ | refine blk_drew ?_ | refine blk_alloc ?_ _)); exact BK236.out) Tryd.underlying101 rfl (by kernel_rfl)) rfl ?_
                      exact ⟨by first | rfl | (simp [errW_none, errW_some] <;> rfl) | (simp [*, errW_none, errW_some] <;> rfl), by repeat (first | (with_reducible first | exact HB.out | apply below_alloc | apply pw_below_drewN | apply below_drew1 | refine below_set ?_ GE236.out | refine below_set ?_ GE238.out) | exact HB.out)⟩
                    · rw [if_neg c34] at H
                      exact absurd H (by simp)
                  · rw [if_neg c33] at H
                    have c33b0 : decide (((rd_T40 l0 a1).f1) < (l2.length : Int)) = false := decide_eq_false c33
                    clear c33
                    simp only [Option.some.injEq, Prod.mk.injEq] at H
                    obtain ⟨rfl, rfl, rfl, rfl⟩ := H
                    have hnb40 := NB238_236.out
                    have hnc40 := NB236_238.out
                    have hcz41_0 : wc.cell? ⟨gb238, 0, none⟩ = some (.int .i64 ((rd_T40 l0 a1).f0)) := (blk_cell BK238.out 0).trans rfl
                    have hcz41_1 : wc.cell? ⟨gb238, 1, none⟩ = some (.int .i64 ((rd_T40 l0 a1).f1)) := (blk_cell BK238.out 1).trans rfl
                    have hcz41_2 : wc.cell? ⟨gb238, 2, none⟩ = some (.int .i64 ((rd_T40 l0 a1).f2)) := (blk_cell BK238.out 2).trans rfl
                    have hfz41_0 := blk_frozen BK238.out 0
                    have hfz41_1 := blk_frozen BK238.out 1
                    have hfz41_2 := blk_frozen BK238.out 2
                    have hcz42_0 : wc.cell? ⟨gb236, 0, none⟩ = some (.int .i64 0) := (blk_cell BK236.out 0).trans rfl
                    have hcz42_1 : wc.cell? ⟨gb236, 1, none⟩ = some (.int .i64 0) := (blk_cell BK236.out 1).trans rfl
                    have hcz42_2 : wc.cell? ⟨gb236, 2, none⟩ = some (.int .i64 0) := (blk_cell BK236.out 2).trans rfl
                    have hfz42_0 := blk_frozen BK236.out 0
                    have hfz42_1 := blk_frozen BK236.out 1
                    have hfz42_2 := blk_frozen BK236.out 2
                    go_wp2
                    refine bodyPost_ret (results_ct rfl _ _ gb236 101 #[.int .i64 0, .int .i64 0, .int .i64 4] (0, 0) _ rfl (by (with_reducible repeat (first | refine blk_drewN ?_ _ | refine blk_drew ?_ | refine blk_alloc ?_ _)); refine blk_put (cs := #[.int .i64 0, .int .i64 0, .int .i64 0]) ?_ 2 _ rfl; (with_reducible repeat (first | refine blk_drewN ?_ _ | refine blk_drew ?_ | refine blk_alloc ?_ _)); refine blk_put (cs := #[.int .i64 0, .int .i64 0, .int .i64 0]) ?_ 1 _ rfl; (with_reducible repeat (first | refine blk_drewN ?_ _ | refine blk_drew ?_ | refine blk_alloc ?_ _)); refine blk_put (cs := #[.int .i64 0, .int .i64 0, .int .i64 0]) ?_ 0 _ rfl; (with_reducible repeat (first | refine blk_drewN ?_ _ | refine blk_drew ?_ | refine blk_alloc ?_ _)); exact BK236.out) Tryd.underlying101 rfl (by kernel_rfl)) rfl ?_
                    exact ⟨by first | rfl | (simp [errW_none, errW_some] <;> rfl) | (simp [*, errW_none, errW_some] <;> rfl), by repeat (first | (with_reducible first | exact HB.out | apply below_alloc | apply pw_below_drewN | apply below_drew1 | refine below_set ?_ GE236.out | refine below_set ?_ GE238.out) | exact HB.out)⟩
        · rw [if_neg c16] at H
          have c16b0 : (((rd_T40 l0 a1).f0) == 2) = false := beq_eq_false_iff_ne.mpr c16
          have c16b1 : (((rd_T40 l0 a1).f0) != 2) = true := bne_iff_ne.mpr c16
          have HC43 := Aside0.mk H
          clear H
          go_enter Tryd.func58, Tryd.ntmps58
          go_upto_if 61 with (first | ((with_reducible refine gate_dst (N := 10) rfl ?_); (try (refine gate_guard (by rfl) ?_; dsimp only)); refine box_event ?hg (N := 10) ?hd (cs := #[.int .i64 0, .int .i64 0, .int .i64 0]) (t := 101) ?hr ?_; (case hd => rfl); (case hg => rfl); (case hr => first | (go_simp; done) | (go_simp; rfl)); intro gb236 hg w44 hbox hb; have n0_ := Aside0.mk (below_step (by repeat (first | (with_reducible first | exact HB.out | apply below_alloc | apply pw_below_drewN | apply below_drew1) | exact HB.out)) hb); have n1_ := Aside0.mk (hbox); have n2_ := Aside0.mk ((by rw [hg]; exact (below_size (by repeat (first | (with_reducible first | exact HB.out | apply below_alloc | apply pw_below_drewN | apply below_drew1) | exact HB.out))) : w.heap.size ≤ gb236)); have n3_ := Aside0.mk ((by rw [hg]; exact (below_size (by repeat (first | (with_reducible first | exact HB.out | apply below_alloc | apply pw_below_drewN | apply below_drew1) | exact HB.out))) : w.heap.size ≤ gb236)); clear HB; have HB := n0_; have BK236 := n1_; have GW236 := n2_; have GE236 := n3_; clear n0_ n1_ n2_ n3_; clear hb hbox hg; have p237 : 0 ≤ (a1 : Int) := of_decide_eq_true (by first | (with_reducible assumption) | assumption); have q237 : a1 < (l0.length : Int) := of_decide_eq_true (by first | (with_reducible assumption) | assumption); obtain ⟨ad237, e237, hx237_0, hx237_1, hx237_2⟩ := at_T40 HR0.out a1 p237 q237; cases e237; replace hx237_0 := (HB.out.cell (World.block_lt_of_cell? w _ hx237_0)).trans hx237_0; replace hx237_1 := (HB.out.cell (World.block_lt_of_cell? w _ hx237_1)).trans hx237_1; replace hx237_2 := (HB.out.cell (World.block_lt_of_cell? w _ hx237_2)).trans hx237_2; replace p237 := eq_true p237; replace q237 := eq_true q237) | ((with_reducible refine gate_dst (N := 12) rfl ?_); (try (refine gate_guard (by rfl) ?_; dsimp only)); refine box_event ?hg (N := 12) ?hd (cs := #[.int .i64 0, .int .i64 0, .int .i64 0]) (t := 40) ?hr ?_; (case hd => rfl); (case hg => rfl); (case hr => first | (go_simp; done) | (go_simp; rfl)); intro gb238 hg w45 hbox hb; have n0_ := Aside0.mk (blk_below (g := gb236) (o := .cells #[.int .i64 0, .int .i64 0, .int .i64 0] 101 (0, 0)) (by (with_reducible repeat (first | refine blk_drewN ?_ _ | refine blk_drew ?_ | refine blk_alloc ?_ _)); exact BK236.out) hb); have n1_ := Aside0.mk (below_step (by repeat (first | (with_reducible first | exact HB.out | apply below_alloc | apply pw_below_drewN | apply below_drew1 | refine below_set ?_ GE236.out) | exact HB.out)) hb); have n2_ := Aside0.mk (hbox); have n3_ := Aside0.mk ((by rw [hg]; exact (below_size (by repeat (first | (with_reducible first | exact HB.out | apply below_alloc | apply pw_below_drewN | apply below_drew1 | refine below_set ?_ GE236.out) | exact HB.out))) : w.heap.size ≤ gb238)); have n4_ := Aside0.mk ((by rw [hg]; exact (below_size (by repeat (first | (with_reducible first | exact HB.out | apply below_alloc | apply pw_below_drewN | apply below_drew1 | refine below_set ?_ GE236.out) | exact HB.out))) : w.heap.size ≤ gb238)); have n5_ := Aside0.mk ((by rw [hg]; exact Nat.ne_of_lt (blk_lt (g := gb236) (o := .cells #[.int .i64 0, .int .i64 0, .int .i64 0] 101 (0, 0)) (by (with_reducible repeat (first | refine blk_drewN ?_ _ | refine blk_drew ?_ | refine blk_alloc ?_ _)); exact BK236.out)) : gb236 ≠ gb238)); have n6_ := Aside0.mk ((by rw [hg]; exact Nat.ne_of_gt (blk_lt (g := gb236) (o := .cells #[.int .i64 0, .int .i64 0, .int .i64 0] 101 (0, 0)) (by (with_reducible repeat (first | refine blk_drewN ?_ _ | refine blk_drew ?_ | refine blk_alloc ?_ _)); exact BK236.out)) : gb238 ≠ gb236)); clear BK236; clear HB; have BK236 := n0_; have HB := n1_; have BK238 := n2_; have GW238 := n3_; have GE238 := n4_; have NB236_238 := n5_; have NB238_236 := n6_; clear n0_ n1_ n2_ n3_ n4_ n5_ n6_; clear hb hbox hg; have hnb46 := NB238_236.out; have hnc46 := NB236_238.out; have hcz47_0 : w45.cell? ⟨gb238, 0, none⟩ = some (.int .i64 0) := (blk_cell BK238.out 0).trans rfl; have hcz47_1 : w45.cell? ⟨gb238, 1, none⟩ = some (.int .i64 0) := (blk_cell BK238.out 1).trans rfl; have hcz47_2 : w45.cell? ⟨gb238, 2, none⟩ = some (.int .i64 0) := (blk_cell BK238.out 2).trans rfl; have hfz47_0 := blk_frozen BK238.out 0; have hfz47_1 := blk_frozen BK238.out 1; have hfz47_2 := blk_frozen BK238.out 2))
          (try simp only [Act.put, List.setIfInBounds_toArray, List.set_cons_zero, List.set_cons_succ])
          go_cut [61] (fun v61 wc => ∃ (kq : Nat) (x61_42 : Bool), v61 = .bool x61_42 ∧ Aside0 (spinetref04_End.j1 kq l0 a1 l2 a3 a4 ((rd_T40 l0 a1).f0) x61_42 ((rd_T40 l0 a1).f0) ((rd_T40 l0 a1).f1) ((rd_T40 l0 a1).f2) = some (r1, r2, r3, r4)) ∧ Aside0 (kq ≤ k) ∧ Aside0 (wc.heap[gb236]? = some (.cells #[.int .i64 0, .int .i64 0, .int .i64 0] 101 (0, 0))) ∧ Aside0 (wc.heap[gb238]? = some (.cells #[.int .i64 ((rd_T40 l0 a1).f0), .int .i64 ((rd_T40 l0 a1).f1), .int .i64 ((rd_T40 l0 a1).f2)] 40 (0, 0))) ∧ Aside0 (Below w.heap.size w wc))
          case first =>
            have H := HC43.out
            clear HC43
            by_cases c48 : ((rd_T40 l0 a1).f0) = 15
            · rw [if_pos c48] at H
              have c48b0 : (((rd_T40 l0 a1).f0) == 15) = true := beq_iff_eq.mpr c48
              have c48b1 : (((rd_T40 l0 a1).f0) != 15) = false := bne_eq_false_iff_eq.mpr c48
              clear c48
              (first | rw [c48b0] | (simp only [i64_w, i32_w]; rw [c48b0]) | skip)
              have H' := Aside0.mk H
              clear H
              go_wp2
              go_meet
              case rel => exact ⟨_, ((((rd_T40 l0 a1).f0) == 15)), (by first | rfl | (simp; done) | (simp [*]; done)), H', ⟨by first | omega | exact Nat.le_refl _⟩, ⟨by (with_reducible repeat (first | refine blk_drewN ?_ _ | refine blk_drew ?_ | refine blk_alloc ?_ _)); refine blk_far ?_ NB236_238.out _; (with_reducible repeat (first | refine blk_drewN ?_ _ | refine blk_drew ?_ | refine blk_alloc ?_ _)); refine blk_far ?_ NB236_238.out _; (with_reducible repeat (first | refine blk_drewN ?_ _ | refine blk_drew ?_ | refine blk_alloc ?_ _)); refine blk_far ?_ NB236_238.out _; (with_reducible repeat (first | refine blk_drewN ?_ _ | refine blk_drew ?_ | refine blk_alloc ?_ _)); exact BK236.out⟩, ⟨by (with_reducible repeat (first | refine blk_drewN ?_ _ | refine blk_drew ?_ | refine blk_alloc ?_ _)); refine blk_put (cs := #[.int .i64 ((rd_T40 l0 a1).f0), .int .i64 ((rd_T40 l0 a1).f1), .int .i64 0]) ?_ 2 _ rfl; (with_reducible repeat (first | refine blk_drewN ?_ _ | refine blk_drew ?_ | refine blk_alloc ?_ _)); refine blk_put (cs := #[.int .i64 ((rd_T40 l0 a1).f0), .int .i64 0, .int .i64 0]) ?_ 1 _ rfl; (with_reducible repeat (first | refine blk_drewN ?_ _ | refine blk_drew ?_ | refine blk_alloc ?_ _)); refine blk_put (cs := #[.int .i64 0, .int .i64 0, .int .i64 0]) ?_ 0 _ rfl; (with_reducible repeat (first | refine blk_drewN ?_ _ | refine blk_drew ?_ | refine blk_alloc ?_ _)); exact BK238.out⟩, ⟨by repeat (first | (with_reducible first | exact HB.out | apply below_alloc | apply pw_below_drewN | apply below_drew1 | refine below_set ?_ GE236.out | refine below_set ?_ GE238.out) | exact HB.out)⟩⟩
            · rw [if_neg c48] at H
              have c48b0 : (((rd_T40 l0 a1).f0) == 15) = false := beq_eq_false_iff_ne.mpr c48
              have c48b1 : (((rd_T40 l0 a1).f0) != 15) = true := bne_iff_ne.mpr c48
              (first | rw [c48b0] | (simp only [i64_w, i32_w]; rw [c48b0]) | skip)
              have H' := Aside0.mk H
              clear H
              go_wp2
              go_meet
              case rel => exact ⟨_, ((((rd_T40 l0 a1).f0) == 16)), (by first | rfl | (simp; done) | (simp [*]; done)), H', ⟨by first | omega | exact Nat.le_refl _⟩, ⟨by (with_reducible repeat (first | refine blk_drewN ?_ _ | refine blk_drew ?_ | refine blk_alloc ?_ _)); refine blk_far ?_ NB236_238.out _; (with_reducible repeat (first | refine blk_drewN ?_ _ | refine blk_drew ?_ | refine blk_alloc ?_ _)); refine blk_far ?_ NB236_238.out _; (with_reducible repeat (first | refine blk_drewN ?_ _ | refine blk_drew ?_ | refine blk_alloc ?_ _)); refine blk_far ?_ NB236_238.out _; (with_reducible repeat (first | refine blk_drewN ?_ _ | refine blk_drew ?_ | refine blk_alloc ?_ _)); exact BK236.out⟩, ⟨by (with_reducible repeat (first | refine blk_drewN ?_ _ | refine blk_drew ?_ | refine blk_alloc ?_ _)); refine blk_put (cs := #[.int .i64 ((rd_T40 l0 a1).f0), .int .i64 ((rd_T40 l0 a1).f1), .int .i64 0]) ?_ 2 _ rfl; (with_reducible repeat (first | refine blk_drewN ?_ _ | refine blk_drew ?_ | refine blk_alloc ?_ _)); refine blk_put (cs := #[.int .i64 ((rd_T40 l0 a1).f0), .int .i64 0, .int .i64 0]) ?_ 1 _ rfl; (with_reducible repeat (first | refine blk_drewN ?_ _ | refine blk_drew ?_ | refine blk_alloc ?_ _)); refine blk_put (cs := #[.int .i64 0, .int .i64 0, .int .i64 0]) ?_ 0 _ rfl; (with_reducible repeat (first | refine blk_drewN ?_ _ | refine blk_drew ?_ | refine blk_alloc ?_ _)); exact BK238.out⟩, ⟨by repeat (first | (with_reducible first | exact HB.out | apply below_alloc | apply pw_below_drewN | apply below_drew1 | refine below_set ?_ GE236.out | refine below_set ?_ GE238.out) | exact HB.out)⟩⟩
          case rest =>
            clear HC43
            try clear c1
            try clear c2
            try clear p2
            try clear q2
            try clear hx2
            try clear c3
            try clear c4
            try clear c5
            try clear c6
            try clear c6b0
            try clear c7
            try clear c7b0
            try clear c8
            try clear c8b0
            try clear c8b1
            try clear c12
            try clear c16
            try clear c16b0
            try clear c16b1
            try clear c20
            try clear c22
            try clear c23
            try clear p23
            try clear q23
            try clear hx23
            try clear p24
            try clear q24
            try clear hx24
            try clear c25
            try clear c28
            try clear c30
            try clear c31
            try clear c33
            try clear c33b0
            try clear c34
            try clear c34b0
            try clear c36
            try clear c40
            try clear c46
            try clear c48
            try clear c48b0
            try clear c48b1
            try clear hcz13_0
            try clear hcz13_1
            try clear hcz13_2
            try clear hcz15_0
            try clear hcz15_1
            try clear hcz15_2
            try clear hcz21_0
            try clear hcz21_1
            try clear hcz21_2
            try clear hcz24_0
            try clear hcz24_1
            try clear hcz24_2
            try clear hcz29_0
            try clear hcz29_1
            try clear hcz29_2
            try clear hcz32_0
            try clear hcz32_1
            try clear hcz32_2
            try clear hcz37_0
            try clear hcz37_1
            try clear hcz37_2
            try clear hcz39_0
            try clear hcz39_1
            try clear hcz39_2
            try clear hcz41_0
            try clear hcz41_1
            try clear hcz41_2
            try clear hcz42_0
            try clear hcz42_1
            try clear hcz42_2
            try clear hcz47_0
            try clear hcz47_1
            try clear hcz47_2
            try clear hfz13_0
            try clear hfz13_1
            try clear hfz13_2
            try clear hfz15_0
            try clear hfz15_1
            try clear hfz15_2
            try clear hfz21_0
            try clear hfz21_1
            try clear hfz21_2
            try clear hfz24_0
            try clear hfz24_1
            try clear hfz24_2
            try clear hfz29_0
            try clear hfz29_1
            try clear hfz29_2
            try clear hfz32_0
            try clear hfz32_1
            try clear hfz32_2
            try clear hfz37_0
            try clear hfz37_1
            try clear hfz37_2
            try clear hfz39_0
            try clear hfz39_1
            try clear hfz39_2
            try clear hfz41_0
            try clear hfz41_1
            try clear hfz41_2
            try clear hfz42_0
            try clear hfz42_1
            try clear hfz42_2
            try clear hfz47_0
            try clear hfz47_1
            try clear hfz47_2
            try clear hx237_0
            try clear hx237_1
            try clear hx237_2
            try clear hx245_0
            try clear p2
            try clear p23
            try clear p237
            try clear p245
            try clear q2
            try clear q23
            try clear q237
            try clear q245
            obtain ⟨kq, x61_42, rfl, HA, HJ42, BK236, BK238, HB⟩ := hcut
            cases kq with
            | zero => exact absurd HA.out (by simp [spinetref04_End.j1])
            | succ kj42 =>
              have H := HA.out
              clear HA
              simp only [spinetref04_End.j1] at H
              by_cases c49 : x61_42 = true
              · subst c49
                have H1 : ((spinetref04_truth.f (((rd_T40 l0 a1).f0) == 15)).bind fun bt249 => (some (bt249.1, bt249.2.1, bt249.2.2, a1))) = some (r1, r2, r3, r4) := by rw [if_pos rfl] at H; exact H
                clear H
                have H := H1
                clear H1
                replace H := Option.bind_eq_some_iff.mp H
                obtain ⟨⟨t249, t250, t251⟩, A500, H⟩ := H
                replace H : (some (t249, t250, t251, a1)) = some (r1, r2, r3, r4) := H
                have A50 := Aside0.mk A500
                clear A500
                simp only [Option.some.injEq, Prod.mk.injEq] at H
                obtain ⟨rfl, rfl, rfl, rfl⟩ := H
                have hnb51 := NB238_236.out
                have hnc51 := NB236_238.out
                have hcz52_0 : wc.cell? ⟨gb238, 0, none⟩ = some (.int .i64 ((rd_T40 l0 a1).f0)) := (blk_cell BK238.out 0).trans rfl
                have hcz52_1 : wc.cell? ⟨gb238, 1, none⟩ = some (.int .i64 ((rd_T40 l0 a1).f1)) := (blk_cell BK238.out 1).trans rfl
                have hcz52_2 : wc.cell? ⟨gb238, 2, none⟩ = some (.int .i64 ((rd_T40 l0 a1).f2)) := (blk_cell BK238.out 2).trans rfl
                have hfz52_0 := blk_frozen BK238.out 0
                have hfz52_1 := blk_frozen BK238.out 1
                have hfz52_2 := blk_frozen BK238.out 2
                go_wp2_with (first | ((with_reducible refine gate_callee (f := 90) rfl ?_); refine goesL_ (some 67) rfl rfl Tryd.func90 (by kernel_rfl) rfl #[.bool (((rd_T40 l0 a1).f0) == 15)] rfl (by (try simp only [List.map_toArray, List.map_cons, List.map_nil]); first | done | rfl | (simp only [List.length_drop, List.length_take]; rfl)) ?_; (with_reducible refine (spinetref04_truth.calls (((rd_T40 l0 a1).f0) == 15) t249 t250 t251 _ A50.out).mono ?_); rintro e w53 ⟨rfl, hb⟩; refine ⟨_, rfl, ?_⟩; have n0_ := Aside0.mk (blk_below (g := gb236) (o := .cells #[.int .i64 0, .int .i64 0, .int .i64 0] 101 (0, 0)) (by (with_reducible repeat (first | refine blk_drewN ?_ _ | refine blk_drew ?_ | refine blk_alloc ?_ _)); exact BK236.out) hb); have n1_ := Aside0.mk (blk_below (g := gb238) (o := .cells #[.int .i64 ((rd_T40 l0 a1).f0), .int .i64 ((rd_T40 l0 a1).f1), .int .i64 ((rd_T40 l0 a1).f2)] 40 (0, 0)) (by (with_reducible repeat (first | refine blk_drewN ?_ _ | refine blk_drew ?_ | refine blk_alloc ?_ _)); exact BK238.out) hb); have n2_ := Aside0.mk (below_step (by repeat (first | (with_reducible first | exact HB.out | apply below_alloc | apply pw_below_drewN | apply below_drew1 | refine below_set ?_ GE236.out | refine below_set ?_ GE238.out) | exact HB.out)) hb); clear BK236; clear BK238; clear HB; have BK236 := n0_; have BK238 := n1_; have HB := n2_; clear n0_ n1_ n2_; (try clear hb); (try clear hb2); (try clear hk); (try clear hi); have hcz54_0 : w53.cell? ⟨gb236, 0, none⟩ = some (.int .i64 0) := (blk_cell BK236.out 0).trans rfl; have hcz54_1 : w53.cell? ⟨gb236, 1, none⟩ = some (.int .i64 0) := (blk_cell BK236.out 1).trans rfl; have hcz54_2 : w53.cell? ⟨gb236, 2, none⟩ = some (.int .i64 0) := (blk_cell BK236.out 2).trans rfl; have hfz54_0 := blk_frozen BK236.out 0; have hfz54_1 := blk_frozen BK236.out 1; have hfz54_2 := blk_frozen BK236.out 2))
                refine bodyPost_ret (results_ct rfl _ _ gb236 101 #[.int .i64 t249, .int .i64 t250, .int .i64 t251] (0, 0) _ rfl (by (with_reducible repeat (first | refine blk_drewN ?_ _ | refine blk_drew ?_ | refine blk_alloc ?_ _)); refine blk_put (cs := #[.int .i64 t249, .int .i64 t250, .int .i64 0]) ?_ 2 _ rfl; (with_reducible repeat (first | refine blk_drewN ?_ _ | refine blk_drew ?_ | refine blk_alloc ?_ _)); refine blk_put (cs := #[.int .i64 t249, .int .i64 0, .int .i64 0]) ?_ 1 _ rfl; (with_reducible repeat (first | refine blk_drewN ?_ _ | refine blk_drew ?_ | refine blk_alloc ?_ _)); refine blk_put (cs := #[.int .i64 0, .int .i64 0, .int .i64 0]) ?_ 0 _ rfl; (with_reducible repeat (first | refine blk_drewN ?_ _ | refine blk_drew ?_ | refine blk_alloc ?_ _)); exact BK236.out) Tryd.underlying101 rfl (by kernel_rfl)) rfl ?_
                exact ⟨by first | rfl | (simp [errW_none, errW_some] <;> rfl) | (simp [*, errW_none, errW_some] <;> rfl), by repeat (first | (with_reducible first | exact HB.out | apply below_alloc | apply pw_below_drewN | apply below_drew1 | refine below_set ?_ GE236.out | refine below_set ?_ GE238.out) | exact HB.out)⟩
              · replace c49 := Bool.eq_false_iff.mpr c49
                subst c49
                have H1 : (if ((rd_T40 l0 a1).f0) = 14 then (spinetref04_End.j2 kj42 l0 a1 l2 a3 a4 (((rd_T40 l0 a1).f0) == 14) ((rd_T40 l0 a1).f0) ((rd_T40 l0 a1).f1) ((rd_T40 l0 a1).f2)) else (spinetref04_End.j2 kj42 l0 a1 l2 a3 a4 (((rd_T40 l0 a1).f0) == 19) ((rd_T40 l0 a1).f0) ((rd_T40 l0 a1).f1) ((rd_T40 l0 a1).f2))) = some (r1, r2, r3, r4) := by rw [if_neg (show ¬ (false = true) by decide)] at H; exact H
                clear H
                have H := H1
                clear H1
                have HC55 := Aside0.mk H
                clear H
                go_upto_if 69 with (fail)
                go_cut [69] (fun v69 wc => ∃ (kq : Nat) (x69_54 : Bool), v69 = .bool x69_54 ∧ Aside0 (spinetref04_End.j2 kq l0 a1 l2 a3 a4 x69_54 ((rd_T40 l0 a1).f0) ((rd_T40 l0 a1).f1) ((rd_T40 l0 a1).f2) = some (r1, r2, r3, r4)) ∧ Aside0 (kq ≤ kj42) ∧ Aside0 (wc.heap[gb236]? = some (.cells #[.int .i64 0, .int .i64 0, .int .i64 0] 101 (0, 0))) ∧ Aside0 (wc.heap[gb238]? = some (.cells #[.int .i64 ((rd_T40 l0 a1).f0), .int .i64 ((rd_T40 l0 a1).f1), .int .i64 ((rd_T40 l0 a1).f2)] 40 (0, 0))) ∧ Aside0 (Below w.heap.size w wc))
                case first =>
                  have H := HC55.out
                  clear HC55
                  by_cases c56 : ((rd_T40 l0 a1).f0) = 14
                  · rw [if_pos c56] at H
                    have c56b0 : (((rd_T40 l0 a1).f0) == 14) = true := beq_iff_eq.mpr c56
                    have c56b1 : (((rd_T40 l0 a1).f0) != 14) = false := bne_eq_false_iff_eq.mpr c56
                    clear c56
                    (first | rw [c56b0] | (simp only [i64_w, i32_w]; rw [c56b0]) | skip)
                    have H' := Aside0.mk H
                    clear H
                    go_wp2
                    go_meet
                    case rel => exact ⟨_, ((((rd_T40 l0 a1).f0) == 14)), (by first | rfl | (simp; done) | (simp [*]; done)), H', ⟨by have := HJ42.out; first | omega | exact Nat.le_refl _⟩, ⟨by (with_reducible repeat (first | refine blk_drewN ?_ _ | refine blk_drew ?_ | refine blk_alloc ?_ _)); exact BK236.out⟩, ⟨by (with_reducible repeat (first | refine blk_drewN ?_ _ | refine blk_drew ?_ | refine blk_alloc ?_ _)); exact BK238.out⟩, ⟨by repeat (first | (with_reducible first | exact HB.out | apply below_alloc | apply pw_below_drewN | apply below_drew1 | refine below_set ?_ GE236.out | refine below_set ?_ GE238.out) | exact HB.out)⟩⟩
                  · rw [if_neg c56] at H
                    have c56b0 : (((rd_T40 l0 a1).f0) == 14) = false := beq_eq_false_iff_ne.mpr c56
                    have c56b1 : (((rd_T40 l0 a1).f0) != 14) = true := bne_iff_ne.mpr c56
                    (first | rw [c56b0] | (simp only [i64_w, i32_w]; rw [c56b0]) | skip)
                    have H' := Aside0.mk H
                    clear H
                    go_wp2
                    go_meet
                    case rel => exact ⟨_, ((((rd_T40 l0 a1).f0) == 19)), (by first | rfl | (simp; done) | (simp [*]; done)), H', ⟨by have := HJ42.out; first | omega | exact Nat.le_refl _⟩, ⟨by (with_reducible repeat (first | refine blk_drewN ?_ _ | refine blk_drew ?_ | refine blk_alloc ?_ _)); exact BK236.out⟩, ⟨by (with_reducible repeat (first | refine blk_drewN ?_ _ | refine blk_drew ?_ | refine blk_alloc ?_ _)); exact BK238.out⟩, ⟨by repeat (first | (with_reducible first | exact HB.out | apply below_alloc | apply pw_below_drewN | apply below_drew1 | refine below_set ?_ GE236.out | refine below_set ?_ GE238.out) | exact HB.out)⟩⟩
                case rest =>
                  clear HC55
                  try clear c1
                  try clear c2
                  try clear p2
                  try clear q2
                  try clear hx2
                  try clear c3
                  try clear c4
                  try clear c5
                  try clear c6
                  try clear c6b0
                  try clear c7
                  try clear c7b0
                  try clear c8
                  try clear c8b0
                  try clear c8b1
                  try clear c9
                  try clear c12
                  try clear c16
                  try clear c16b0
                  try clear c16b1
                  try clear c20
                  try clear c22
                  try clear c23
                  try clear p23
                  try clear q23
                  try clear hx23
                  try clear p24
                  try clear q24
                  try clear hx24
                  try clear c25
                  try clear c28
                  try clear c30
                  try clear c31
                  try clear c33
                  try clear c33b0
                  try clear c34
                  try clear c34b0
                  try clear c36
                  try clear c40
                  try clear c46
                  try clear c48
                  try clear c48b0
                  try clear c48b1
                  try clear c49
                  try clear c51
                  try clear c56
                  try clear c56b0
                  try clear c56b1
                  try clear hcz13_0
                  try clear hcz13_1
                  try clear hcz13_2
                  try clear hcz15_0
                  try clear hcz15_1
                  try clear hcz15_2
                  try clear hcz21_0
                  try clear hcz21_1
                  try clear hcz21_2
                  try clear hcz24_0
                  try clear hcz24_1
                  try clear hcz24_2
                  try clear hcz29_0
                  try clear hcz29_1
                  try clear hcz29_2
                  try clear hcz32_0
                  try clear hcz32_1
                  try clear hcz32_2
                  try clear hcz37_0
                  try clear hcz37_1
                  try clear hcz37_2
                  try clear hcz39_0
                  try clear hcz39_1
                  try clear hcz39_2
                  try clear hcz41_0
                  try clear hcz41_1
                  try clear hcz41_2
                  try clear hcz42_0
                  try clear hcz42_1
                  try clear hcz42_2
                  try clear hcz47_0
                  try clear hcz47_1
                  try clear hcz47_2
                  try clear hcz52_0
                  try clear hcz52_1
                  try clear hcz52_2
                  try clear hcz54_0
                  try clear hcz54_1
                  try clear hcz54_2
                  try clear hfz13_0
                  try clear hfz13_1
                  try clear hfz13_2
                  try clear hfz15_0
                  try clear hfz15_1
                  try clear hfz15_2
                  try clear hfz21_0
                  try clear hfz21_1
                  try clear hfz21_2
                  try clear hfz24_0
                  try clear hfz24_1
                  try clear hfz24_2
                  try clear hfz29_0
                  try clear hfz29_1
                  try clear hfz29_2
                  try clear hfz32_0
                  try clear hfz32_1
                  try clear hfz32_2
                  try clear hfz37_0
                  try clear hfz37_1
                  try clear hfz37_2
                  try clear hfz39_0
                  try clear hfz39_1
                  try clear hfz39_2
                  try clear hfz41_0
                  try clear hfz41_1
                  try clear hfz41_2
                  try clear hfz42_0
                  try clear hfz42_1
                  try clear hfz42_2
                  try clear hfz47_0
                  try clear hfz47_1
                  try clear hfz47_2
                  try clear hfz52_0
                  try clear hfz52_1
                  try clear hfz52_2
                  try clear hfz54_0
                  try clear hfz54_1
                  try clear hfz54_2
                  try clear hx237_0
                  try clear hx237_1
                  try clear hx237_2
                  try clear hx245_0
                  try clear p2
                  try clear p23
                  try clear p237
                  try clear p24
                  try clear p245
                  try clear q2
                  try clear q23
                  try clear q237
                  try clear q24
                  try clear q245
                  obtain ⟨kq, x69_54, rfl, HA, HJ54, BK236, BK238, HB⟩ := hcut
                  cases kq with
                  | zero => exact absurd HA.out (by simp [spinetref04_End.j2])
                  | succ kj54 =>
                    have H := HA.out
                    clear HA
                    simp only [spinetref04_End.j2] at H
                    by_cases c57 : x69_54 = true
                    · subst c57
                      have H1 : ((spinetref04_End.f kj54 l0 (wrap64 (a1 - 1)) l2 a3 a4).bind fun bt252 => (if bt252.2.2.1 = 0 then (if ((rd_T40 l0 a1).f0) = 14 then (spinetref04_End.j3 kj54 bt252.2.2.2 (bt252.1 == 2) ((rd_T40 l0 a1).f0) ((rd_T40 l0 a1).f1) ((rd_T40 l0 a1).f2) bt252.1 bt252.2.1 bt252.2.2.1) else (spinetref04_End.j3 kj54 bt252.2.2.2 false ((rd_T40 l0 a1).f0) ((rd_T40 l0 a1).f1) ((rd_T40 l0 a1).f2) bt252.1 bt252.2.1 bt252.2.2.1)) else (some (bt252.1, bt252.2.1, bt252.2.2.1, bt252.2.2.2)))) = some (r1, r2, r3, r4) := by rw [if_pos rfl] at H; exact H
                      clear H
                      have H := H1
                      clear H1
                      replace H := Option.bind_eq_some_iff.mp H
                      obtain ⟨⟨t252, t253, t254, t255⟩, A580, H⟩ := H
                      replace H : (if t254 = 0 then (if ((rd_T40 l0 a1).f0) = 14 then (spinetref04_End.j3 kj54 t255 (t252 == 2) ((rd_T40 l0 a1).f0) ((rd_T40 l0 a1).f1) ((rd_T40 l0 a1).f2) t252 t253 t254) else (spinetref04_End.j3 kj54 t255 false ((rd_T40 l0 a1).f0) ((rd_T40 l0 a1).f1) ((rd_T40 l0 a1).f2) t252 t253 t254)) else (some (t252, t253, t254, t255))) = some (r1, r2, r3, r4) := H
                      have A58 := Aside0.mk A580
                      clear A580
                      by_cases c59 : t254 = 0
                      · rw [if_pos c59] at H
                        have c59b0 : (t254 == 0) = true := beq_iff_eq.mpr c59
                        have c59b1 : (t254 != 0) = false := bne_eq_false_iff_eq.mpr c59
                        clear c59
                        have HC60 := Aside0.mk H
                        clear H
                        go_upto_region 19 with (first | ((with_reducible refine gate_callee (f := 58) rfl ?_); refine goesL_ (some 79) rfl rfl Tryd.func58 (by kernel_rfl) rfl #[.slice (some ad237) l0.length c0, .int .i64 (wrap64 (a1 - 1)), .slice A2 l2.length c2, .int .i64 a3, .bool a4] rfl (by (try simp only [List.map_toArray, List.map_cons, List.map_nil]); first | done | rfl | (simp only [List.length_drop, List.length_take]; rfl)) ?_; (with_reducible refine (ih kj54 (by have := HJ42.out; have := HJ54.out; omega) _ _ l0 (wrap64 (a1 - 1)) _ _ l2 a3 a4 t252 t253 t254 t255 _ ?side1 ?side2 ?side3 ?side4 A58.out).mono ?_); (case side1 => repeat (first | exact (Kd.C_below HR0.out HB.out) | (with_reducible refine Kd.C_alloc ?_ _) | (with_reducible refine Kd.C_drewN ?_ _) | (with_reducible refine Kd.C_drew ?_))); (case side2 => exact HC0.out); (case side3 => repeat (first | exact (Kd.C_below HR2.out HB.out) | (with_reducible refine Kd.C_alloc ?_ _) | (with_reducible refine Kd.C_drewN ?_ _) | (with_reducible refine Kd.C_drew ?_))); (case side4 => exact HC2.out); rintro e w61 ⟨rfl, hb⟩; refine ⟨_, rfl, ?_⟩; have n0_ := Aside0.mk (blk_below (g := gb236) (o := .cells #[.int .i64 0, .int .i64 0, .int .i64 0] 101 (0, 0)) (by (with_reducible repeat (first | refine blk_drewN ?_ _ | refine blk_drew ?_ | refine blk_alloc ?_ _)); exact BK236.out) hb); have n1_ := Aside0.mk (blk_below (g := gb238) (o := .cells #[.int .i64 ((rd_T40 l0 a1).f0), .int .i64 ((rd_T40 l0 a1).f1), .int .i64 ((rd_T40 l0 a1).f2)] 40 (0, 0)) (by (with_reducible repeat (first | refine blk_drewN ?_ _ | refine blk_drew ?_ | refine blk_alloc ?_ _)); exact BK238.out) hb); have n2_ := Aside0.mk (below_step (by repeat (first | (with_reducible first | exact HB.out | apply below_alloc | apply pw_below_drewN | apply below_drew1 | refine below_set ?_ GE236.out | refine below_set ?_ GE238.out) | exact HB.out)) hb); clear BK236; clear BK238; clear HB; have BK236 := n0_; have BK238 := n1_; have HB := n2_; clear n0_ n1_ n2_; (try clear hb); (try clear hb2); (try clear hk); (try clear hi)) | ((with_reducible refine gate_dst (N := 13) rfl ?_); (try (refine gate_guard (by rfl) ?_; dsimp only)); refine box_event ?hg (N := 13) ?hd (cs := #[.int .i64 0, .int .i64 0, .int .i64 0]) (t := 101) ?hr ?_; (case hd => rfl); (case hg => rfl); (case hr => first | (go_simp; done) | (go_simp; rfl)); intro gb256 hg w62 hbox hb; have n0_ := Aside0.mk (blk_below (g := gb236) (o := .cells #[.int .i64 0, .int .i64 0, .int .i64 0] 101 (0, 0)) (by (with_reducible repeat (first | refine blk_drewN ?_ _ | refine blk_drew ?_ | refine blk_alloc ?_ _)); exact BK236.out) hb); have n1_ := Aside0.mk (blk_below (g := gb238) (o := .cells #[.int .i64 ((rd_T40 l0 a1).f0), .int .i64 ((rd_T40 l0 a1).f1), .int .i64 ((rd_T40 l0 a1).f2)] 40 (0, 0)) (by (with_reducible repeat (first | refine blk_drewN ?_ _ | refine blk_drew ?_ | refine blk_alloc ?_ _)); exact BK238.out) hb); have n2_ := Aside0.mk (below_step (by repeat (first | (with_reducible first | exact HB.out | apply below_alloc | apply pw_below_drewN | apply below_drew1 | refine below_set ?_ GE236.out | refine below_set ?_ GE238.out) | exact HB.out)) hb); have n3_ := Aside0.mk (hbox); have n4_ := Aside0.mk ((by rw [hg]; exact (below_size (by repeat (first | (with_reducible first | exact HB.out | apply below_alloc | apply pw_below_drewN | apply below_drew1 | refine below_set ?_ GE236.out | refine below_set ?_ GE238.out) | exact HB.out))) : w.heap.size ≤ gb256)); have n5_ := Aside0.mk ((by rw [hg]; exact (below_size (by repeat (first | (with_reducible first | exact HB.out | apply below_alloc | apply pw_below_drewN | apply below_drew1 | refine below_set ?_ GE236.out | refine below_set ?_ GE238.out) | exact HB.out))) : w.heap.size ≤ gb256)); have n6_ := Aside0.mk ((by rw [hg]; exact Nat.ne_of_lt (blk_lt (g := gb236) (o := .cells #[.int .i64 0, .int .i64 0, .int .i64 0] 101 (0, 0)) (by (with_reducible repeat (first | refine blk_drewN ?_ _ | refine blk_drew ?_ | refine blk_alloc ?_ _)); exact BK236.out)) : gb236 ≠ gb256)); have n7_ := Aside0.mk ((by rw [hg]; exact Nat.ne_of_gt (blk_lt (g := gb236) (o := .cells #[.int .i64 0, .int .i64 0, .int .i64 0] 101 (0, 0)) (by (with_reducible repeat (first | refine blk_drewN ?_ _ | refine blk_drew ?_ | refine blk_alloc ?_ _)); exact BK236.out)) : gb256 ≠ gb236)); have n8_ := Aside0.mk ((by rw [hg]; exact Nat.ne_of_lt (blk_lt (g := gb238) (o := .cells #[.int .i64 ((rd_T40 l0 a1).f0), .int .i64 ((rd_T40 l0 a1).f1), .int .i64 ((rd_T40 l0 a1).f2)] 40 (0, 0)) (by (with_reducible repeat (first | refine blk_drewN ?_ _ | refine blk_drew ?_ | refine blk_alloc ?_ _)); exact BK238.out)) : gb238 ≠ gb256)); have n9_ := Aside0.mk ((by rw [hg]; exact Nat.ne_of_gt (blk_lt (g := gb238) (o := .cells #[.int .i64 ((rd_T40 l0 a1).f0), .int .i64 ((rd_T40 l0 a1).f1), .int .i64 ((rd_T40 l0 a1).f2)] 40 (0, 0)) (by (with_reducible repeat (first | refine blk_drewN ?_ _ | refine blk_drew ?_ | refine blk_alloc ?_ _)); exact BK238.out)) : gb256 ≠ gb238)); clear BK236; clear BK238; clear HB; have BK236 := n0_; have BK238 := n1_; have HB := n2_; have BK256 := n3_; have GW256 := n4_; have GE256 := n5_; have NB236_256 := n6_; have NB256_236 := n7_; have NB238_256 := n8_; have NB256_238 := n9_; clear n0_ n1_ n2_ n3_ n4_ n5_ n6_ n7_ n8_ n9_; clear hb hbox hg; have hnb63 := NB256_236.out; have hnc63 := NB236_256.out; have hnb64 := NB256_238.out; have hnc64 := NB238_256.out; have hcz65_0 : w62.cell? ⟨gb256, 0, none⟩ = some (.int .i64 0) := (blk_cell BK256.out 0).trans rfl; have hcz65_1 : w62.cell? ⟨gb256, 1, none⟩ = some (.int .i64 0) := (blk_cell BK256.out 1).trans rfl; have hcz65_2 : w62.cell? ⟨gb256, 2, none⟩ = some (.int .i64 0) := (blk_cell BK256.out 2).trans rfl; have hfz65_0 := blk_frozen BK256.out 0; have hfz65_1 := blk_frozen BK256.out 1; have hfz65_2 := blk_frozen BK256.out 2))
                        (try simp only [Act.put, List.setIfInBounds_toArray, List.set_cons_zero, List.set_cons_succ])
                        go_cut [95] (fun v95 wc => ∃ (kq : Nat) (x95_59 : Bool), v95 = .bool x95_59 ∧ Aside0 (spinetref04_End.j3 kq t255 x95_59 ((rd_T40 l0 a1).f0) ((rd_T40 l0 a1).f1) ((rd_T40 l0 a1).f2) t252 t253 t254 = some (r1, r2, r3, r4)) ∧ Aside0 (kq ≤ kj54) ∧ Aside0 (wc.heap[gb236]? = some (.cells #[.int .i64 0, .int .i64 0, .int .i64 0] 101 (0, 0))) ∧ Aside0 (wc.heap[gb238]? = some (.cells #[.int .i64 ((rd_T40 l0 a1).f0), .int .i64 ((rd_T40 l0 a1).f1), .int .i64 ((rd_T40 l0 a1).f2)] 40 (0, 0))) ∧ Aside0 (wc.heap[gb256]? = some (.cells #[.int .i64 t252, .int .i64 t253, .int .i64 t254] 101 (0, 0))) ∧ Aside0 (Below w.heap.size w wc))
                        case first =>
                          have H := HC60.out
                          clear HC60
                          by_cases c66 : ((rd_T40 l0 a1).f0) = 14
                          · rw [if_pos c66] at H
                            have c66b0 : (((rd_T40 l0 a1).f0) == 14) = true := beq_iff_eq.mpr c66
                            have c66b1 : (((rd_T40 l0 a1).f0) != 14) = false := bne_eq_false_iff_eq.mpr c66
                            clear c66
                            (first | rw [c66b0] | (simp only [i64_w, i32_w]; rw [c66b0]) | skip)
                            have H' := Aside0.mk H
                            clear H
                            have hnb67 := NB238_236.out
                            have hnc67 := NB236_238.out
                            have hnb68 := NB238_256.out
                            have hnc68 := NB256_238.out
                            have hcz69_0 : w62.cell? ⟨gb238, 0, none⟩ = some (.int .i64 ((rd_T40 l0 a1).f0)) := (blk_cell BK238.out 0).trans rfl
                            have hcz69_1 : w62.cell? ⟨gb238, 1, none⟩ = some (.int .i64 ((rd_T40 l0 a1).f1)) := (blk_cell BK238.out 1).trans rfl
                            have hcz69_2 : w62.cell? ⟨gb238, 2, none⟩ = some (.int .i64 ((rd_T40 l0 a1).f2)) := (blk_cell BK238.out 2).trans rfl
                            have hfz69_0 := blk_frozen BK238.out 0
                            have hfz69_1 := blk_frozen BK238.out 1
                            have hfz69_2 := blk_frozen BK238.out 2
                            have hnb70 := NB256_236.out
                            have hnc70 := NB236_256.out
                            have hcz71_0 : w62.cell? ⟨gb256, 0, none⟩ = some (.int .i64 0) := (blk_cell BK256.out 0).trans rfl
                            have hcz71_1 : w62.cell? ⟨gb256, 1, none⟩ = some (.int .i64 0) := (blk_cell BK256.out 1).trans rfl
                            have hcz71_2 : w62.cell? ⟨gb256, 2, none⟩ = some (.int .i64 0) := (blk_cell BK256.out 2).trans rfl
                            have hfz71_0 := blk_frozen BK256.out 0
                            have hfz71_1 := blk_frozen BK256.out 1
                            have hfz71_2 := blk_frozen BK256.out 2
                            go_wp2
                            go_meet
                            case rel => exact ⟨_, ((t252 == 2)), (by first | rfl | (simp; done) | (simp [*]; done)), H', ⟨by have := HJ42.out; have := HJ54.out; first | omega | exact Nat.le_refl _⟩, ⟨by (with_reducible repeat (first | refine blk_drewN ?_ _ | refine blk_drew ?_ | refine blk_alloc ?_ _)); refine blk_far ?_ NB236_256.out _; (with_reducible repeat (first | refine blk_drewN ?_ _ | refine blk_drew ?_ | refine blk_alloc ?_ _)); refine blk_far ?_ NB236_256.out _; (with_reducible repeat (first | refine blk_drewN ?_ _ | refine blk_drew ?_ | refine blk_alloc ?_ _)); refine blk_far ?_ NB236_256.out _; (with_reducible repeat (first | refine blk_drewN ?_ _ | refine blk_drew ?_ | refine blk_alloc ?_ _)); exact BK236.out⟩, ⟨by (with_reducible repeat (first | refine blk_drewN ?_ _ | refine blk_drew ?_ | refine blk_alloc ?_ _)); refine blk_far ?_ NB238_256.out _; (with_reducible repeat (first | refine blk_drewN ?_ _ | refine blk_drew ?_ | refine blk_alloc ?_ _)); refine blk_far ?_ NB238_256.out _; (with_reducible repeat (first | refine blk_drewN ?_ _ | refine blk_drew ?_ | refine blk_alloc ?_ _)); refine blk_far ?_ NB238_256.out _; (with_reducible repeat (first | refine blk_drewN ?_ _ | refine blk_drew ?_ | refine blk_alloc ?_ _)); exact BK238.out⟩, ⟨by (with_reducible repeat (first | refine blk_drewN ?_ _ | refine blk_drew ?_ | refine blk_alloc ?_ _)); refine blk_put (cs := #[.int .i64 t252, .int .i64 t253, .int .i64 0]) ?_ 2 _ rfl; (with_reducible repeat (first | refine blk_drewN ?_ _ | refine blk_drew ?_ | refine blk_alloc ?_ _)); refine blk_put (cs := #[.int .i64 t252, .int .i64 0, .int .i64 0]) ?_ 1 _ rfl; (with_reducible repeat (first | refine blk_drewN ?_ _ | refine blk_drew ?_ | refine blk_alloc ?_ _)); refine blk_put (cs := #[.int .i64 0, .int .i64 0, .int .i64 0]) ?_ 0 _ rfl; (with_reducible repeat (first | refine blk_drewN ?_ _ | refine blk_drew ?_ | refine blk_alloc ?_ _)); exact BK256.out⟩, ⟨by repeat (first | (with_reducible first | exact HB.out | apply below_alloc | apply pw_below_drewN | apply below_drew1 | refine below_set ?_ GE236.out | refine below_set ?_ GE238.out | refine below_set ?_ GE256.out) | exact HB.out)⟩⟩
                          · rw [if_neg c66] at H
                            have c66b0 : (((rd_T40 l0 a1).f0) == 14) = false := beq_eq_false_iff_ne.mpr c66
                            have c66b1 : (((rd_T40 l0 a1).f0) != 14) = true := bne_iff_ne.mpr c66
                            (first | rw [c66b0] | (simp only [i64_w, i32_w]; rw [c66b0]) | skip)
                            have H' := Aside0.mk H
                            clear H
                            have hnb72 := NB238_236.out
                            have hnc72 := NB236_238.out
                            have hnb73 := NB238_256.out
                            have hnc73 := NB256_238.out
                            have hcz74_0 : w62.cell? ⟨gb238, 0, none⟩ = some (.int .i64 ((rd_T40 l0 a1).f0)) := (blk_cell BK238.out 0).trans rfl
                            have hcz74_1 : w62.cell? ⟨gb238, 1, none⟩ = some (.int .i64 ((rd_T40 l0 a1).f1)) := (blk_cell BK238.out 1).trans rfl
                            have hcz74_2 : w62.cell? ⟨gb238, 2, none⟩ = some (.int .i64 ((rd_T40 l0 a1).f2)) := (blk_cell BK238.out 2).trans rfl
                            have hfz74_0 := blk_frozen BK238.out 0
                            have hfz74_1 := blk_frozen BK238.out 1
                            have hfz74_2 := blk_frozen BK238.out 2
                            go_wp2
                            go_meet
                            case rel => exact ⟨_, (false), (by first | rfl | (simp; done) | (simp [*]; done)), H', ⟨by have := HJ42.out; have := HJ54.out; first | omega | exact Nat.le_refl _⟩, ⟨by (with_reducible repeat (first | refine blk_drewN ?_ _ | refine blk_drew ?_ | refine blk_alloc ?_ _)); refine blk_far ?_ NB236_256.out _; (with_reducible repeat (first | refine blk_drewN ?_ _ | refine blk_drew ?_ | refine blk_alloc ?_ _)); refine blk_far ?_ NB236_256.out _; (with_reducible repeat (first | refine blk_drewN ?_ _ | refine blk_drew ?_ | refine blk_alloc ?_ _)); refine blk_far ?_ NB236_256.out _; (with_reducible repeat (first | refine blk_drewN ?_ _ | refine blk_drew ?_ | refine blk_alloc ?_ _)); exact BK236.out⟩, ⟨by (with_reducible repeat (first | refine blk_drewN ?_ _ | refine blk_drew ?_ | refine blk_alloc ?_ _)); refine blk_far ?_ NB238_256.out _; (with_reducible repeat (first | refine blk_drewN ?_ _ | refine blk_drew ?_ | refine blk_alloc ?_ _)); refine blk_far ?_ NB238_256.out _; (with_reducible repeat (first | refine blk_drewN ?_ _ | refine blk_drew ?_ | refine blk_alloc ?_ _)); refine blk_far ?_ NB238_256.out _; (with_reducible repeat (first | refine blk_drewN ?_ _ | refine blk_drew ?_ | refine blk_alloc ?_ _)); exact BK238.out⟩, ⟨by (with_reducible repeat (first | refine blk_drewN ?_ _ | refine blk_drew ?_ | refine blk_alloc ?_ _)); refine blk_put (cs := #[.int .i64 t252, .int .i64 t253, .int .i64 0]) ?_ 2 _ rfl; (with_reducible repeat (first | refine blk_drewN ?_ _ | refine blk_drew ?_ | refine blk_alloc ?_ _)); refine blk_put (cs := #[.int .i64 t252, .int .i64 0, .int .i64 0]) ?_ 1 _ rfl; (with_reducible repeat (first | refine blk_drewN ?_ _ | refine blk_drew ?_ | refine blk_alloc ?_ _)); refine blk_put (cs := #[.int .i64 0, .int .i64 0, .int .i64 0]) ?_ 0 _ rfl; (with_reducible repeat (first | refine blk_drewN ?_ _ | refine blk_drew ?_ | refine blk_alloc ?_ _)); exact BK256.out⟩, ⟨by repeat (first | (with_reducible first | exact HB.out | apply below_alloc | apply pw_below_drewN | apply below_drew1 | refine below_set ?_ GE236.out | refine below_set ?_ GE238.out | refine below_set ?_ GE256.out) | exact HB.out)⟩⟩
                        case rest =>
                          clear HC60
                          try clear c1
                          try clear c2
                          try clear p2
                          try clear q2
                          try clear hx2
                          try clear c3
                          try clear c4
                          try clear c5
                          try clear c6
                          try clear c6b0
                          try clear p6
                          try clear c7
                          try clear c7b0
                          try clear c8
                          try clear c8b0
                          try clear c8b1
                          try clear c9
                          try clear c12
                          try clear c16
                          try clear c16b0
                          try clear c16b1
                          try clear c20
                          try clear c22
                          try clear c23
                          try clear p23
                          try clear q23
                          try clear hx23
                          try clear p24
                          try clear q24
                          try clear hx24
                          try clear c25
                          try clear c28
                          try clear c30
                          try clear c31
                          try clear c33
                          try clear c33b0
                          try clear c34
                          try clear c34b0
                          try clear c36
                          try clear c40
                          try clear c46
                          try clear c48
                          try clear c48b0
                          try clear c48b1
                          try clear c49
                          try clear c51
                          try clear c56
                          try clear c56b0
                          try clear c56b1
                          try clear c57
                          try clear c58
                          try clear c59
                          try clear c59b0
                          try clear c59b1
                          try clear c63
                          try clear c64
                          try clear p64
                          try clear c66
                          try clear c66b0
                          try clear c66b1
                          try clear c67
                          try clear c68
                          try clear c70
                          try clear c72
                          try clear c73
                          try clear hcz13_0
                          try clear hcz13_1
                          try clear hcz13_2
                          try clear hcz15_0
                          try clear hcz15_1
                          try clear hcz15_2
                          try clear hcz21_0
                          try clear hcz21_1
                          try clear hcz21_2
                          try clear hcz24_0
                          try clear hcz24_1
                          try clear hcz24_2
                          try clear hcz29_0
                          try clear hcz29_1
                          try clear hcz29_2
                          try clear hcz32_0
                          try clear hcz32_1
                          try clear hcz32_2
                          try clear hcz37_0
                          try clear hcz37_1
                          try clear hcz37_2
                          try clear hcz39_0
                          try clear hcz39_1
                          try clear hcz39_2
                          try clear hcz41_0
                          try clear hcz41_1
                          try clear hcz41_2
                          try clear hcz42_0
                          try clear hcz42_1
                          try clear hcz42_2
                          try clear hcz47_0
                          try clear hcz47_1
                          try clear hcz47_2
                          try clear hcz52_0
                          try clear hcz52_1
                          try clear hcz52_2
                          try clear hcz54_0
                          try clear hcz54_1
                          try clear hcz54_2
                          try clear hcz65_0
                          try clear hcz65_1
                          try clear hcz65_2
                          try clear hcz69_0
                          try clear hcz69_1
                          try clear hcz69_2
                          try clear hcz71_0
                          try clear hcz71_1
                          try clear hcz71_2
                          try clear hcz74_0
                          try clear hcz74_1
                          try clear hcz74_2
                          try clear hfz13_0
                          try clear hfz13_1
                          try clear hfz13_2
                          try clear hfz15_0
                          try clear hfz15_1
                          try clear hfz15_2
                          try clear hfz21_0
                          try clear hfz21_1
                          try clear hfz21_2
                          try clear hfz24_0
                          try clear hfz24_1
                          try clear hfz24_2
                          try clear hfz29_0
                          try clear hfz29_1
                          try clear hfz29_2
                          try clear hfz32_0
                          try clear hfz32_1
                          try clear hfz32_2
                          try clear hfz37_0
                          try clear hfz37_1
                          try clear hfz37_2
                          try clear hfz39_0
                          try clear hfz39_1
                          try clear hfz39_2
                          try clear hfz41_0
                          try clear hfz41_1
                          try clear hfz41_2
                          try clear hfz42_0
                          try clear hfz42_1
                          try clear hfz42_2
                          try clear hfz47_0
                          try clear hfz47_1
                          try clear hfz47_2
                          try clear hfz52_0
                          try clear hfz52_1
                          try clear hfz52_2
                          try clear hfz54_0
                          try clear hfz54_1
                          try clear hfz54_2
                          try clear hfz65_0
                          try clear hfz65_1
                          try clear hfz65_2
                          try clear hfz69_0
                          try clear hfz69_1
                          try clear hfz69_2
                          try clear hfz71_0
                          try clear hfz71_1
                          try clear hfz71_2
                          try clear hfz74_0
                          try clear hfz74_1
                          try clear hfz74_2
                          try clear hx237_0
                          try clear hx237_1
                          try clear hx237_2
                          try clear hx245_0
                          try clear p2
                          try clear p23
                          try clear p237
                          try clear p24
                          try clear p245
                          try clear q2
                          try clear q23
                          try clear q237
                          try clear q24
                          try clear q245
                          obtain ⟨kq, x95_59, rfl, HA, HJ59, BK236, BK238, BK256, HB⟩ := hcut
                          cases kq with
                          | zero => exact absurd HA.out (by simp [spinetref04_End.j3])
                          | succ kj59 =>
                            have H := HA.out
                            clear HA
                            simp only [spinetref04_End.j3] at H
                            by_cases c75 : x95_59 = true
                            · subst c75
                              have H1 : ((spinetref04_truth.f (t253 == 0)).bind fun bt257 => (some (bt257.1, bt257.2.1, bt257.2.2, t255))) = some (r1, r2, r3, r4) := by rw [if_pos rfl] at H; exact H
                              clear H
                              have H := H1
                              clear H1
                              replace H := Option.bind_eq_some_iff.mp H
                              obtain ⟨⟨t257, t258, t259⟩, A760, H⟩ := H
                              replace H : (some (t257, t258, t259, t255)) = some (r1, r2, r3, r4) := H
                              have A76 := Aside0.mk A760
                              clear A760
                              simp only [Option.some.injEq, Prod.mk.injEq] at H
                              obtain ⟨rfl, rfl, rfl, rfl⟩ := H
                              have hnb77 := NB256_236.out
                              have hnc77 := NB236_256.out
                              have hnb78 := NB256_238.out
                              have hnc78 := NB238_256.out
                              have hcz79_0 : wc.cell? ⟨gb256, 0, none⟩ = some (.int .i64 t252) := (blk_cell BK256.out 0).trans rfl
                              have hcz79_1 : wc.cell? ⟨gb256, 1, none⟩ = some (.int .i64 t253) := (blk_cell BK256.out 1).trans rfl
                              have hcz79_2 : wc.cell? ⟨gb256, 2, none⟩ = some (.int .i64 t254) := (blk_cell BK256.out 2).trans rfl
                              have hfz79_0 := blk_frozen BK256.out 0
                              have hfz79_1 := blk_frozen BK256.out 1
                              have hfz79_2 := blk_frozen BK256.out 2
                              go_wp2_with (first | ((with_reducible refine gate_callee (f := 90) rfl ?_); refine goesL_ (some 100) rfl rfl Tryd.func90 (by kernel_rfl) rfl #[.bool (t253 == 0)] rfl (by (try simp only [List.map_toArray, List.map_cons, List.map_nil]); first | done | rfl | (simp only [List.length_drop, List.length_take]; rfl)) ?_; (with_reducible refine (spinetref04_truth.calls (t253 == 0) t257 t258 t259 _ A76.out).mono ?_); rintro e w80 ⟨rfl, hb⟩; refine ⟨_, rfl, ?_⟩; have n0_ := Aside0.mk (blk_below (g := gb236) (o := .cells #[.int .i64 0, .int .i64 0, .int .i64 0] 101 (0, 0)) (by (with_reducible repeat (first | refine blk_drewN ?_ _ | refine blk_drew ?_ | refine blk_alloc ?_ _)); exact BK236.out) hb); have n1_ := Aside0.mk (blk_below (g := gb238) (o := .cells #[.int .i64 ((rd_T40 l0 a1).f0), .int .i64 ((rd_T40 l0 a1).f1), .int .i64 ((rd_T40 l0 a1).f2)] 40 (0, 0)) (by (with_reducible repeat (first | refine blk_drewN ?_ _ | refine blk_drew ?_ | refine blk_alloc ?_ _)); exact BK238.out) hb); have n2_ := Aside0.mk (blk_below (g := gb256) (o := .cells #[.int .i64 t252, .int .i64 t253, .int .i64 t254] 101 (0, 0)) (by (with_reducible repeat (first | refine blk_drewN ?_ _ | refine blk_drew ?_ | refine blk_alloc ?_ _)); exact BK256.out) hb); have n3_ := Aside0.mk (below_step (by repeat (first | (with_reducible first | exact HB.out | apply below_alloc | apply pw_below_drewN | apply below_drew1 | refine below_set ?_ GE236.out | refine below_set ?_ GE238.out | refine below_set ?_ GE256.out) | exact HB.out)) hb); clear BK236; clear BK238; clear BK256; clear HB; have BK236 := n0_; have BK238 := n1_; have BK256 := n2_; have HB := n3_; clear n0_ n1_ n2_ n3_; (try clear hb); (try clear hb2); (try clear hk); (try clear hi); have hnb81 := NB236_238.out; have hnc81 := NB238_236.out; have hcz82_0 : w80.cell? ⟨gb236, 0, none⟩ = some (.int .i64 0) := (blk_cell BK236.out 0).trans rfl; have hcz82_1 : w80.cell? ⟨gb236, 1, none⟩ = some (.int .i64 0) := (blk_cell BK236.out 1).trans rfl; have hcz82_2 : w80.cell? ⟨gb236, 2, none⟩ = some (.int .i64 0) := (blk_cell BK236.out 2).trans rfl; have hfz82_0 := blk_frozen BK236.out 0; have hfz82_1 := blk_frozen BK236.out 1; have hfz82_2 := blk_frozen BK236.out 2))
                              refine bodyPost_ret (results_ct rfl _ _ gb236 101 #[.int .i64 t257, .int .i64 t258, .int .i64 t259] (0, 0) _ rfl (by (with_reducible repeat (first | refine blk_drewN ?_ _ | refine blk_drew ?_ | refine blk_alloc ?_ _)); refine blk_put (cs := #[.int .i64 t257, .int .i64 t258, .int .i64 0]) ?_ 2 _ rfl; (with_reducible repeat (first | refine blk_drewN ?_ _ | refine blk_drew ?_ | refine blk_alloc ?_ _)); refine blk_put (cs := #[.int .i64 t257, .int .i64 0, .int .i64 0]) ?_ 1 _ rfl; (with_reducible repeat (first | refine blk_drewN ?_ _ | refine blk_drew ?_ | refine blk_alloc ?_ _)); refine blk_put (cs := #[.int .i64 0, .int .i64 0, .int .i64 0]) ?_ 0 _ rfl; (with_reducible repeat (first | refine blk_drewN ?_ _ | refine blk_drew ?_ | refine blk_alloc ?_ _)); exact BK236.out) Tryd.underlying101 rfl (by kernel_rfl)) rfl ?_
                              exact ⟨by first | rfl | (simp [errW_none, errW_some] <;> rfl) | (simp [*, errW_none, errW_some] <;> rfl), by repeat (first | (with_reducible first | exact HB.out | apply below_alloc | apply pw_below_drewN | apply below_drew1 | refine below_set ?_ GE236.out | refine below_set ?_ GE238.out | refine below_set ?_ GE256.out) | exact HB.out)⟩
                            · replace c75 := Bool.eq_false_iff.mpr c75
                              subst c75
                              have H1 : (if ((rd_T40 l0 a1).f0) = 19 then (spinetref04_End.j4 kj59 t255 (t252 == 1) t252 t253 t254) else (spinetref04_End.j4 kj59 t255 false t252 t253 t254)) = some (r1, r2, r3, r4) := by rw [if_neg (show ¬ (false = true) by decide)] at H; exact H
                              clear H
                              have H := H1
                              clear H1
                              have HC83 := Aside0.mk H
                              clear H
                              go_upto_region 21 with (fail)
                              go_cut [110] (fun v110 wc => ∃ (kq : Nat) (x110_82 : Bool), v110 = .bool x110_82 ∧ Aside0 (spinetref04_End.j4 kq t255 x110_82 t252 t253 t254 = some (r1, r2, r3, r4)) ∧ Aside0 (kq ≤ kj59) ∧ Aside0 (wc.heap[gb236]? = some (.cells #[.int .i64 0, .int .i64 0, .int .i64 0] 101 (0, 0))) ∧ Aside0 (wc.heap[gb238]? = some (.cells #[.int .i64 ((rd_T40 l0 a1).f0), .int .i64 ((rd_T40 l0 a1).f1), .int .i64 ((rd_T40 l0 a1).f2)] 40 (0, 0))) ∧ Aside0 (wc.heap[gb256]? = some (.cells #[.int .i64 t252, .int .i64 t253, .int .i64 t254] 101 (0, 0))) ∧ Aside0 (Below w.heap.size w wc))
                              case first =>
                                have H := HC83.out
                                clear HC83
                                by_cases c84 : ((rd_T40 l0 a1).f0) = 19
                                · rw [if_pos c84] at H
                                  have c84b0 : (((rd_T40 l0 a1).f0) == 19) = true := beq_iff_eq.mpr c84
                                  have c84b1 : (((rd_T40 l0 a1).f0) != 19) = false := bne_eq_false_iff_eq.mpr c84
                                  clear c84
                                  (first | rw [c84b0] | (simp only [i64_w, i32_w]; rw [c84b0]) | skip)
                                  have H' := Aside0.mk H
                                  clear H
                                  have hnb85 := NB238_236.out
                                  have hnc85 := NB236_238.out
                                  have hnb86 := NB238_256.out
                                  have hnc86 := NB256_238.out
                                  have hcz87_0 : wc.cell? ⟨gb238, 0, none⟩ = some (.int .i64 ((rd_T40 l0 a1).f0)) := (blk_cell BK238.out 0).trans rfl
                                  have hcz87_1 : wc.cell? ⟨gb238, 1, none⟩ = some (.int .i64 ((rd_T40 l0 a1).f1)) := (blk_cell BK238.out 1).trans rfl
                                  have hcz87_2 : wc.cell? ⟨gb238, 2, none⟩ = some (.int .i64 ((rd_T40 l0 a1).f2)) := (blk_cell BK238.out 2).trans rfl
                                  have hfz87_0 := blk_frozen BK238.out 0
                                  have hfz87_1 := blk_frozen BK238.out 1
                                  have hfz87_2 := blk_frozen BK238.out 2
                                  have hnb88 := NB256_236.out
                                  have hnc88 := NB236_256.out
                                  have hcz89_0 : wc.cell? ⟨gb256, 0, none⟩ = some (.int .i64 t252) := (blk_cell BK256.out 0).trans rfl
                                  have hcz89_1 : wc.cell? ⟨gb256, 1, none⟩ = some (.int .i64 t253) := (blk_cell BK256.out 1).trans rfl
                                  have hcz89_2 : wc.cell? ⟨gb256, 2, none⟩ = some (.int .i64 t254) := (blk_cell BK256.out 2).trans rfl
                                  have hfz89_0 := blk_frozen BK256.out 0
                                  have hfz89_1 := blk_frozen BK256.out 1
                                  have hfz89_2 := blk_frozen BK256.out 2
                                  go_wp2
                                  go_meet
                                  case rel => exact ⟨_, ((t252 == 1)), (by first | rfl | (simp; done) | (simp [*]; done)), H', ⟨by have := HJ42.out; have := HJ54.out; have := HJ59.out; first | omega | exact Nat.le_refl _⟩, ⟨by (with_reducible repeat (first | refine blk_drewN ?_ _ | refine blk_drew ?_ | refine blk_alloc ?_ _)); exact BK236.out⟩, ⟨by (with_reducible repeat (first | refine blk_drewN ?_ _ | refine blk_drew ?_ | refine blk_alloc ?_ _)); exact BK238.out⟩, ⟨by (with_reducible repeat (first | refine blk_drewN ?_ _ | refine blk_drew ?_ | refine blk_alloc ?_ _)); exact BK256.out⟩, ⟨by repeat (first | (with_reducible first | exact HB.out | apply below_alloc | apply pw_below_drewN | apply below_drew1 | refine below_set ?_ GE236.out | refine below_set ?_ GE238.out | refine below_set ?_ GE256.out) | exact HB.out)⟩⟩
                                · rw [if_neg c84] at H
                                  have c84b0 : (((rd_T40 l0 a1).f0) == 19) = false := beq_eq_false_iff_ne.mpr c84
                                  have c84b1 : (((rd_T40 l0 a1).f0) != 19) = true := bne_iff_ne.mpr c84
                                  (first | rw [c84b0] | (simp only [i64_w, i32_w]; rw [c84b0]) | skip)
                                  have H' := Aside0.mk H
                                  clear H
                                  have hnb90 := NB238_236.out
                                  have hnc90 := NB236_238.out
                                  have hnb91 := NB238_256.out
                                  have hnc91 := NB256_238.out
                                  have hcz92_0 : wc.cell? ⟨gb238, 0, none⟩ = some (.int .i64 ((rd_T40 l0 a1).f0)) := (blk_cell BK238.out 0).trans rfl
                                  have hcz92_1 : wc.cell? ⟨gb238, 1, none⟩ = some (.int .i64 ((rd_T40 l0 a1).f1)) := (blk_cell BK238.out 1).trans rfl
                                  have hcz92_2 : wc.cell? ⟨gb238, 2, none⟩ = some (.int .i64 ((rd_T40 l0 a1).f2)) := (blk_cell BK238.out 2).trans rfl
                                  have hfz92_0 := blk_frozen BK238.out 0
                                  have hfz92_1 := blk_frozen BK238.out 1
                                  have hfz92_2 := blk_frozen BK238.out 2
                                  go_wp2
                                  go_meet
                                  case rel => exact ⟨_, (false), (by first | rfl | (simp; done) | (simp [*]; done)), H', ⟨by have := HJ42.out; have := HJ54.out; have := HJ59.out; first | omega | exact Nat.le_refl _⟩, ⟨by (with_reducible repeat (first | refine blk_drewN ?_ _ | refine blk_drew ?_ | refine blk_alloc ?_ _)); exact BK236.out⟩, ⟨by (with_reducible repeat (first | refine blk_drewN ?_ _ | refine blk_drew ?_ | refine blk_alloc ?_ _)); exact BK238.out⟩, ⟨by (with_reducible repeat (first | refine blk_drewN ?_ _ | refine blk_drew ?_ | refine blk_alloc ?_ _)); exact BK256.out⟩, ⟨by repeat (first | (with_reducible first | exact HB.out | apply below_alloc | apply pw_below_drewN | apply below_drew1 | refine below_set ?_ GE236.out | refine below_set ?_ GE238.out | refine below_set ?_ GE256.out) | exact HB.out)⟩⟩
                              case rest =>
                                clear HC83
                                try clear c1
                                try clear c2
                                try clear p2
                                try clear q2
                                try clear hx2
                                try clear c3
                                try clear c4
                                try clear c5
                                try clear c6
                                try clear c6b0
                                try clear p6
                                try clear c7
                                try clear c7b0
                                try clear c8
                                try clear c8b0
                                try clear c8b1
                                try clear c9
                                try clear c12
                                try clear c16
                                try clear c16b0
                                try clear c16b1
                                try clear c20
                                try clear c22
                                try clear c23
                                try clear p23
                                try clear q23
                                try clear hx23
                                try clear p24
                                try clear q24
                                try clear hx24
                                try clear c25
                                try clear c28
                                try clear c30
                                try clear c31
                                try clear c33
                                try clear c33b0
                                try clear c34
                                try clear c34b0
                                try clear c36
                                try clear c40
                                try clear c46
                                try clear c48
                                try clear c48b0
                                try clear c48b1
                                try clear c49
                                try clear c51
                                try clear c56
                                try clear c56b0
                                try clear c56b1
                                try clear c57
                                try clear c58
                                try clear c59
                                try clear c59b0
                                try clear c59b1
                                try clear c63
                                try clear c64
                                try clear p64
                                try clear c66
                                try clear c66b0
                                try clear c66b1
                                try clear c67
                                try clear c68
                                try clear c70
                                try clear c72
                                try clear c73
                                try clear c75
                                try clear c77
                                try clear c78
                                try clear c81
                                try clear c84
                                try clear c84b0
                                try clear c84b1
                                try clear c85
                                try clear c86
                                try clear c88
                                try clear c90
                                try clear c91
                                try clear hcz13_0
                                try clear hcz13_1
                                try clear hcz13_2
                                try clear hcz15_0
                                try clear hcz15_1
                                try clear hcz15_2
                                try clear hcz21_0
                                try clear hcz21_1
                                try clear hcz21_2
                                try clear hcz24_0
                                try clear hcz24_1
                                try clear hcz24_2
                                try clear hcz29_0
                                try clear hcz29_1
                                try clear hcz29_2
                                try clear hcz32_0
                                try clear hcz32_1
                                try clear hcz32_2
                                try clear hcz37_0
                                try clear hcz37_1
                                try clear hcz37_2
                                try clear hcz39_0
                                try clear hcz39_1
                                try clear hcz39_2
                                try clear hcz41_0
                                try clear hcz41_1
                                try clear hcz41_2
                                try clear hcz42_0
                                try clear hcz42_1
                                try clear hcz42_2
                                try clear hcz47_0
                                try clear hcz47_1
                                try clear hcz47_2
                                try clear hcz52_0
                                try clear hcz52_1
                                try clear hcz52_2
                                try clear hcz54_0
                                try clear hcz54_1
                                try clear hcz54_2
                                try clear hcz65_0
                                try clear hcz65_1
                                try clear hcz65_2
                                try clear hcz69_0
                                try clear hcz69_1
                                try clear hcz69_2
                                try clear hcz71_0
                                try clear hcz71_1
                                try clear hcz71_2
                                try clear hcz74_0
                                try clear hcz74_1
                                try clear hcz74_2
                                try clear hcz79_0
                                try clear hcz79_1
                                try clear hcz79_2
                                try clear hcz82_0
                                try clear hcz82_1
                                try clear hcz82_2
                                try clear hcz87_0
                                try clear hcz87_1
                                try clear hcz87_2
                                try clear hcz89_0
                                try clear hcz89_1
                                try clear hcz89_2
                                try clear hcz92_0
                                try clear hcz92_1
                                try clear hcz92_2
                                try clear hfz13_0
                                try clear hfz13_1
                                try clear hfz13_2
                                try clear hfz15_0
                                try clear hfz15_1
                                try clear hfz15_2
                                try clear hfz21_0
                                try clear hfz21_1
                                try clear hfz21_2
                                try clear hfz24_0
                                try clear hfz24_1
                                try clear hfz24_2
                                try clear hfz29_0
                                try clear hfz29_1
                                try clear hfz29_2
                                try clear hfz32_0
                                try clear hfz32_1
                                try clear hfz32_2
                                try clear hfz37_0
                                try clear hfz37_1
                                try clear hfz37_2
                                try clear hfz39_0
                                try clear hfz39_1
                                try clear hfz39_2
                                try clear hfz41_0
                                try clear hfz41_1
                                try clear hfz41_2
                                try clear hfz42_0
                                try clear hfz42_1
                                try clear hfz42_2
                                try clear hfz47_0
                                try clear hfz47_1
                                try clear hfz47_2
                                try clear hfz52_0
                                try clear hfz52_1
                                try clear hfz52_2
                                try clear hfz54_0
                                try clear hfz54_1
                                try clear hfz54_2
                                try clear hfz65_0
                                try clear hfz65_1
                                try clear hfz65_2
                                try clear hfz69_0
                                try clear hfz69_1
                                try clear hfz69_2
                                try clear hfz71_0
                                try clear hfz71_1
                                try clear hfz71_2
                                try clear hfz74_0
                                try clear hfz74_1
                                try clear hfz74_2
                                try clear hfz79_0
                                try clear hfz79_1
                                try clear hfz79_2
                                try clear hfz82_0
                                try clear hfz82_1
                                try clear hfz82_2
                                try clear hfz87_0
                                try clear hfz87_1
                                try clear hfz87_2
                                try clear hfz89_0
                                try clear hfz89_1
                                try clear hfz89_2
                                try clear hfz92_0
                                try clear hfz92_1
                                try clear hfz92_2
                                try clear hx237_0
                                try clear hx237_1
                                try clear hx237_2
                                try clear hx245_0
                                try clear p2
                                try clear p23
                                try clear p237
                                try clear p24
                                try clear p245
                                try clear p6
                                try clear p64
                                try clear q2
                                try clear q23
                                try clear q237
                                try clear q24
                                try clear q245
                                obtain ⟨kq, x110_82, rfl, HA, HJ82, BK236, BK238, BK256, HB⟩ := hcut
                                cases kq with
                                | zero => exact absurd HA.out (by simp [spinetref04_End.j4])
                                | succ kj82 =>
                                  have H := HA.out
                                  clear HA
                                  simp only [spinetref04_End.j4] at H
                                  by_cases c93 : x110_82 = true
                                  · subst c93
                                    have H1 : ((spinetref01_Sub.f 0 t253).bind fun t260 => ((spinetref04_whole.f t260).bind fun bt261 => (some (bt261.1, bt261.2.1, bt261.2.2, t255)))) = some (r1, r2, r3, r4) := by rw [if_pos rfl] at H; exact H
                                    clear H
                                    have H := H1
                                    clear H1
                                    replace H := Option.bind_eq_some_iff.mp H
                                    obtain ⟨t260, A940, H⟩ := H
                                    replace H : ((spinetref04_whole.f t260).bind fun bt261 => (some (bt261.1, bt261.2.1, bt261.2.2, t255))) = some (r1, r2, r3, r4) := H
                                    have A94 := Aside0.mk A940
                                    clear A940
                                    replace H := Option.bind_eq_some_iff.mp H
                                    obtain ⟨⟨t261, t262, t263⟩, A950, H⟩ := H
                                    replace H : (some (t261, t262, t263, t255)) = some (r1, r2, r3, r4) := H
                                    have A95 := Aside0.mk A950
                                    clear A950
                                    simp only [Option.some.injEq, Prod.mk.injEq] at H
                                    obtain ⟨rfl, rfl, rfl, rfl⟩ := H
                                    have hnb96 := NB256_236.out
                                    have hnc96 := NB236_256.out
                                    have hnb97 := NB256_238.out
                                    have hnc97 := NB238_256.out
                                    have hcz98_0 : wc.cell? ⟨gb256, 0, none⟩ = some (.int .i64 t252) := (blk_cell BK256.out 0).trans rfl
                                    have hcz98_1 : wc.cell? ⟨gb256, 1, none⟩ = some (.int .i64 t253) := (blk_cell BK256.out 1).trans rfl
                                    have hcz98_2 : wc.cell? ⟨gb256, 2, none⟩ = some (.int .i64 t254) := (blk_cell BK256.out 2).trans rfl
                                    have hfz98_0 := blk_frozen BK256.out 0
                                    have hfz98_1 := blk_frozen BK256.out 1
                                    have hfz98_2 := blk_frozen BK256.out 2
                                    go_wp2_with (first | ((with_reducible refine gate_callee (f := 91) rfl ?_); refine goesL_ (some 114) rfl rfl Tryd.func91 (by kernel_rfl) rfl #[.int .i64 0, .int .i64 t253] rfl (by (try simp only [List.map_toArray, List.map_cons, List.map_nil]); first | done | rfl | (simp only [List.length_drop, List.length_take]; rfl)) ?_; (with_reducible refine (spinetref01_Sub.calls 0 t253 t260 _ A94.out).mono ?_); rintro e w' ⟨rfl, ⟨nd, rfl⟩⟩; refine ⟨_, rfl, ?_⟩; (try (rw [drewN_self wc]; generalize hq_ : World.drewN wc _ = wc; have n0_ : Aside0 (wc.heap[gb236]? = some (.cells #[.int .i64 0, .int .i64 0, .int .i64 0] 101 (0, 0))) := ⟨by rw [← hq_]; exact (by (with_reducible repeat (first | refine blk_drewN ?_ _ | refine blk_drew ?_ | refine blk_alloc ?_ _)); exact BK236.out)⟩; have n1_ : Aside0 (wc.heap[gb238]? = some (.cells #[.int .i64 ((rd_T40 l0 a1).f0), .int .i64 ((rd_T40 l0 a1).f1), .int .i64 ((rd_T40 l0 a1).f2)] 40 (0, 0))) := ⟨by rw [← hq_]; exact (by (with_reducible repeat (first | refine blk_drewN ?_ _ | refine blk_drew ?_ | refine blk_alloc ?_ _)); exact BK238.out)⟩; have n2_ : Aside0 (wc.heap[gb256]? = some (.cells #[.int .i64 t252, .int .i64 t253, .int .i64 t254] 101 (0, 0))) := ⟨by rw [← hq_]; exact (by (with_reducible repeat (first | refine blk_drewN ?_ _ | refine blk_drew ?_ | refine blk_alloc ?_ _)); exact BK256.out)⟩; have n3_ : Aside0 (Below w.heap.size w wc) := ⟨by rw [← hq_]; exact (by repeat (first | (with_reducible first | exact HB.out | apply below_alloc | apply pw_below_drewN | apply below_drew1 | refine below_set ?_ GE236.out | refine below_set ?_ GE238.out | refine below_set ?_ GE256.out) | exact HB.out))⟩; clear BK236 BK238 BK256 HB hq_; have BK236 := n0_; have BK238 := n1_; have BK256 := n2_; have HB := n3_; clear n0_ n1_ n2_ n3_))) | ((with_reducible refine gate_callee (f := 89) rfl ?_); refine goesL_ (some 115) rfl rfl Tryd.func89 (by kernel_rfl) rfl #[.int .i64 t260] rfl (by (try simp only [List.map_toArray, List.map_cons, List.map_nil]); first | done | rfl | (simp only [List.length_drop, List.length_take]; rfl)) ?_; (with_reducible refine (spinetref04_whole.calls t260 t261 t262 t263 _ A95.out).mono ?_); rintro e w99 ⟨rfl, hb⟩; refine ⟨_, rfl, ?_⟩; have n0_ := Aside0.mk (blk_below (g := gb236) (o := .cells #[.int .i64 0, .int .i64 0, .int .i64 0] 101 (0, 0)) (by (with_reducible repeat (first | refine blk_drewN ?_ _ | refine blk_drew ?_ | refine blk_alloc ?_ _)); exact BK236.out) hb); have n1_ := Aside0.mk (blk_below (g := gb238) (o := .cells #[.int .i64 ((rd_T40 l0 a1).f0), .int .i64 ((rd_T40 l0 a1).f1), .int .i64 ((rd_T40 l0 a1).f2)] 40 (0, 0)) (by (with_reducible repeat (first | refine blk_drewN ?_ _ | refine blk_drew ?_ | refine blk_alloc ?_ _)); exact BK238.out) hb); have n2_ := Aside0.mk (blk_below (g := gb256) (o := .cells #[.int .i64 t252, .int .i64 t253, .int .i64 t254] 101 (0, 0)) (by (with_reducible repeat (first | refine blk_drewN ?_ _ | refine blk_drew ?_ | refine blk_alloc ?_ _)); exact BK256.out) hb); have n3_ := Aside0.mk (below_step (by repeat (first | (with_reducible first | exact HB.out | apply below_alloc | apply pw_below_drewN | apply below_drew1 | refine below_set ?_ GE236.out | refine below_set ?_ GE238.out | refine below_set ?_ GE256.out) | exact HB.out)) hb); clear BK236; clear BK238; clear BK256; clear HB; have BK236 := n0_; have BK238 := n1_; have BK256 := n2_; have HB := n3_; clear n0_ n1_ n2_ n3_; (try clear hb); (try clear hb2); (try clear hk); (try clear hi); have hnb100 := NB236_238.out; have hnc100 := NB238_236.out; have hcz101_0 : w99.cell? ⟨gb236, 0, none⟩ = some (.int .i64 0) := (blk_cell BK236.out 0).trans rfl; have hcz101_1 : w99.cell? ⟨gb236, 1, none⟩ = some (.int .i64 0) := (blk_cell BK236.out 1).trans rfl; have hcz101_2 : w99.cell? ⟨gb236, 2, none⟩ = some (.int .i64 0) := (blk_cell BK236.out 2).trans rfl; have hfz101_0 := blk_frozen BK236.out 0; have hfz101_1 := blk_frozen BK236.out 1; have hfz101_2 := blk_frozen BK236.out 2))
                                    refine bodyPost_ret (results_ct rfl _ _ gb236 101 #[.int .i64 t261, .int .i64 t262, .int .i64 t263] (0, 0) _ rfl (by (with_reducible repeat (first | refine blk_drewN ?_ _ | refine blk_drew ?_ | refine blk_alloc ?_ _)); refine blk_put (cs := #[.int .i64 t261, .int .i64 t262, .int .i64 0]) ?_ 2 _ rfl; (with_reducible repeat (first | refine blk_drewN ?_ _ | refine blk_drew ?_ | refine blk_alloc ?_ _)); refine blk_put (cs := #[.int .i64 t261, .int .i64 0, .int .i64 0]) ?_ 1 _ rfl; (with_reducible repeat (first | refine blk_drewN ?_ _ | refine blk_drew ?_ | refine blk_alloc ?_ _)); refine blk_put (cs := #[.int .i64 0, .int .i64 0, .int .i64 0]) ?_ 0 _ rfl; (with_reducible repeat (first | refine blk_drewN ?_ _ | refine blk_drew ?_ | refine blk_alloc ?_ _)); exact BK236.out) Tryd.underlying101 rfl (by kernel_rfl)) rfl ?_
                                    exact ⟨by first | rfl | (simp [errW_none, errW_some] <;> rfl) | (simp [*, errW_none, errW_some] <;> rfl), by repeat (first | (with_reducible first | exact HB.out | apply below_alloc | apply pw_below_drewN | apply below_drew1 | refine below_set ?_ GE236.out | refine below_set ?_ GE238.out | refine below_set ?_ GE256.out) | exact HB.out)⟩
                                  · replace c93 := Bool.eq_false_iff.mpr c93
                                    subst c93
                                    have H1 : (some (0, 0, 8, t255)) = some (r1, r2, r3, r4) := by rw [if_neg (show ¬ (false = true) by decide)] at H; exact H
                                    clear H
                                    have H := H1
                                    clear H1
                                    simp only [Option.some.injEq, Prod.mk.injEq] at H
                                    obtain ⟨rfl, rfl, rfl, rfl⟩ := H
                                    have hnb102 := NB236_238.out
                                    have hnc102 := NB238_236.out
                                    have hnb103 := NB236_256.out
                                    have hnc103 := NB256_236.out
                                    have hcz104_0 : wc.cell? ⟨gb236, 0, none⟩ = some (.int .i64 0) := (blk_cell BK236.out 0).trans rfl
                                    have hcz104_1 : wc.cell? ⟨gb236, 1, none⟩ = some (.int .i64 0) := (blk_cell BK236.out 1).trans rfl
                                    have hcz104_2 : wc.cell? ⟨gb236, 2, none⟩ = some (.int .i64 0) := (blk_cell BK236.out 2).trans rfl
                                    have hfz104_0 := blk_frozen BK236.out 0
                                    have hfz104_1 := blk_frozen BK236.out 1
                                    have hfz104_2 := blk_frozen BK236.out 2
                                    go_wp2
                                    refine bodyPost_ret (results_ct rfl _ _ gb236 101 #[.int .i64 0, .int .i64 0, .int .i64 8] (0, 0) _ rfl (by (with_reducible repeat (first | refine blk_drewN ?_ _ | refine blk_drew ?_ | refine blk_alloc ?_ _)); refine blk_put (cs := #[.int .i64 0, .int .i64 0, .int .i64 0]) ?_ 2 _ rfl; (with_reducible repeat (first | refine blk_drewN ?_ _ | refine blk_drew ?_ | refine blk_alloc ?_ _)); refine blk_put (cs := #[.int .i64 0, .int .i64 0, .int .i64 0]) ?_ 1 _ rfl; (with_reducible repeat (first | refine blk_drewN ?_ _ | refine blk_drew ?_ | refine blk_alloc ?_ _)); refine blk_put (cs := #[.int .i64 0, .int .i64 0, .int .i64 0]) ?_ 0 _ rfl; (with_reducible repeat (first | refine blk_drewN ?_ _ | refine blk_drew ?_ | refine blk_alloc ?_ _)); exact BK236.out) Tryd.underlying101 rfl (by kernel_rfl)) rfl ?_
                                    exact ⟨by first | rfl | (simp [errW_none, errW_some] <;> rfl) | (simp [*, errW_none, errW_some] <;> rfl), by repeat (first | (with_reducible first | exact HB.out | apply below_alloc | apply pw_below_drewN | apply below_drew1 | refine below_set ?_ GE236.out | refine below_set ?_ GE238.out | refine below_set ?_ GE256.out) | exact HB.out)⟩
                      · rw [if_neg c59] at H
                        have c59b0 : (t254 == 0) = false := beq_eq_false_iff_ne.mpr c59
                        have c59b1 : (t254 != 0) = true := bne_iff_ne.mpr c59
                        simp only [Option.some.injEq, Prod.mk.injEq] at H
                        obtain ⟨rfl, rfl, rfl, rfl⟩ := H
                        go_wp2_with (first | ((with_reducible refine gate_callee (f := 58) rfl ?_); refine goesL_ (some 79) rfl rfl Tryd.func58 (by kernel_rfl) rfl #[.slice (some ad237) l0.length c0, .int .i64 (wrap64 (a1 - 1)), .slice A2 l2.length c2, .int .i64 a3, .bool a4] rfl (by (try simp only [List.map_toArray, List.map_cons, List.map_nil]); first | done | rfl | (simp only [List.length_drop, List.length_take]; rfl)) ?_; (with_reducible refine (ih kj54 (by have := HJ42.out; have := HJ54.out; omega) _ _ l0 (wrap64 (a1 - 1)) _ _ l2 a3 a4 t252 t253 t254 t255 _ ?side1 ?side2 ?side3 ?side4 A58.out).mono ?_); (case side1 => repeat (first | exact (Kd.C_below HR0.out HB.out) | (with_reducible refine Kd.C_alloc ?_ _) | (with_reducible refine Kd.C_drewN ?_ _) | (with_reducible refine Kd.C_drew ?_))); (case side2 => exact HC0.out); (case side3 => repeat (first | exact (Kd.C_below HR2.out HB.out) | (with_reducible refine Kd.C_alloc ?_ _) | (with_reducible refine Kd.C_drewN ?_ _) | (with_reducible refine Kd.C_drew ?_))); (case side4 => exact HC2.out); rintro e w105 ⟨rfl, hb⟩; refine ⟨_, rfl, ?_⟩; have n0_ := Aside0.mk (blk_below (g := gb236) (o := .cells #[.int .i64 0, .int .i64 0, .int .i64 0] 101 (0, 0)) (by (with_reducible repeat (first | refine blk_drewN ?_ _ | refine blk_drew ?_ | refine blk_alloc ?_ _)); exact BK236.out) hb); have n1_ := Aside0.mk (blk_below (g := gb238) (o := .cells #[.int .i64 ((rd_T40 l0 a1).f0), .int .i64 ((rd_T40 l0 a1).f1), .int .i64 ((rd_T40 l0 a1).f2)] 40 (0, 0)) (by (with_reducible repeat (first | refine blk_drewN ?_ _ | refine blk_drew ?_ | refine blk_alloc ?_ _)); exact BK238.out) hb); have n2_ := Aside0.mk (below_step (by repeat (first | (with_reducible first | exact HB.out | apply below_alloc | apply pw_below_drewN | apply below_drew1 | refine below_set ?_ GE236.out | refine below_set ?_ GE238.out) | exact HB.out)) hb); clear BK236; clear BK238; clear HB; have BK236 := n0_; have BK238 := n1_; have HB := n2_; clear n0_ n1_ n2_; (try clear hb); (try clear hb2); (try clear hk); (try clear hi)) | ((with_reducible refine gate_dst (N := 13) rfl ?_); (try (refine gate_guard (by rfl) ?_; dsimp only)); refine box_event ?hg (N := 13) ?hd (cs := #[.int .i64 0, .int .i64 0, .int .i64 0]) (t := 101) ?hr ?_; (case hd => rfl); (case hg => rfl); (case hr => first | (go_simp; done) | (go_simp; rfl)); intro gb256 hg w106 hbox hb; have n0_ := Aside0.mk (blk_below (g := gb236) (o := .cells #[.int .i64 0, .int .i64 0, .int .i64 0] 101 (0, 0)) (by (with_reducible repeat (first | refine blk_drewN ?_ _ | refine blk_drew ?_ | refine blk_alloc ?_ _)); exact BK236.out) hb); have n1_ := Aside0.mk (blk_below (g := gb238) (o := .cells #[.int .i64 ((rd_T40 l0 a1).f0), .int .i64 ((rd_T40 l0 a1).f1), .int .i64 ((rd_T40 l0 a1).f2)] 40 (0, 0)) (by (with_reducible repeat (first | refine blk_drewN ?_ _ | refine blk_drew ?_ | refine blk_alloc ?_ _)); exact BK238.out) hb); have n2_ := Aside0.mk (below_step (by repeat (first | (with_reducible first | exact HB.out | apply below_alloc | apply pw_below_drewN | apply below_drew1 | refine below_set ?_ GE236.out | refine below_set ?_ GE238.out) | exact HB.out)) hb); have n3_ := Aside0.mk (hbox); have n4_ := Aside0.mk ((by rw [hg]; exact (below_size (by repeat (first | (with_reducible first | exact HB.out | apply below_alloc | apply pw_below_drewN | apply below_drew1 | refine below_set ?_ GE236.out | refine below_set ?_ GE238.out) | exact HB.out))) : w.heap.size ≤ gb256)); have n5_ := Aside0.mk ((by rw [hg]; exact (below_size (by repeat (first | (with_reducible first | exact HB.out | apply below_alloc | apply pw_below_drewN | apply below_drew1 | refine below_set ?_ GE236.out | refine below_set ?_ GE238.out) | exact HB.out))) : w.heap.size ≤ gb256)); have n6_ := Aside0.mk ((by rw [hg]; exact Nat.ne_of_lt (blk_lt (g := gb236) (o := .cells #[.int .i64 0, .int .i64 0, .int .i64 0] 101 (0, 0)) (by (with_reducible repeat (first | refine blk_drewN ?_ _ | refine blk_drew ?_ | refine blk_alloc ?_ _)); exact BK236.out)) : gb236 ≠ gb256)); have n7_ := Aside0.mk ((by rw [hg]; exact Nat.ne_of_gt (blk_lt (g := gb236) (o := .cells #[.int .i64 0, .int .i64 0, .int .i64 0] 101 (0, 0)) (by (with_reducible repeat (first | refine blk_drewN ?_ _ | refine blk_drew ?_ | refine blk_alloc ?_ _)); exact BK236.out)) : gb256 ≠ gb236)); have n8_ := Aside0.mk ((by rw [hg]; exact Nat.ne_of_lt (blk_lt (g := gb238) (o := .cells #[.int .i64 ((rd_T40 l0 a1).f0), .int .i64 ((rd_T40 l0 a1).f1), .int .i64 ((rd_T40 l0 a1).f2)] 40 (0, 0)) (by (with_reducible repeat (first | refine blk_drewN ?_ _ | refine blk_drew ?_ | refine blk_alloc ?_ _)); exact BK238.out)) : gb238 ≠ gb256)); have n9_ := Aside0.mk ((by rw [hg]; exact Nat.ne_of_gt (blk_lt (g := gb238) (o := .cells #[.int .i64 ((rd_T40 l0 a1).f0), .int .i64 ((rd_T40 l0 a1).f1), .int .i64 ((rd_T40 l0 a1).f2)] 40 (0, 0)) (by (with_reducible repeat (first | refine blk_drewN ?_ _ | refine blk_drew ?_ | refine blk_alloc ?_ _)); exact BK238.out)) : gb256 ≠ gb238)); clear BK236; clear BK238; clear HB; have BK236 := n0_; have BK238 := n1_; have HB := n2_; have BK256 := n3_; have GW256 := n4_; have GE256 := n5_; have NB236_256 := n6_; have NB256_236 := n7_; have NB238_256 := n8_; have NB256_238 := n9_; clear n0_ n1_ n2_ n3_ n4_ n5_ n6_ n7_ n8_ n9_; clear hb hbox hg; have hnb107 := NB256_236.out; have hnc107 := NB236_256.out; have hnb108 := NB256_238.out; have hnc108 := NB238_256.out; have hcz109_0 : w106.cell? ⟨gb256, 0, none⟩ = some (.int .i64 0) := (blk_cell BK256.out 0).trans rfl; have hcz109_1 : w106.cell? ⟨gb256, 1, none⟩ = some (.int .i64 0) := (blk_cell BK256.out 1).trans rfl; have hcz109_2 : w106.cell? ⟨gb256, 2, none⟩ = some (.int .i64 0) := (blk_cell BK256.out 2).trans rfl; have hfz109_0 := blk_frozen BK256.out 0; have hfz109_1 := blk_frozen BK256.out 1; have hfz109_2 := blk_frozen BK256.out 2; have hnb110 := NB236_238.out; have hnc110 := NB238_236.out; have hcz111_0 : w106.cell? ⟨gb236, 0, none⟩ = some (.int .i64 0) := (blk_cell BK236.out 0).trans rfl; have hcz111_1 : w106.cell? ⟨gb236, 1, none⟩ = some (.int .i64 0) := (blk_cell BK236.out 1).trans rfl; have hcz111_2 : w106.cell? ⟨gb236, 2, none⟩ = some (.int .i64 0) := (blk_cell BK236.out 2).trans rfl; have hfz111_0 := blk_frozen BK236.out 0; have hfz111_1 := blk_frozen BK236.out 1; have hfz111_2 := blk_frozen BK236.out 2))
                        refine bodyPost_ret (results_ct rfl _ _ gb236 101 #[.int .i64 t252, .int .i64 t253, .int .i64 t254] (0, 0) _ rfl (by (with_reducible repeat (first | refine blk_drewN ?_ _ | refine blk_drew ?_ | refine blk_alloc ?_ _)); refine blk_put (cs := #[.int .i64 t252, .int .i64 t253, .int .i64 0]) ?_ 2 _ rfl; (with_reducible repeat (first | refine blk_drewN ?_ _ | refine blk_drew ?_ | refine blk_alloc ?_ _)); refine blk_put (cs := #[.int .i64 t252, .int .i64 0, .int .i64 0]) ?_ 1 _ rfl; (with_reducible repeat (first | refine blk_drewN ?_ _ | refine blk_drew ?_ | refine blk_alloc ?_ _)); refine blk_put (cs := #[.int .i64 0, .int .i64 0, .int .i64 0]) ?_ 0 _ rfl; (with_reducible repeat (first | refine blk_drewN ?_ _ | refine blk_drew ?_ | refine blk_alloc ?_ _)); refine blk_far ?_ NB236_256.out _; (with_reducible repeat (first | refine blk_drewN ?_ _ | refine blk_drew ?_ | refine blk_alloc ?_ _)); refine blk_far ?_ NB236_256.out _; (with_reducible repeat (first | refine blk_drewN ?_ _ | refine blk_drew ?_ | refine blk_alloc ?_ _)); refine blk_far ?_ NB236_256.out _; (with_reducible repeat (first | refine blk_drewN ?_ _ | refine blk_drew ?_ | refine blk_alloc ?_ _)); exact BK236.out) Tryd.underlying101 rfl (by kernel_rfl)) rfl ?_
                        exact ⟨by first | rfl | (simp [errW_none, errW_some] <;> rfl) | (simp [*, errW_none, errW_some] <;> rfl), by repeat (first | (with_reducible first | exact HB.out | apply below_alloc | apply pw_below_drewN | apply below_drew1 | refine below_set ?_ GE236.out | refine below_set ?_ GE238.out | refine below_set ?_ GE256.out) | exact HB.out)⟩
                    · replace c57 := Bool.eq_false_iff.mpr c57
                      subst c57
                      have H1 : ((spinetref04_End.f kj54 l0 (wrap64 (a1 - 1)) l2 a3 a4).bind fun bt264 => ((spinetref04_End.f kj54 l0 (wrap64 (bt264.2.2.2 - 1)) l2 a3 a4).bind fun bt269 => (if bt269.2.2.1 = 0 then (if bt264.2.2.1 = 0 then ((spinetref04_two.f kj54 ((rd_T40 l0 a1).f0) bt269.1 bt269.2.1 bt264.1 bt264.2.1).bind fun bt274 => (if bt274.2.2 = 9 then (if a4 = true then ((spinetref04_whole.f 0).bind fun bt278 => (some (bt278.1, bt278.2.1, bt278.2.2, bt269.2.2.2))) else (some (bt274.1, bt274.2.1, bt274.2.2, bt269.2.2.2))) else (some (bt274.1, bt274.2.1, bt274.2.2, bt269.2.2.2)))) else (some (bt264.1, bt264.2.1, bt264.2.2.1, bt269.2.2.2))) else (some (bt269.1, bt269.2.1, bt269.2.2.1, bt269.2.2.2))))) = some (r1, r2, r3, r4) := by rw [if_neg (show ¬ (false = true) by decide)] at H; exact H
                      clear H
                      have H := H1
                      clear H1
                      replace H := Option.bind_eq_some_iff.mp H
                      obtain ⟨⟨t264, t265, t266, t267⟩, A1120, H⟩ := H
                      replace H : ((spinetref04_End.f kj54 l0 (wrap64 (t267 - 1)) l2 a3 a4).bind fun bt269 => (if bt269.2.2.1 = 0 then (if t266 = 0 then ((spinetref04_two.f kj54 ((rd_T40 l0 a1).f0) bt269.1 bt269.2.1 t264 t265).bind fun bt274 => (if bt274.2.2 = 9 then (if a4 = true then ((spinetref04_whole.f 0).bind fun bt278 => (some (bt278.1, bt278.2.1, bt278.2.2, bt269.2.2.2))) else (some (bt274.1, bt274.2.1, bt274.2.2, bt269.2.2.2))) else (some (bt274.1, bt274.2.1, bt274.2.2, bt269.2.2.2)))) else (some (t264, t265, t266, bt269.2.2.2))) else (some (bt269.1, bt269.2.1, bt269.2.2.1, bt269.2.2.2)))) = some (r1, r2, r3, r4) := H
                      have A112 := Aside0.mk A1120
                      clear A1120
                      replace H := Option.bind_eq_some_iff.mp H
                      obtain ⟨⟨t269, t270, t271, t272⟩, A1130, H⟩ := H
                      replace H : (if t271 = 0 then (if t266 = 0 then ((spinetref04_two.f kj54 ((rd_T40 l0 a1).f0) t269 t270 t264 t265).bind fun bt274 => (if bt274.2.2 = 9 then (if a4 = true then ((spinetref04_whole.f 0).bind fun bt278 => (some (bt278.1, bt278.2.1, bt278.2.2, t272))) else (some (bt274.1, bt274.2.1, bt274.2.2, t272))) else (some (bt274.1, bt274.2.1, bt274.2.2, t272)))) else (some (t264, t265, t266, t272))) else (some (t269, t270, t271, t272))) = some (r1, r2, r3, r4) := H
                      have A113 := Aside0.mk A1130
                      clear A1130
                      by_cases c114 : t271 = 0
                      · rw [if_pos c114] at H
                        have c114b0 : (t271 == 0) = true := beq_iff_eq.mpr c114
                        have c114b1 : (t271 != 0) = false := bne_eq_false_iff_eq.mpr c114
                        clear c114
                        by_cases c115 : t266 = 0
                        · rw [if_pos c115] at H
                          have c115b0 : (t266 == 0) = true := beq_iff_eq.mpr c115
                          have c115b1 : (t266 != 0) = false := bne_eq_false_iff_eq.mpr c115
                          clear c115
                          replace H := Option.bind_eq_some_iff.mp H
                          obtain ⟨⟨t274, t275, t276⟩, A1160, H⟩ := H
                          replace H : (if t276 = 9 then (if a4 = true then ((spinetref04_whole.f 0).bind fun bt278 => (some (bt278.1, bt278.2.1, bt278.2.2, t272))) else (some (t274, t275, t276, t272))) else (some (t274, t275, t276, t272))) = some (r1, r2, r3, r4) := H
                          have A116 := Aside0.mk A1160
                          clear A1160
                          by_cases c117 : t276 = 9
                          · rw [if_pos c117] at H
                            have c117b0 : (t276 == 9) = true := beq_iff_eq.mpr c117
                            have c117b1 : (t276 != 9) = false := bne_eq_false_iff_eq.mpr c117
                            clear c117
                            by_cases c118 : a4 = true
                            · subst c118
                              have H1 : ((spinetref04_whole.f 0).bind fun bt278 => (some (bt278.1, bt278.2.1, bt278.2.2, t272))) = some (r1, r2, r3, r4) := by rw [if_pos rfl] at H; exact H
                              clear H
                              have H := H1
                              clear H1
                              replace H := Option.bind_eq_some_iff.mp H
                              obtain ⟨⟨t278, t279, t280⟩, A1190, H⟩ := H
                              replace H : (some (t278, t279, t280, t272)) = some (r1, r2, r3, r4) := H
                              have A119 := Aside0.mk A1190
                              clear A1190
                              simp only [Option.some.injEq, Prod.mk.injEq] at H
                              obtain ⟨rfl, rfl, rfl, rfl⟩ := H
                              go_wp2_with (first | ((with_reducible refine gate_callee (f := 58) rfl ?_); refine goesL_ (some 126) rfl rfl Tryd.func58 (by kernel_rfl) rfl #[.slice (some ad237) l0.length c0, .int .i64 (wrap64 (a1 - 1)), .slice A2 l2.length c2, .int .i64 a3, .bool true] rfl (by (try simp only [List.map_toArray, List.map_cons, List.map_nil]); first | done | rfl | (simp only [List.length_drop, List.length_take]; rfl)) ?_; (with_reducible refine (ih kj54 (by have := HJ42.out; have := HJ54.out; omega) _ _ l0 (wrap64 (a1 - 1)) _ _ l2 a3 true t264 t265 t266 t267 _ ?side1 ?side2 ?side3 ?side4 A112.out).mono ?_); (case side1 => repeat (first | exact (Kd.C_below HR0.out HB.out) | (with_reducible refine Kd.C_alloc ?_ _) | (with_reducible refine Kd.C_drewN ?_ _) | (with_reducible refine Kd.C_drew ?_))); (case side2 => exact HC0.out); (case side3 => repeat (first | exact (Kd.C_below HR2.out HB.out) | (with_reducible refine Kd.C_alloc ?_ _) | (with_reducible refine Kd.C_drewN ?_ _) | (with_reducible refine Kd.C_drew ?_))); (case side4 => exact HC2.out); rintro e w120 ⟨rfl, hb⟩; refine ⟨_, rfl, ?_⟩; have n0_ := Aside0.mk (blk_below (g := gb236) (o := .cells #[.int .i64 0, .int .i64 0, .int .i64 0] 101 (0, 0)) (by (with_reducible repeat (first | refine blk_drewN ?_ _ | refine blk_drew ?_ | refine blk_alloc ?_ _)); exact BK236.out) hb); have n1_ := Aside0.mk (blk_below (g := gb238) (o := .cells #[.int .i64 ((rd_T40 l0 a1).f0), .int .i64 ((rd_T40 l0 a1).f1), .int .i64 ((rd_T40 l0 a1).f2)] 40 (0, 0)) (by (with_reducible repeat (first | refine blk_drewN ?_ _ | refine blk_drew ?_ | refine blk_alloc ?_ _)); exact BK238.out) hb); have n2_ := Aside0.mk (below_step (by repeat (first | (with_reducible first | exact HB.out | apply below_alloc | apply pw_below_drewN | apply below_drew1 | refine below_set ?_ GE236.out | refine below_set ?_ GE238.out) | exact HB.out)) hb); clear BK236; clear BK238; clear HB; have BK236 := n0_; have BK238 := n1_; have HB := n2_; clear n0_ n1_ n2_; (try clear hb); (try clear hb2); (try clear hk); (try clear hi)) | ((with_reducible refine gate_dst (N := 15) rfl ?_); (try (refine gate_guard (by rfl) ?_; dsimp only)); refine box_event ?hg (N := 15) ?hd (cs := #[.int .i64 0, .int .i64 0, .int .i64 0]) (t := 101) ?hr ?_; (case hd => rfl); (case hg => rfl); (case hr => first | (go_simp; done) | (go_simp; rfl)); intro gb268 hg w121 hbox hb; have n0_ := Aside0.mk (blk_below (g := gb236) (o := .cells #[.int .i64 0, .int .i64 0, .int .i64 0] 101 (0, 0)) (by (with_reducible repeat (first | refine blk_drewN ?_ _ | refine blk_drew ?_ | refine blk_alloc ?_ _)); exact BK236.out) hb); have n1_ := Aside0.mk (blk_below (g := gb238) (o := .cells #[.int .i64 ((rd_T40 l0 a1).f0), .int .i64 ((rd_T40 l0 a1).f1), .int .i64 ((rd_T40 l0 a1).f2)] 40 (0, 0)) (by (with_reducible repeat (first | refine blk_drewN ?_ _ | refine blk_drew ?_ | refine blk_alloc ?_ _)); exact BK238.out) hb); have n2_ := Aside0.mk (below_step (by repeat (first | (with_reducible first | exact HB.out | apply below_alloc | apply pw_below_drewN | apply below_drew1 | refine below_set ?_ GE236.out | refine below_set ?_ GE238.out) | exact HB.out)) hb); have n3_ := Aside0.mk (hbox); have n4_ := Aside0.mk ((by rw [hg]; exact (below_size (by repeat (first | (with_reducible first | exact HB.out | apply below_alloc | apply pw_below_drewN | apply below_drew1 | refine below_set ?_ GE236.out | refine below_set ?_ GE238.out) | exact HB.out))) : w.heap.size ≤ gb268)); have n5_ := Aside0.mk ((by rw [hg]; exact (below_size (by repeat (first | (with_reducible first | exact HB.out | apply below_alloc | apply pw_below_drewN | apply below_drew1 | refine below_set ?_ GE236.out | refine below_set ?_ GE238.out) | exact HB.out))) : w.heap.size ≤ gb268)); have n6_ := Aside0.mk ((by rw [hg]; exact Nat.ne_of_lt (blk_lt (g := gb236) (o := .cells #[.int .i64 0, .int .i64 0, .int .i64 0] 101 (0, 0)) (by (with_reducible repeat (first | refine blk_drewN ?_ _ | refine blk_drew ?_ | refine blk_alloc ?_ _)); exact BK236.out)) : gb236 ≠ gb268)); have n7_ := Aside0.mk ((by rw [hg]; exact Nat.ne_of_gt (blk_lt (g := gb236) (o := .cells #[.int .i64 0, .int .i64 0, .int .i64 0] 101 (0, 0)) (by (with_reducible repeat (first | refine blk_drewN ?_ _ | refine blk_drew ?_ | refine blk_alloc ?_ _)); exact BK236.out)) : gb268 ≠ gb236)); have n8_ := Aside0.mk ((by rw [hg]; exact Nat.ne_of_lt (blk_lt (g := gb238) (o := .cells #[.int .i64 ((rd_T40 l0 a1).f0), .int .i64 ((rd_T40 l0 a1).f1), .int .i64 ((rd_T40 l0 a1).f2)] 40 (0, 0)) (by (with_reducible repeat (first | refine blk_drewN ?_ _ | refine blk_drew ?_ | refine blk_alloc ?_ _)); exact BK238.out)) : gb238 ≠ gb268)); have n9_ := Aside0.mk ((by rw [hg]; exact Nat.ne_of_gt (blk_lt (g := gb238) (o := .cells #[.int .i64 ((rd_T40 l0 a1).f0), .int .i64 ((rd_T40 l0 a1).f1), .int .i64 ((rd_T40 l0 a1).f2)] 40 (0, 0)) (by (with_reducible repeat (first | refine blk_drewN ?_ _ | refine blk_drew ?_ | refine blk_alloc ?_ _)); exact BK238.out)) : gb268 ≠ gb238)); clear BK236; clear BK238; clear HB; have BK236 := n0_; have BK238 := n1_; have HB := n2_; have BK268 := n3_; have GW268 := n4_; have GE268 := n5_; have NB236_268 := n6_; have NB268_236 := n7_; have NB238_268 := n8_; have NB268_238 := n9_; clear n0_ n1_ n2_ n3_ n4_ n5_ n6_ n7_ n8_ n9_; clear hb hbox hg; have hnb122 := NB268_236.out; have hnc122 := NB236_268.out; have hnb123 := NB268_238.out; have hnc123 := NB238_268.out; have hcz124_0 : w121.cell? ⟨gb268, 0, none⟩ = some (.int .i64 0) := (blk_cell BK268.out 0).trans rfl; have hcz124_1 : w121.cell? ⟨gb268, 1, none⟩ = some (.int .i64 0) := (blk_cell BK268.out 1).trans rfl; have hcz124_2 : w121.cell? ⟨gb268, 2, none⟩ = some (.int .i64 0) := (blk_cell BK268.out 2).trans rfl; have hfz124_0 := blk_frozen BK268.out 0; have hfz124_1 := blk_frozen BK268.out 1; have hfz124_2 := blk_frozen BK268.out 2) | ((with_reducible refine gate_callee (f := 58) rfl ?_); refine goesL_ (some 136) rfl rfl Tryd.func58 (by kernel_rfl) rfl #[.slice (some ad237) l0.length c0, .int .i64 (wrap64 (t267 - 1)), .slice A2 l2.length c2, .int .i64 a3, .bool true] rfl (by (try simp only [List.map_toArray, List.map_cons, List.map_nil]); first | done | rfl | (simp only [List.length_drop, List.length_take]; rfl)) ?_; (with_reducible refine (ih kj54 (by have := HJ42.out; have := HJ54.out; omega) _ _ l0 (wrap64 (t267 - 1)) _ _ l2 a3 true t269 t270 t271 t272 _ ?side1 ?side2 ?side3 ?side4 A113.out).mono ?_); (case side1 => exact Kd.C_below HR0.out (by repeat (first | (with_reducible first | exact HB.out | apply below_alloc | apply pw_below_drewN | apply below_drew1 | refine below_set ?_ GE236.out | refine below_set ?_ GE238.out | refine below_set ?_ GE268.out) | exact HB.out))); (case side2 => exact HC0.out); (case side3 => exact Kd.C_below HR2.out (by repeat (first | (with_reducible first | exact HB.out | apply below_alloc | apply pw_below_drewN | apply below_drew1 | refine below_set ?_ GE236.out | refine below_set ?_ GE238.out | refine below_set ?_ GE268.out) | exact HB.out))); (case side4 => exact HC2.out); rintro e w125 ⟨rfl, hb⟩; refine ⟨_, rfl, ?_⟩; have n0_ := Aside0.mk (blk_below (g := gb236) (o := .cells #[.int .i64 0, .int .i64 0, .int .i64 0] 101 (0, 0)) (by (with_reducible repeat (first | refine blk_drewN ?_ _ | refine blk_drew ?_ | refine blk_alloc ?_ _)); refine blk_far ?_ NB236_268.out _; (with_reducible repeat (first | refine blk_drewN ?_ _ | refine blk_drew ?_ | refine blk_alloc ?_ _)); refine blk_far ?_ NB236_268.out _; (with_reducible repeat (first | refine blk_drewN ?_ _ | refine blk_drew ?_ | refine blk_alloc ?_ _)); refine blk_far ?_ NB236_268.out _; (with_reducible repeat (first | refine blk_drewN ?_ _ | refine blk_drew ?_ | refine blk_alloc ?_ _)); exact BK236.out) hb); have n1_ := Aside0.mk (blk_below (g := gb238) (o := .cells #[.int .i64 ((rd_T40 l0 a1).f0), .int .i64 ((rd_T40 l0 a1).f1), .int .i64 ((rd_T40 l0 a1).f2)] 40 (0, 0)) (by (with_reducible repeat (first | refine blk_drewN ?_ _ | refine blk_drew ?_ | refine blk_alloc ?_ _)); refine blk_far ?_ NB238_268.out _; (with_reducible repeat (first | refine blk_drewN ?_ _ | refine blk_drew ?_ | refine blk_alloc ?_ _)); refine blk_far ?_ NB238_268.out _; (with_reducible repeat (first | refine blk_drewN ?_ _ | refine blk_drew ?_ | refine blk_alloc ?_ _)); refine blk_far ?_ NB238_268.out _; (with_reducible repeat (first | refine blk_drewN ?_ _ | refine blk_drew ?_ | refine blk_alloc ?_ _)); exact BK238.out) hb); have n2_ := Aside0.mk (blk_below (g := gb268) (o := .cells #[.int .i64 t264, .int .i64 t265, .int .i64 t266] 101 (0, 0)) (by (with_reducible repeat (first | refine blk_drewN ?_ _ | refine blk_drew ?_ | refine blk_alloc ?_ _)); refine blk_put (cs := #[.int .i64 t264, .int .i64 t265, .int .i64 0]) ?_ 2 _ rfl; (with_reducible repeat (first | refine blk_drewN ?_ _ | refine blk_drew ?_ | refine blk_alloc ?_ _)); refine blk_put (cs := #[.int .i64 t264, .int .i64 0, .int .i64 0]) ?_ 1 _ rfl; (with_reducible repeat (first | refine blk_drewN ?_ _ | refine blk_drew ?_ | refine blk_alloc ?_ _)); refine blk_put (cs := #[.int .i64 0, .int .i64 0, .int .i64 0]) ?_ 0 _ rfl; (with_reducible repeat (first | refine blk_drewN ?_ _ | refine blk_drew ?_ | refine blk_alloc ?_ _)); exact BK268.out) hb); have n3_ := Aside0.mk (below_step (by repeat (first | (with_reducible first | exact HB.out | apply below_alloc | apply pw_below_drewN | apply below_drew1 | refine below_set ?_ GE236.out | refine below_set ?_ GE238.out | refine below_set ?_ GE268.out) | exact HB.out)) hb); clear BK236; clear BK238; clear BK268; clear HB; have BK236 := n0_; have BK238 := n1_; have BK268 := n2_; have HB := n3_; clear n0_ n1_ n2_ n3_; (try clear hb); (try clear hb2); (try clear hk); (try clear hi)) | ((with_reducible refine gate_dst (N := 17) rfl ?_); (try (refine gate_guard (by rfl) ?_; dsimp only)); refine box_event ?hg (N := 17) ?hd (cs := #[.int .i64 0, .int .i64 0, .int .i64 0]) (t := 101) ?hr ?_; (case hd => rfl); (case hg => rfl); (case hr => first | (go_simp; done) | (go_simp; rfl)); intro gb273 hg w126 hbox hb; have n0_ := Aside0.mk (blk_below (g := gb236) (o := .cells #[.int .i64 0, .int .i64 0, .int .i64 0] 101 (0, 0)) (by (with_reducible repeat (first | refine blk_drewN ?_ _ | refine blk_drew ?_ | refine blk_alloc ?_ _)); exact BK236.out) hb); have n1_ := Aside0.mk (blk_below (g := gb238) (o := .cells #[.int .i64 ((rd_T40 l0 a1).f0), .int .i64 ((rd_T40 l0 a1).f1), .int .i64 ((rd_T40 l0 a1).f2)] 40 (0, 0)) (by (with_reducible repeat (first | refine blk_drewN ?_ _ | refine blk_drew ?_ | refine blk_alloc ?_ _)); exact BK238.out) hb); have n2_ := Aside0.mk (blk_below (g := gb268) (o := .cells #[.int .i64 t264, .int .i64 t265, .int .i64 t266] 101 (0, 0)) (by (with_reducible repeat (first | refine blk_drewN ?_ _ | refine blk_drew ?_ | refine blk_alloc ?_ _)); exact BK268.out) hb); have n3_ := Aside0.mk (below_step (by repeat (first | (with_reducible first | exact HB.out | apply below_alloc | apply pw_below_drewN | apply below_drew1 | refine below_set ?_ GE236.out | refine below_set ?_ GE238.out | refine below_set ?_ GE268.out) | exact HB.out)) hb); have n4_ := Aside0.mk (hbox); have n5_ := Aside0.mk ((by rw [hg]; exact (below_size (by repeat (first | (with_reducible first | exact HB.out | apply below_alloc | apply pw_below_drewN | apply below_drew1 | refine below_set ?_ GE236.out | refine below_set ?_ GE238.out | refine below_set ?_ GE268.out) | exact HB.out))) : w.heap.size ≤ gb273)); have n6_ := Aside0.mk ((by rw [hg]; exact (below_size (by repeat (first | (with_reducible first | exact HB.out | apply below_alloc | apply pw_below_drewN | apply below_drew1 | refine below_set ?_ GE236.out | refine below_set ?_ GE238.out | refine below_set ?_ GE268.out) | exact HB.out))) : w.heap.size ≤ gb273)); have n7_ := Aside0.mk ((by rw [hg]; exact Nat.ne_of_lt (blk_lt (g := gb236) (o := .cells #[.int .i64 0, .int .i64 0, .int .i64 0] 101 (0, 0)) (by (with_reducible repeat (first | refine blk_drewN ?_ _ | refine blk_drew ?_ | refine blk_alloc ?_ _)); exact BK236.out)) : gb236 ≠ gb273)); have n8_ := Aside0.mk ((by rw [hg]; exact Nat.ne_of_gt (blk_lt (g := gb236) (o := .cells #[.int .i64 0, .int .i64 0, .int .i64 0] 101 (0, 0)) (by (with_reducible repeat (first | refine blk_drewN ?_ _ | refine blk_drew ?_ | refine blk_alloc ?_ _)); exact BK236.out)) : gb273 ≠ gb236)); have n9_ := Aside0.mk ((by rw [hg]; exact Nat.ne_of_lt (blk_lt (g := gb238) (o := .cells #[.int .i64 ((rd_T40 l0 a1).f0), .int .i64 ((rd_T40 l0 a1).f1), .int .i64 ((rd_T40 l0 a1).f2)] 40 (0, 0)) (by (with_reducible repeat (first | refine blk_drewN ?_ _ | refine blk_drew ?_ | refine blk_alloc ?_ _)); exact BK238.out)) : gb238 ≠ gb273)); have n10_ := Aside0.mk ((by rw [hg]; exact Nat.ne_of_gt (blk_lt (g := gb238) (o := .cells #[.int .i64 ((rd_T40 l0 a1).f0), .int .i64 ((rd_T40 l0 a1).f1), .int .i64 ((rd_T40 l0 a1).f2)] 40 (0, 0)) (by (with_reducible repeat (first | refine blk_drewN ?_ _ | refine blk_drew ?_ | refine blk_alloc ?_ _)); exact BK238.out)) : gb273 ≠ gb238)); have n11_ := Aside0.mk ((by rw [hg]; exact Nat.ne_of_lt (blk_lt (g := gb268) (o := .cells #[.int .i64 t264, .int .i64 t265, .int .i64 t266] 101 (0, 0)) (by (with_reducible repeat (first | refine blk_drewN ?_ _ | refine blk_drew ?_ | refine blk_alloc ?_ _)); exact BK268.out)) : gb268 ≠ gb273)); have n12_ := Aside0.mk ((by rw [hg]; exact Nat.ne_of_gt (blk_lt (g := gb268) (o := .cells #[.int .i64 t264, .int .i64 t265, .int .i64 t266] 101 (0, 0)) (by (with_reducible repeat (first | refine blk_drewN ?_ _ | refine blk_drew ?_ | refine blk_alloc ?_ _)); exact BK268.out)) : gb273 ≠ gb268)); clear BK236; clear BK238; clear BK268; clear HB; have BK236 := n0_; have BK238 := n1_; have BK268 := n2_; have HB := n3_; have BK273 := n4_; have GW273 := n5_; have GE273 := n6_; have NB236_273 := n7_; have NB273_236 := n8_; have NB238_273 := n9_; have NB273_238 := n10_; have NB268_273 := n11_; have NB273_268 := n12_; clear n0_ n1_ n2_ n3_ n4_ n5_ n6_ n7_ n8_ n9_ n10_ n11_ n12_; clear hb hbox hg; have hnb127 := NB273_236.out; have hnc127 := NB236_273.out; have hnb128 := NB273_238.out; have hnc128 := NB238_273.out; have hnb129 := NB273_268.out; have hnc129 := NB268_273.out; have hcz130_0 : w126.cell? ⟨gb273, 0, none⟩ = some (.int .i64 0) := (blk_cell BK273.out 0).trans rfl; have hcz130_1 : w126.cell? ⟨gb273, 1, none⟩ = some (.int .i64 0) := (blk_cell BK273.out 1).trans rfl; have hcz130_2 : w126.cell? ⟨gb273, 2, none⟩ = some (.int .i64 0) := (blk_cell BK273.out 2).trans rfl; have hfz130_0 := blk_frozen BK273.out 0; have hfz130_1 := blk_frozen BK273.out 1; have hfz130_2 := blk_frozen BK273.out 2; have hcz131_0 : w126.cell? ⟨gb268, 0, none⟩ = some (.int .i64 t264) := (blk_cell BK268.out 0).trans rfl; have hcz131_1 : w126.cell? ⟨gb268, 1, none⟩ = some (.int .i64 t265) := (blk_cell BK268.out 1).trans rfl; have hcz131_2 : w126.cell? ⟨gb268, 2, none⟩ = some (.int .i64 t266) := (blk_cell BK268.out 2).trans rfl; have hfz131_0 := blk_frozen BK268.out 0; have hfz131_1 := blk_frozen BK268.out 1; have hfz131_2 := blk_frozen BK268.out 2; have hnb132 := NB238_236.out; have hnc132 := NB236_238.out; have hcz133_0 : w126.cell? ⟨gb238, 0, none⟩ = some (.int .i64 ((rd_T40 l0 a1).f0)) := (blk_cell BK238.out 0).trans rfl; have hcz133_1 : w126.cell? ⟨gb238, 1, none⟩ = some (.int .i64 ((rd_T40 l0 a1).f1)) := (blk_cell BK238.out 1).trans rfl; have hcz133_2 : w126.cell? ⟨gb238, 2, none⟩ = some (.int .i64 ((rd_T40 l0 a1).f2)) := (blk_cell BK238.out 2).trans rfl; have hfz133_0 := blk_frozen BK238.out 0; have hfz133_1 := blk_frozen BK238.out 1; have hfz133_2 := blk_frozen BK238.out 2) | ((with_reducible refine gate_callee (f := 92) rfl ?_); refine goesL_ (some 155) rfl rfl Tryd.func92 (by kernel_rfl) rfl #[.int .i64 ((rd_T40 l0 a1).f0), .agg #[.int .i64 t269, .int .i64 t270], .agg #[.int .i64 t264, .int .i64 t265]] rfl (by (try simp only [List.map_toArray, List.map_cons, List.map_nil]); first | done | rfl | (simp only [List.length_drop, List.length_take]; rfl)) ?_; (with_reducible refine (spinetref04_two.calls kj54 ((rd_T40 l0 a1).f0) t269 t270 t264 t265 t274 t275 t276 _ A116.out).mono ?_); rintro e w134 ⟨rfl, hb⟩; refine ⟨_, rfl, ?_⟩; have n0_ := Aside0.mk (blk_below (g := gb236) (o := .cells #[.int .i64 0, .int .i64 0, .int .i64 0] 101 (0, 0)) (by (with_reducible repeat (first | refine blk_drewN ?_ _ | refine blk_drew ?_ | refine blk_alloc ?_ _)); refine blk_far ?_ NB236_273.out _; (with_reducible repeat (first | refine blk_drewN ?_ _ | refine blk_drew ?_ | refine blk_alloc ?_ _)); refine blk_far ?_ NB236_273.out _; (with_reducible repeat (first | refine blk_drewN ?_ _ | refine blk_drew ?_ | refine blk_alloc ?_ _)); refine blk_far ?_ NB236_273.out _; (with_reducible repeat (first | refine blk_drewN ?_ _ | refine blk_drew ?_ | refine blk_alloc ?_ _)); exact BK236.out) hb); have n1_ := Aside0.mk (blk_below (g := gb238) (o := .cells #[.int .i64 ((rd_T40 l0 a1).f0), .int .i64 ((rd_T40 l0 a1).f1), .int .i64 ((rd_T40 l0 a1).f2)] 40 (0, 0)) (by (with_reducible repeat (first | refine blk_drewN ?_ _ | refine blk_drew ?_ | refine blk_alloc ?_ _)); refine blk_far ?_ NB238_273.out _; (with_reducible repeat (first | refine blk_drewN ?_ _ | refine blk_drew ?_ | refine blk_alloc ?_ _)); refine blk_far ?_ NB238_273.out _; (with_reducible repeat (first | refine blk_drewN ?_ _ | refine blk_drew ?_ | refine blk_alloc ?_ _)); refine blk_far ?_ NB238_273.out _; (with_reducible repeat (first | refine blk_drewN ?_ _ | refine blk_drew ?_ | refine blk_alloc ?_ _)); exact BK238.out) hb); have n2_ := Aside0.mk (blk_below (g := gb268) (o := .cells #[.int .i64 t264, .int .i64 t265, .int .i64 t266] 101 (0, 0)) (by (with_reducible repeat (first | refine blk_drewN ?_ _ | refine blk_drew ?_ | refine blk_alloc ?_ _)); refine blk_far ?_ NB268_273.out _; (with_reducible repeat (first | refine blk_drewN ?_ _ | refine blk_drew ?_ | refine blk_alloc ?_ _)); refine blk_far ?_ NB268_273.out _; (with_reducible repeat (first | refine blk_drewN ?_ _ | refine blk_drew ?_ | refine blk_alloc ?_ _)); refine blk_far ?_ NB268_273.out _; (with_reducible repeat (first | refine blk_drewN ?_ _ | refine blk_drew ?_ | refine blk_alloc ?_ _)); exact BK268.out) hb); have n3_ := Aside0.mk (blk_below (g := gb273) (o := .cells #[.int .i64 t269, .int .i64 t270, .int .i64 t271] 101 (0, 0)) (by (with_reducible repeat (first | refine blk_drewN ?_ _ | refine blk_drew ?_ | refine blk_alloc ?_ _)); refine blk_put (cs := #[.int .i64 t269, .int .i64 t270, .int .i64 0]) ?_ 2 _ rfl; (with_reducible repeat (first | refine blk_drewN ?_ _ | refine blk_drew ?_ | refine blk_alloc ?_ _)); refine blk_put (cs := #[.int .i64 t269, .int .i64 0, .int .i64 0]) ?_ 1 _ rfl; (with_reducible repeat (first | refine blk_drewN ?_ _ | refine blk_drew ?_ | refine blk_alloc ?_ _)); refine blk_put (cs := #[.int .i64 0, .int .i64 0, .int .i64 0]) ?_ 0 _ rfl; (with_reducible repeat (first | refine blk_drewN ?_ _ | refine blk_drew ?_ | refine blk_alloc ?_ _)); exact BK273.out) hb); have n4_ := Aside0.mk (below_step (by repeat (first | (with_reducible first | exact HB.out | apply below_alloc | apply pw_below_drewN | apply below_drew1 | refine below_set ?_ GE236.out | refine below_set ?_ GE238.out | refine below_set ?_ GE268.out | refine below_set ?_ GE273.out) | exact HB.out)) hb); clear BK236; clear BK238; clear BK268; clear BK273; clear HB; have BK236 := n0_; have BK238 := n1_; have BK268 := n2_; have BK273 := n3_; have HB := n4_; clear n0_ n1_ n2_ n3_ n4_; (try clear hb); (try clear hb2); (try clear hk); (try clear hi)) | ((with_reducible refine gate_dst (N := 19) rfl ?_); (try (refine gate_guard (by rfl) ?_; dsimp only)); refine box_event ?hg (N := 19) ?hd (cs := #[.int .i64 0, .int .i64 0, .int .i64 0]) (t := 101) ?hr ?_; (case hd => rfl); (case hg => rfl); (case hr => first | (go_simp; done) | (go_simp; rfl)); intro gb277 hg w135 hbox hb; have n0_ := Aside0.mk (blk_below (g := gb236) (o := .cells #[.int .i64 0, .int .i64 0, .int .i64 0] 101 (0, 0)) (by (with_reducible repeat (first | refine blk_drewN ?_ _ | refine blk_drew ?_ | refine blk_alloc ?_ _)); exact BK236.out) hb); have n1_ := Aside0.mk (blk_below (g := gb238) (o := .cells #[.int .i64 ((rd_T40 l0 a1).f0), .int .i64 ((rd_T40 l0 a1).f1), .int .i64 ((rd_T40 l0 a1).f2)] 40 (0, 0)) (by (with_reducible repeat (first | refine blk_drewN ?_ _ | refine blk_drew ?_ | refine blk_alloc ?_ _)); exact BK238.out) hb); have n2_ := Aside0.mk (blk_below (g := gb268) (o := .cells #[.int .i64 t264, .int .i64 t265, .int .i64 t266] 101 (0, 0)) (by (with_reducible repeat (first | refine blk_drewN ?_ _ | refine blk_drew ?_ | refine blk_alloc ?_ _)); exact BK268.out) hb); have n3_ := Aside0.mk (blk_below (g := gb273) (o := .cells #[.int .i64 t269, .int .i64 t270, .int .i64 t271] 101 (0, 0)) (by (with_reducible repeat (first | refine blk_drewN ?_ _ | refine blk_drew ?_ | refine blk_alloc ?_ _)); exact BK273.out) hb); have n4_ := Aside0.mk (below_step (by repeat (first | (with_reducible first | exact HB.out | apply below_alloc | apply pw_below_drewN | apply below_drew1 | refine below_set ?_ GE236.out | refine below_set ?_ GE238.out | refine below_set ?_ GE268.out | refine below_set ?_ GE273.out) | exact HB.out)) hb); have n5_ := Aside0.mk (hbox); have n6_ := Aside0.mk ((by rw [hg]; exact (below_size (by repeat (first | (with_reducible first | exact HB.out | apply below_alloc | apply pw_below_drewN | apply below_drew1 | refine below_set ?_ GE236.out | refine below_set ?_ GE238.out | refine below_set ?_ GE268.out | refine below_set ?_ GE273.out) | exact HB.out))) : w.heap.size ≤ gb277)); have n7_ := Aside0.mk ((by rw [hg]; exact (below_size (by repeat (first | (with_reducible first | exact HB.out | apply below_alloc | apply pw_below_drewN | apply below_drew1 | refine below_set ?_ GE236.out | refine below_set ?_ GE238.out | refine below_set ?_ GE268.out | refine below_set ?_ GE273.out) | exact HB.out))) : w.heap.size ≤ gb277)); have n8_ := Aside0.mk ((by rw [hg]; exact Nat.ne_of_lt (blk_lt (g := gb236) (o := .cells #[.int .i64 0, .int .i64 0, .int .i64 0] 101 (0, 0)) (by (with_reducible repeat (first | refine blk_drewN ?_ _ | refine blk_drew ?_ | refine blk_alloc ?_ _)); exact BK236.out)) : gb236 ≠ gb277)); have n9_ := Aside0.mk ((by rw [hg]; exact Nat.ne_of_gt (blk_lt (g := gb236) (o := .cells #[.int .i64 0, .int .i64 0, .int .i64 0] 101 (0, 0)) (by (with_reducible repeat (first | refine blk_drewN ?_ _ | refine blk_drew ?_ | refine blk_alloc ?_ _)); exact BK236.out)) : gb277 ≠ gb236)); have n10_ := Aside0.mk ((by rw [hg]; exact Nat.ne_of_lt (blk_lt (g := gb238) (o := .cells #[.int .i64 ((rd_T40 l0 a1).f0), .int .i64 ((rd_T40 l0 a1).f1), .int .i64 ((rd_T40 l0 a1).f2)] 40 (0, 0)) (by (with_reducible repeat (first | refine blk_drewN ?_ _ | refine blk_drew ?_ | refine blk_alloc ?_ _)); exact BK238.out)) : gb238 ≠ gb277)); have n11_ := Aside0.mk ((by rw [hg]; exact Nat.ne_of_gt (blk_lt (g := gb238) (o := .cells #[.int .i64 ((rd_T40 l0 a1).f0), .int .i64 ((rd_T40 l0 a1).f1), .int .i64 ((rd_T40 l0 a1).f2)] 40 (0, 0)) (by (with_reducible repeat (first | refine blk_drewN ?_ _ | refine blk_drew ?_ | refine blk_alloc ?_ _)); exact BK238.out)) : gb277 ≠ gb238)); have n12_ := Aside0.mk ((by rw [hg]; exact Nat.ne_of_lt (blk_lt (g := gb268) (o := .cells #[.int .i64 t264, .int .i64 t265, .int .i64 t266] 101 (0, 0)) (by (with_reducible repeat (first | refine blk_drewN ?_ _ | refine blk_drew ?_ | refine blk_alloc ?_ _)); exact BK268.out)) : gb268 ≠ gb277)); have n13_ := Aside0.mk ((by rw [hg]; exact Nat.ne_of_gt (blk_lt (g := gb268) (o := .cells #[.int .i64 t264, .int .i64 t265, .int .i64 t266] 101 (0, 0)) (by (with_reducible repeat (first | refine blk_drewN ?_ _ | refine blk_drew ?_ | refine blk_alloc ?_ _)); exact BK268.out)) : gb277 ≠ gb268)); have n14_ := Aside0.mk ((by rw [hg]; exact Nat.ne_of_lt (blk_lt (g := gb273) (o := .cells #[.int .i64 t269, .int .i64 t270, .int .i64 t271] 101 (0, 0)) (by (with_reducible repeat (first | refine blk_drewN ?_ _ | refine blk_drew ?_ | refine blk_alloc ?_ _)); exact BK273.out)) : gb273 ≠ gb277)); have n15_ := Aside0.mk ((by rw [hg]; exact Nat.ne_of_gt (blk_lt (g := gb273) (o := .cells #[.int .i64 t269, .int .i64 t270, .int .i64 t271] 101 (0, 0)) (by (with_reducible repeat (first | refine blk_drewN ?_ _ | refine blk_drew ?_ | refine blk_alloc ?_ _)); exact BK273.out)) : gb277 ≠ gb273)); clear BK236; clear BK238; clear BK268; clear BK273; clear HB; have BK236 := n0_; have BK238 := n1_; have BK268 := n2_; have BK273 := n3_; have HB := n4_; have BK277 := n5_; have GW277 := n6_; have GE277 := n7_; have NB236_277 := n8_; have NB277_236 := n9_; have NB238_277 := n10_; have NB277_238 := n11_; have NB268_277 := n12_; have NB277_268 := n13_; have NB273_277 := n14_; have NB277_273 := n15_; clear n0_ n1_ n2_ n3_ n4_ n5_ n6_ n7_ n8_ n9_ n10_ n11_ n12_ n13_ n14_ n15_; clear hb hbox hg; have hnb136 := NB277_236.out; have hnc136 := NB236_277.out; have hnb137 := NB277_238.out; have hnc137 := NB238_277.out; have hnb138 := NB277_268.out; have hnc138 := NB268_277.out; have hnb139 := NB277_273.out; have hnc139 := NB273_277.out; have hcz140_0 : w135.cell? ⟨gb277, 0, none⟩ = some (.int .i64 0) := (blk_cell BK277.out 0).trans rfl; have hcz140_1 : w135.cell? ⟨gb277, 1, none⟩ = some (.int .i64 0) := (blk_cell BK277.out 1).trans rfl; have hcz140_2 : w135.cell? ⟨gb277, 2, none⟩ = some (.int .i64 0) := (blk_cell BK277.out 2).trans rfl; have hfz140_0 := blk_frozen BK277.out 0; have hfz140_1 := blk_frozen BK277.out 1; have hfz140_2 := blk_frozen BK277.out 2) | ((with_reducible refine gate_callee (f := 89) rfl ?_); refine goesL_ (some 162) rfl rfl Tryd.func89 (by kernel_rfl) rfl #[.int .i64 0] rfl (by (try simp only [List.map_toArray, List.map_cons, List.map_nil]); first | done | rfl | (simp only [List.length_drop, List.length_take]; rfl)) ?_; (with_reducible refine (spinetref04_whole.calls 0 t278 t279 t280 _ A119.out).mono ?_); rintro e w141 ⟨rfl, hb⟩; refine ⟨_, rfl, ?_⟩; have n0_ := Aside0.mk (blk_below (g := gb236) (o := .cells #[.int .i64 0, .int .i64 0, .int .i64 0] 101 (0, 0)) (by (with_reducible repeat (first | refine blk_drewN ?_ _ | refine blk_drew ?_ | refine blk_alloc ?_ _)); refine blk_far ?_ NB236_277.out _; (with_reducible repeat (first | refine blk_drewN ?_ _ | refine blk_drew ?_ | refine blk_alloc ?_ _)); refine blk_far ?_ NB236_277.out _; (with_reducible repeat (first | refine blk_drewN ?_ _ | refine blk_drew ?_ | refine blk_alloc ?_ _)); refine blk_far ?_ NB236_277.out _; (with_reducible repeat (first | refine blk_drewN ?_ _ | refine blk_drew ?_ | refine blk_alloc ?_ _)); exact BK236.out) hb); have n1_ := Aside0.mk (blk_below (g := gb238) (o := .cells #[.int .i64 ((rd_T40 l0 a1).f0), .int .i64 ((rd_T40 l0 a1).f1), .int .i64 ((rd_T40 l0 a1).f2)] 40 (0, 0)) (by (with_reducible repeat (first | refine blk_drewN ?_ _ | refine blk_drew ?_ | refine blk_alloc ?_ _)); refine blk_far ?_ NB238_277.out _; (with_reducible repeat (first | refine blk_drewN ?_ _ | refine blk_drew ?_ | refine blk_alloc ?_ _)); refine blk_far ?_ NB238_277.out _; (with_reducible repeat (first | refine blk_drewN ?_ _ | refine blk_drew ?_ | refine blk_alloc ?_ _)); refine blk_far ?_ NB238_277.out _; (with_reducible repeat (first | refine blk_drewN ?_ _ | refine blk_drew ?_ | refine blk_alloc ?_ _)); exact BK238.out) hb); have n2_ := Aside0.mk (blk_below (g := gb268) (o := .cells #[.int .i64 t264, .int .i64 t265, .int .i64 t266] 101 (0, 0)) (by (with_reducible repeat (first | refine blk_drewN ?_ _ | refine blk_drew ?_ | refine blk_alloc ?_ _)); refine blk_far ?_ NB268_277.out _; (with_reducible repeat (first | refine blk_drewN ?_ _ | refine blk_drew ?_ | refine blk_alloc ?_ _)); refine blk_far ?_ NB268_277.out _; (with_reducible repeat (first | refine blk_drewN ?_ _ | refine blk_drew ?_ | refine blk_alloc ?_ _)); refine blk_far ?_ NB268_277.out _; (with_reducible repeat (first | refine blk_drewN ?_ _ | refine blk_drew ?_ | refine blk_alloc ?_ _)); exact BK268.out) hb); have n3_ := Aside0.mk (blk_below (g := gb273) (o := .cells #[.int .i64 t269, .int .i64 t270, .int .i64 t271] 101 (0, 0)) (by (with_reducible repeat (first | refine blk_drewN ?_ _ | refine blk_drew ?_ | refine blk_alloc ?_ _)); refine blk_far ?_ NB273_277.out _; (with_reducible repeat (first | refine blk_drewN ?_ _ | refine blk_drew ?_ | refine blk_alloc ?_ _)); refine blk_far ?_ NB273_277.out _; (with_reducible repeat (first | refine blk_drewN ?_ _ | refine blk_drew ?_ | refine blk_alloc ?_ _)); refine blk_far ?_ NB273_277.out _; (with_reducible repeat (first | refine blk_drewN ?_ _ | refine blk_drew ?_ | refine blk_alloc ?_ _)); exact BK273.out) hb); have n4_ := Aside0.mk (blk_below (g := gb277) (o := .cells #[.int .i64 t274, .int .i64 t275, .int .i64 t276] 101 (0, 0)) (by (with_reducible repeat (first | refine blk_drewN ?_ _ | refine blk_drew ?_ | refine blk_alloc ?_ _)); refine blk_put (cs := #[.int .i64 t274, .int .i64 t275, .int .i64 0]) ?_ 2 _ rfl; (with_reducible repeat (first | refine blk_drewN ?_ _ | refine blk_drew ?_ | refine blk_alloc ?_ _)); refine blk_put (cs := #[.int .i64 t274, .int .i64 0, .int .i64 0]) ?_ 1 _ rfl; (with_reducible repeat (first | refine blk_drewN ?_ _ | refine blk_drew ?_ | refine blk_alloc ?_ _)); refine blk_put (cs := #[.int .i64 0, .int .i64 0, .int .i64 0]) ?_ 0 _ rfl; (with_reducible repeat (first | refine blk_drewN ?_ _ | refine blk_drew ?_ | refine blk_alloc ?_ _)); exact BK277.out) hb); have n5_ := Aside0.mk (below_step (by repeat (first | (with_reducible first | exact HB.out | apply below_alloc | apply pw_below_drewN | apply below_drew1 | refine below_set ?_ GE236.out | refine below_set ?_ GE238.out | refine below_set ?_ GE268.out | refine below_set ?_ GE273.out | refine below_set ?_ GE277.out) | exact HB.out)) hb); clear BK236; clear BK238; clear BK268; clear BK273; clear BK277; clear HB; have BK236 := n0_; have BK238 := n1_; have BK268 := n2_; have BK273 := n3_; have BK277 := n4_; have HB := n5_; clear n0_ n1_ n2_ n3_ n4_ n5_; (try clear hb); (try clear hb2); (try clear hk); (try clear hi); have hcz142_0 : w141.cell? ⟨gb236, 0, none⟩ = some (.int .i64 0) := (blk_cell BK236.out 0).trans rfl; have hcz142_1 : w141.cell? ⟨gb236, 1, none⟩ = some (.int .i64 0) := (blk_cell BK236.out 1).trans rfl; have hcz142_2 : w141.cell? ⟨gb236, 2, none⟩ = some (.int .i64 0) := (blk_cell BK236.out 2).trans rfl; have hfz142_0 := blk_frozen BK236.out 0; have hfz142_1 := blk_frozen BK236.out 1; have hfz142_2 := blk_frozen BK236.out 2))
                              refine bodyPost_ret (results_ct rfl _ _ gb236 101 #[.int .i64 t278, .int .i64 t279, .int .i64 t280] (0, 0) _ rfl (by (with_reducible repeat (first | refine blk_drewN ?_ _ | refine blk_drew ?_ | refine blk_alloc ?_ _)); refine blk_put (cs := #[.int .i64 t278, .int .i64 t279, .int .i64 0]) ?_ 2 _ rfl; (with_reducible repeat (first | refine blk_drewN ?_ _ | refine blk_drew ?_ | refine blk_alloc ?_ _)); refine blk_put (cs := #[.int .i64 t278, .int .i64 0, .int .i64 0]) ?_ 1 _ rfl; (with_reducible repeat (first | refine blk_drewN ?_ _ | refine blk_drew ?_ | refine blk_alloc ?_ _)); refine blk_put (cs := #[.int .i64 0, .int .i64 0, .int .i64 0]) ?_ 0 _ rfl; (with_reducible repeat (first | refine blk_drewN ?_ _ | refine blk_drew ?_ | refine blk_alloc ?_ _)); exact BK236.out) Tryd.underlying101 rfl (by kernel_rfl)) rfl ?_
                              exact ⟨by first | rfl | (simp [errW_none, errW_some] <;> rfl) | (simp [*, errW_none, errW_some] <;> rfl), by repeat (first | (with_reducible first | exact HB.out | apply below_alloc | apply pw_below_drewN | apply below_drew1 | refine below_set ?_ GE236.out | refine below_set ?_ GE238.out | refine below_set ?_ GE268.out | refine below_set ?_ GE273.out | refine below_set ?_ GE277.out) | exact HB.out)⟩
                            · replace c118 := Bool.eq_false_iff.mpr c118
                              subst c118
                              have H1 : (some (t274, t275, t276, t272)) = some (r1, r2, r3, r4) := by rw [if_neg (show ¬ (false = true) by decide)] at H; exact H
                              clear H
                              have H := H1
                              clear H1
                              simp only [Option.some.injEq, Prod.mk.injEq] at H
                              obtain ⟨rfl, rfl, rfl, rfl⟩ := H
                              go_wp2_with (first | ((with_reducible refine gate_callee (f := 58) rfl ?_); refine goesL_ (some 126) rfl rfl Tryd.func58 (by kernel_rfl) rfl #[.slice (some ad237) l0.length c0, .int .i64 (wrap64 (a1 - 1)), .slice A2 l2.length c2, .int .i64 a3, .bool false] rfl (by (try simp only [List.map_toArray, List.map_cons, List.map_nil]); first | done | rfl | (simp only [List.length_drop, List.length_take]; rfl)) ?_; (with_reducible refine (ih kj54 (by have := HJ42.out; have := HJ54.out; omega) _ _ l0 (wrap64 (a1 - 1)) _ _ l2 a3 false t264 t265 t266 t267 _ ?side1 ?side2 ?side3 ?side4 A112.out).mono ?_); (case side1 => repeat (first | exact (Kd.C_below HR0.out HB.out) | (with_reducible refine Kd.C_alloc ?_ _) | (with_reducible refine Kd.C_drewN ?_ _) | (with_reducible refine Kd.C_drew ?_))); (case side2 => exact HC0.out); (case side3 => repeat (first | exact (Kd.C_below HR2.out HB.out) | (with_reducible refine Kd.C_alloc ?_ _) | (with_reducible refine Kd.C_drewN ?_ _) | (with_reducible refine Kd.C_drew ?_))); (case side4 => exact HC2.out); rintro e w143 ⟨rfl, hb⟩; refine ⟨_, rfl, ?_⟩; have n0_ := Aside0.mk (blk_below (g := gb236) (o := .cells #[.int .i64 0, .int .i64 0, .int .i64 0] 101 (0, 0)) (by (with_reducible repeat (first | refine blk_drewN ?_ _ | refine blk_drew ?_ | refine blk_alloc ?_ _)); exact BK236.out) hb); have n1_ := Aside0.mk (blk_below (g := gb238) (o := .cells #[.int .i64 ((rd_T40 l0 a1).f0), .int .i64 ((rd_T40 l0 a1).f1), .int .i64 ((rd_T40 l0 a1).f2)] 40 (0, 0)) (by (with_reducible repeat (first | refine blk_drewN ?_ _ | refine blk_drew ?_ | refine blk_alloc ?_ _)); exact BK238.out) hb); have n2_ := Aside0.mk (below_step (by repeat (first | (with_reducible first | exact HB.out | apply below_alloc | apply pw_below_drewN | apply below_drew1 | refine below_set ?_ GE236.out | refine below_set ?_ GE238.out) | exact HB.out)) hb); clear BK236; clear BK238; clear HB; have BK236 := n0_; have BK238 := n1_; have HB := n2_; clear n0_ n1_ n2_; (try clear hb); (try clear hb2); (try clear hk); (try clear hi)) | ((with_reducible refine gate_dst (N := 15) rfl ?_); (try (refine gate_guard (by rfl) ?_; dsimp only)); refine box_event ?hg (N := 15) ?hd (cs := #[.int .i64 0, .int .i64 0, .int .i64 0]) (t := 101) ?hr ?_; (case hd => rfl); (case hg => rfl); (case hr => first | (go_simp; done) | (go_simp; rfl)); intro gb268 hg w144 hbox hb; have n0_ := Aside0.mk (blk_below (g := gb236) (o := .cells #[.int .i64 0, .int .i64 0, .int .i64 0] 101 (0, 0)) (by (with_reducible repeat (first | refine blk_drewN ?_ _ | refine blk_drew ?_ | refine blk_alloc ?_ _)); exact BK236.out) hb); have n1_ := Aside0.mk (blk_below (g := gb238) (o := .cells #[.int .i64 ((rd_T40 l0 a1).f0), .int .i64 ((rd_T40 l0 a1).f1), .int .i64 ((rd_T40 l0 a1).f2)] 40 (0, 0)) (by (with_reducible repeat (first | refine blk_drewN ?_ _ | refine blk_drew ?_ | refine blk_alloc ?_ _)); exact BK238.out) hb); have n2_ := Aside0.mk (below_step (by repeat (first | (with_reducible first | exact HB.out | apply below_alloc | apply pw_below_drewN | apply below_drew1 | refine below_set ?_ GE236.out | refine below_set ?_ GE238.out) | exact HB.out)) hb); have n3_ := Aside0.mk (hbox); have n4_ := Aside0.mk ((by rw [hg]; exact (below_size (by repeat (first | (with_reducible first | exact HB.out | apply below_alloc | apply pw_below_drewN | apply below_drew1 | refine below_set ?_ GE236.out | refine below_set ?_ GE238.out) | exact HB.out))) : w.heap.size ≤ gb268)); have n5_ := Aside0.mk ((by rw [hg]; exact (below_size (by repeat (first | (with_reducible first | exact HB.out | apply below_alloc | apply pw_below_drewN | apply below_drew1 | refine below_set ?_ GE236.out | refine below_set ?_ GE238.out) | exact HB.out))) : w.heap.size ≤ gb268)); have n6_ := Aside0.mk ((by rw [hg]; exact Nat.ne_of_lt (blk_lt (g := gb236) (o := .cells #[.int .i64 0, .int .i64 0, .int .i64 0] 101 (0, 0)) (by (with_reducible repeat (first | refine blk_drewN ?_ _ | refine blk_drew ?_ | refine blk_alloc ?_ _)); exact BK236.out)) : gb236 ≠ gb268)); have n7_ := Aside0.mk ((by rw [hg]; exact Nat.ne_of_gt (blk_lt (g := gb236) (o := .cells #[.int .i64 0, .int .i64 0, .int .i64 0] 101 (0, 0)) (by (with_reducible repeat (first | refine blk_drewN ?_ _ | refine blk_drew ?_ | refine blk_alloc ?_ _)); exact BK236.out)) : gb268 ≠ gb236)); have n8_ := Aside0.mk ((by rw [hg]; exact Nat.ne_of_lt (blk_lt (g := gb238) (o := .cells #[.int .i64 ((rd_T40 l0 a1).f0), .int .i64 ((rd_T40 l0 a1).f1), .int .i64 ((rd_T40 l0 a1).f2)] 40 (0, 0)) (by (with_reducible repeat (first | refine blk_drewN ?_ _ | refine blk_drew ?_ | refine blk_alloc ?_ _)); exact BK238.out)) : gb238 ≠ gb268)); have n9_ := Aside0.mk ((by rw [hg]; exact Nat.ne_of_gt (blk_lt (g := gb238) (o := .cells #[.int .i64 ((rd_T40 l0 a1).f0), .int .i64 ((rd_T40 l0 a1).f1), .int .i64 ((rd_T40 l0 a1).f2)] 40 (0, 0)) (by (with_reducible repeat (first | refine blk_drewN ?_ _ | refine blk_drew ?_ | refine blk_alloc ?_ _)); exact BK238.out)) : gb268 ≠ gb238)); clear BK236; clear BK238; clear HB; have BK236 := n0_; have BK238 := n1_; have HB := n2_; have BK268 := n3_; have GW268 := n4_; have GE268 := n5_; have NB236_268 := n6_; have NB268_236 := n7_; have NB238_268 := n8_; have NB268_238 := n9_; clear n0_ n1_ n2_ n3_ n4_ n5_ n6_ n7_ n8_ n9_; clear hb hbox hg; have hnb145 := NB268_236.out; have hnc145 := NB236_268.out; have hnb146 := NB268_238.out; have hnc146 := NB238_268.out; have hcz147_0 : w144.cell? ⟨gb268, 0, none⟩ = some (.int .i64 0) := (blk_cell BK268.out 0).trans rfl; have hcz147_1 : w144.cell? ⟨gb268, 1, none⟩ = some (.int .i64 0) := (blk_cell BK268.out 1).trans rfl; have hcz147_2 : w144.cell? ⟨gb268, 2, none⟩ = some (.int .i64 0) := (blk_cell BK268.out 2).trans rfl; have hfz147_0 := blk_frozen BK268.out 0; have hfz147_1 := blk_frozen BK268.out 1; have hfz147_2 := blk_frozen BK268.out 2) | ((with_reducible refine gate_callee (f := 58) rfl ?_); refine goesL_ (some 136) rfl rfl Tryd.func58 (by kernel_rfl) rfl #[.slice (some ad237) l0.length c0, .int .i64 (wrap64 (t267 - 1)), .slice A2 l2.length c2, .int .i64 a3, .bool false] rfl (by (try simp only [List.map_toArray, List.map_cons, List.map_nil]); first | done | rfl | (simp only [List.length_drop, List.length_take]; rfl)) ?_; (with_reducible refine (ih kj54 (by have := HJ42.out; have := HJ54.out; omega) _ _ l0 (wrap64 (t267 - 1)) _ _ l2 a3 false t269 t270 t271 t272 _ ?side1 ?side2 ?side3 ?side4 A113.out).mono ?_); (case side1 => exact Kd.C_below HR0.out (by repeat (first | (with_reducible first | exact HB.out | apply below_alloc | apply pw_below_drewN | apply below_drew1 | refine below_set ?_ GE236.out | refine below_set ?_ GE238.out | refine below_set ?_ GE268.out) | exact HB.out))); (case side2 => exact HC0.out); (case side3 => exact Kd.C_below HR2.out (by repeat (first | (with_reducible first | exact HB.out | apply below_alloc | apply pw_below_drewN | apply below_drew1 | refine below_set ?_ GE236.out | refine below_set ?_ GE238.out | refine below_set ?_ GE268.out) | exact HB.out))); (case side4 => exact HC2.out); rintro e w148 ⟨rfl, hb⟩; refine ⟨_, rfl, ?_⟩; have n0_ := Aside0.mk (blk_below (g := gb236) (o := .cells #[.int .i64 0, .int .i64 0, .int .i64 0] 101 (0, 0)) (by (with_reducible repeat (first | refine blk_drewN ?_ _ | refine blk_drew ?_ | refine blk_alloc ?_ _)); refine blk_far ?_ NB236_268.out _; (with_reducible repeat (first | refine blk_drewN ?_ _ | refine blk_drew ?_ | refine blk_alloc ?_ _)); refine blk_far ?_ NB236_268.out _; (with_reducible repeat (first | refine blk_drewN ?_ _ | refine blk_drew ?_ | refine blk_alloc ?_ _)); refine blk_far ?_ NB236_268.out _; (with_reducible repeat (first | refine blk_drewN ?_ _ | refine blk_drew ?_ | refine blk_alloc ?_ _)); exact BK236.out) hb); have n1_ := Aside0.mk (blk_below (g := gb238) (o := .cells #[.int .i64 ((rd_T40 l0 a1).f0), .int .i64 ((rd_T40 l0 a1).f1), .int .i64 ((rd_T40 l0 a1).f2)] 40 (0, 0)) (by (with_reducible repeat (first | refine blk_drewN ?_ _ | refine blk_drew ?_ | refine blk_alloc ?_ _)); refine blk_far ?_ NB238_268.out _; (with_reducible repeat (first | refine blk_drewN ?_ _ | refine blk_drew ?_ | refine blk_alloc ?_ _)); refine blk_far ?_ NB238_268.out _; (with_reducible repeat (first | refine blk_drewN ?_ _ | refine blk_drew ?_ | refine blk_alloc ?_ _)); refine blk_far ?_ NB238_268.out _; (with_reducible repeat (first | refine blk_drewN ?_ _ | refine blk_drew ?_ | refine blk_alloc ?_ _)); exact BK238.out) hb); have n2_ := Aside0.mk (blk_below (g := gb268) (o := .cells #[.int .i64 t264, .int .i64 t265, .int .i64 t266] 101 (0, 0)) (by (with_reducible repeat (first | refine blk_drewN ?_ _ | refine blk_drew ?_ | refine blk_alloc ?_ _)); refine blk_put (cs := #[.int .i64 t264, .int .i64 t265, .int .i64 0]) ?_ 2 _ rfl; (with_reducible repeat (first | refine blk_drewN ?_ _ | refine blk_drew ?_ | refine blk_alloc ?_ _)); refine blk_put (cs := #[.int .i64 t264, .int .i64 0, .int .i64 0]) ?_ 1 _ rfl; (with_reducible repeat (first | refine blk_drewN ?_ _ | refine blk_drew ?_ | refine blk_alloc ?_ _)); refine blk_put (cs := #[.int .i64 0, .int .i64 0, .int .i64 0]) ?_ 0 _ rfl; (with_reducible repeat (first | refine blk_drewN ?_ _ | refine blk_drew ?_ | refine blk_alloc ?_ _)); exact BK268.out) hb); have n3_ := Aside0.mk (below_step (by repeat (first | (with_reducible first | exact HB.out | apply below_alloc | apply pw_below_drewN | apply below_drew1 | refine below_set ?_ GE236.out | refine below_set ?_ GE238.out | refine below_set ?_ GE268.out) | exact HB.out)) hb); clear BK236; clear BK238; clear BK268; clear HB; have BK236 := n0_; have BK238 := n1_; have BK268 := n2_; have HB := n3_; clear n0_ n1_ n2_ n3_; (try clear hb); (try clear hb2); (try clear hk); (try clear hi)) | ((with_reducible refine gate_dst (N := 17) rfl ?_); (try (refine gate_guard (by rfl) ?_; dsimp only)); refine box_event ?hg (N := 17) ?hd (cs := #[.int .i64 0, .int .i64 0, .int .i64 0]) (t := 101) ?hr ?_; (case hd => rfl); (case hg => rfl); (case hr => first | (go_simp; done) | (go_simp; rfl)); intro gb273 hg w149 hbox hb; have n0_ := Aside0.mk (blk_below (g := gb236) (o := .cells #[.int .i64 0, .int .i64 0, .int .i64 0] 101 (0, 0)) (by (with_reducible repeat (first | refine blk_drewN ?_ _ | refine blk_drew ?_ | refine blk_alloc ?_ _)); exact BK236.out) hb); have n1_ := Aside0.mk (blk_below (g := gb238) (o := .cells #[.int .i64 ((rd_T40 l0 a1).f0), .int .i64 ((rd_T40 l0 a1).f1), .int .i64 ((rd_T40 l0 a1).f2)] 40 (0, 0)) (by (with_reducible repeat (first | refine blk_drewN ?_ _ | refine blk_drew ?_ | refine blk_alloc ?_ _)); exact BK238.out) hb); have n2_ := Aside0.mk (blk_below (g := gb268) (o := .cells #[.int .i64 t264, .int .i64 t265, .int .i64 t266] 101 (0, 0)) (by (with_reducible repeat (first | refine blk_drewN ?_ _ | refine blk_drew ?_ | refine blk_alloc ?_ _)); exact BK268.out) hb); have n3_ := Aside0.mk (below_step (by repeat (first | (with_reducible first | exact HB.out | apply below_alloc | apply pw_below_drewN | apply below_drew1 | refine below_set ?_ GE236.out | refine below_set ?_ GE238.out | refine below_set ?_ GE268.out) | exact HB.out)) hb); have n4_ := Aside0.mk (hbox); have n5_ := Aside0.mk ((by rw [hg]; exact (below_size (by repeat (first | (with_reducible first | exact HB.out | apply below_alloc | apply pw_below_drewN | apply below_drew1 | refine below_set ?_ GE236.out | refine below_set ?_ GE238.out | refine below_set ?_ GE268.out) | exact HB.out))) : w.heap.size ≤ gb273)); have n6_ := Aside0.mk ((by rw [hg]; exact (below_size (by repeat (first | (with_reducible first | exact HB.out | apply below_alloc | apply pw_below_drewN | apply below_drew1 | refine below_set ?_ GE236.out | refine below_set ?_ GE238.out | refine below_set ?_ GE268.out) | exact HB.out))) : w.heap.size ≤ gb273)); have n7_ := Aside0.mk ((by rw [hg]; exact Nat.ne_of_lt (blk_lt (g := gb236) (o := .cells #[.int .i64 0, .int .i64 0, .int .i64 0] 101 (0, 0)) (by (with_reducible repeat (first | refine blk_drewN ?_ _ | refine blk_drew ?_ | refine blk_alloc ?_ _)); exact BK236.out)) : gb236 ≠ gb273)); have n8_ := Aside0.mk ((by rw [hg]; exact Nat.ne_of_gt (blk_lt (g := gb236) (o := .cells #[.int .i64 0, .int .i64 0, .int .i64 0] 101 (0, 0)) (by (with_reducible repeat (first | refine blk_drewN ?_ _ | refine blk_drew ?_ | refine blk_alloc ?_ _)); exact BK236.out)) : gb273 ≠ gb236)); have n9_ := Aside0.mk ((by rw [hg]; exact Nat.ne_of_lt (blk_lt (g := gb238) (o := .cells #[.int .i64 ((rd_T40 l0 a1).f0), .int .i64 ((rd_T40 l0 a1).f1), .int .i64 ((rd_T40 l0 a1).f2)] 40 (0, 0)) (by (with_reducible repeat (first | refine blk_drewN ?_ _ | refine blk_drew ?_ | refine blk_alloc ?_ _)); exact BK238.out)) : gb238 ≠ gb273)); have n10_ := Aside0.mk ((by rw [hg]; exact Nat.ne_of_gt (blk_lt (g := gb238) (o := .cells #[.int .i64 ((rd_T40 l0 a1).f0), .int .i64 ((rd_T40 l0 a1).f1), .int .i64 ((rd_T40 l0 a1).f2)] 40 (0, 0)) (by (with_reducible repeat (first | refine blk_drewN ?_ _ | refine blk_drew ?_ | refine blk_alloc ?_ _)); exact BK238.out)) : gb273 ≠ gb238)); have n11_ := Aside0.mk ((by rw [hg]; exact Nat.ne_of_lt (blk_lt (g := gb268) (o := .cells #[.int .i64 t264, .int .i64 t265, .int .i64 t266] 101 (0, 0)) (by (with_reducible repeat (first | refine blk_drewN ?_ _ | refine blk_drew ?_ | refine blk_alloc ?_ _)); exact BK268.out)) : gb268 ≠ gb273)); have n12_ := Aside0.mk ((by rw [hg]; exact Nat.ne_of_gt (blk_lt (g := gb268) (o := .cells #[.int .i64 t264, .int .i64 t265, .int .i64 t266] 101 (0, 0)) (by (with_reducible repeat (first | refine blk_drewN ?_ _ | refine blk_drew ?_ | refine blk_alloc ?_ _)); exact BK268.out)) : gb273 ≠ gb268)); clear BK236; clear BK238; clear BK268; clear HB; have BK236 := n0_; have BK238 := n1_; have BK268 := n2_; have HB := n3_; have BK273 := n4_; have GW273 := n5_; have GE273 := n6_; have NB236_273 := n7_; have NB273_236 := n8_; have NB238_273 := n9_; have NB273_238 := n10_; have NB268_273 := n11_; have NB273_268 := n12_; clear n0_ n1_ n2_ n3_ n4_ n5_ n6_ n7_ n8_ n9_ n10_ n11_ n12_; clear hb hbox hg; have hnb150 := NB273_236.out; have hnc150 := NB236_273.out; have hnb151 := NB273_238.out; have hnc151 := NB238_273.out; have hnb152 := NB273_268.out; have hnc152 := NB268_273.out; have hcz153_0 : w149.cell? ⟨gb273, 0, none⟩ = some (.int .i64 0) := (blk_cell BK273.out 0).trans rfl; have hcz153_1 : w149.cell? ⟨gb273, 1, none⟩ = some (.int .i64 0) := (blk_cell BK273.out 1).trans rfl; have hcz153_2 : w149.cell? ⟨gb273, 2, none⟩ = some (.int .i64 0) := (blk_cell BK273.out 2).trans rfl; have hfz153_0 := blk_frozen BK273.out 0; have hfz153_1 := blk_frozen BK273.out 1; have hfz153_2 := blk_frozen BK273.out 2; have hcz154_0 : w149.cell? ⟨gb268, 0, none⟩ = some (.int .i64 t264) := (blk_cell BK268.out 0).trans rfl; have hcz154_1 : w149.cell? ⟨gb268, 1, none⟩ = some (.int .i64 t265) := (blk_cell BK268.out 1).trans rfl; have hcz154_2 : w149.cell? ⟨gb268, 2, none⟩ = some (.int .i64 t266) := (blk_cell BK268.out 2).trans rfl; have hfz154_0 := blk_frozen BK268.out 0; have hfz154_1 := blk_frozen BK268.out 1; have hfz154_2 := blk_frozen BK268.out 2; have hnb155 := NB238_236.out; have hnc155 := NB236_238.out; have hcz156_0 : w149.cell? ⟨gb238, 0, none⟩ = some (.int .i64 ((rd_T40 l0 a1).f0)) := (blk_cell BK238.out 0).trans rfl; have hcz156_1 : w149.cell? ⟨gb238, 1, none⟩ = some (.int .i64 ((rd_T40 l0 a1).f1)) := (blk_cell BK238.out 1).trans rfl; have hcz156_2 : w149.cell? ⟨gb238, 2, none⟩ = some (.int .i64 ((rd_T40 l0 a1).f2)) := (blk_cell BK238.out 2).trans rfl; have hfz156_0 := blk_frozen BK238.out 0; have hfz156_1 := blk_frozen BK238.out 1; have hfz156_2 := blk_frozen BK238.out 2) | ((with_reducible refine gate_callee (f := 92) rfl ?_); refine goesL_ (some 155) rfl rfl Tryd.func92 (by kernel_rfl) rfl #[.int .i64 ((rd_T40 l0 a1).f0), .agg #[.int .i64 t269, .int .i64 t270], .agg #[.int .i64 t264, .int .i64 t265]] rfl (by (try simp only [List.map_toArray, List.map_cons, List.map_nil]); first | done | rfl | (simp only [List.length_drop, List.length_take]; rfl)) ?_; (with_reducible refine (spinetref04_two.calls kj54 ((rd_T40 l0 a1).f0) t269 t270 t264 t265 t274 t275 t276 _ A116.out).mono ?_); rintro e w157 ⟨rfl, hb⟩; refine ⟨_, rfl, ?_⟩; have n0_ := Aside0.mk (blk_below (g := gb236) (o := .cells #[.int .i64 0, .int .i64 0, .int .i64 0] 101 (0, 0)) (by (with_reducible repeat (first | refine blk_drewN ?_ _ | refine blk_drew ?_ | refine blk_alloc ?_ _)); refine blk_far ?_ NB236_273.out _; (with_reducible repeat (first | refine blk_drewN ?_ _ | refine blk_drew ?_ | refine blk_alloc ?_ _)); refine blk_far ?_ NB236_273.out _; (with_reducible repeat (first | refine blk_drewN ?_ _ | refine blk_drew ?_ | refine blk_alloc ?_ _)); refine blk_far ?_ NB236_273.out _; (with_reducible repeat (first | refine blk_drewN ?_ _ | refine blk_drew ?_ | refine blk_alloc ?_ _)); exact BK236.out) hb); have n1_ := Aside0.mk (blk_below (g := gb238) (o := .cells #[.int .i64 ((rd_T40 l0 a1).f0), .int .i64 ((rd_T40 l0 a1).f1), .int .i64 ((rd_T40 l0 a1).f2)] 40 (0, 0)) (by (with_reducible repeat (first | refine blk_drewN ?_ _ | refine blk_drew ?_ | refine blk_alloc ?_ _)); refine blk_far ?_ NB238_273.out _; (with_reducible repeat (first | refine blk_drewN ?_ _ | refine blk_drew ?_ | refine blk_alloc ?_ _)); refine blk_far ?_ NB238_273.out _; (with_reducible repeat (first | refine blk_drewN ?_ _ | refine blk_drew ?_ | refine blk_alloc ?_ _)); refine blk_far ?_ NB238_273.out _; (with_reducible repeat (first | refine blk_drewN ?_ _ | refine blk_drew ?_ | refine blk_alloc ?_ _)); exact BK238.out) hb); have n2_ := Aside0.mk (blk_below (g := gb268) (o := .cells #[.int .i64 t264, .int .i64 t265, .int .i64 t266] 101 (0, 0)) (by (with_reducible repeat (first | refine blk_drewN ?_ _ | refine blk_drew ?_ | refine blk_alloc ?_ _)); refine blk_far ?_ NB268_273.out _; (with_reducible repeat (first | refine blk_drewN ?_ _ | refine blk_drew ?_ | refine blk_alloc ?_ _)); refine blk_far ?_ NB268_273.out _; (with_reducible repeat (first | refine blk_drewN ?_ _ | refine blk_drew ?_ | refine blk_alloc ?_ _)); refine blk_far ?_ NB268_273.out _; (with_reducible repeat (first | refine blk_drewN ?_ _ | refine blk_drew ?_ | refine blk_alloc ?_ _)); exact BK268.out) hb); have n3_ := Aside0.mk (blk_below (g := gb273) (o := .cells #[.int .i64 t269, .int .i64 t270, .int .i64 t271] 101 (0, 0)) (by (with_reducible repeat (first | refine blk_drewN ?_ _ | refine blk_drew ?_ | refine blk_alloc ?_ _)); refine blk_put (cs := #[.int .i64 t269, .int .i64 t270, .int .i64 0]) ?_ 2 _ rfl; (with_reducible repeat (first | refine blk_drewN ?_ _ | refine blk_drew ?_ | refine blk_alloc ?_ _)); refine blk_put (cs := #[.int .i64 t269, .int .i64 0, .int .i64 0]) ?_ 1 _ rfl; (with_reducible repeat (first | refine blk_drewN ?_ _ | refine blk_drew ?_ | refine blk_alloc ?_ _)); refine blk_put (cs := #[.int .i64 0, .int .i64 0, .int .i64 0]) ?_ 0 _ rfl; (with_reducible repeat (first | refine blk_drewN ?_ _ | refine blk_drew ?_ | refine blk_alloc ?_ _)); exact BK273.out) hb); have n4_ := Aside0.mk (below_step (by repeat (first | (with_reducible first | exact HB.out | apply below_alloc | apply pw_below_drewN | apply below_drew1 | refine below_set ?_ GE236.out | refine below_set ?_ GE238.out | refine below_set ?_ GE268.out | refine below_set ?_ GE273.out) | exact HB.out)) hb); clear BK236; clear BK238; clear BK268; clear BK273; clear HB; have BK236 := n0_; have BK238 := n1_; have BK268 := n2_; have BK273 := n3_; have HB := n4_; clear n0_ n1_ n2_ n3_ n4_; (try clear hb); (try clear hb2); (try clear hk); (try clear hi)) | ((with_reducible refine gate_dst (N := 19) rfl ?_); (try (refine gate_guard (by rfl) ?_; dsimp only)); refine box_event ?hg (N := 19) ?hd (cs := #[.int .i64 0, .int .i64 0, .int .i64 0]) (t := 101) ?hr ?_; (case hd => rfl); (case hg => rfl); (case hr => first | (go_simp; done) | (go_simp; rfl)); intro gb277 hg w158 hbox hb; have n0_ := Aside0.mk (blk_below (g := gb236) (o := .cells #[.int .i64 0, .int .i64 0, .int .i64 0] 101 (0, 0)) (by (with_reducible repeat (first | refine blk_drewN ?_ _ | refine blk_drew ?_ | refine blk_alloc ?_ _)); exact BK236.out) hb); have n1_ := Aside0.mk (blk_below (g := gb238) (o := .cells #[.int .i64 ((rd_T40 l0 a1).f0), .int .i64 ((rd_T40 l0 a1).f1), .int .i64 ((rd_T40 l0 a1).f2)] 40 (0, 0)) (by (with_reducible repeat (first | refine blk_drewN ?_ _ | refine blk_drew ?_ | refine blk_alloc ?_ _)); exact BK238.out) hb); have n2_ := Aside0.mk (blk_below (g := gb268) (o := .cells #[.int .i64 t264, .int .i64 t265, .int .i64 t266] 101 (0, 0)) (by (with_reducible repeat (first | refine blk_drewN ?_ _ | refine blk_drew ?_ | refine blk_alloc ?_ _)); exact BK268.out) hb); have n3_ := Aside0.mk (blk_below (g := gb273) (o := .cells #[.int .i64 t269, .int .i64 t270, .int .i64 t271] 101 (0, 0)) (by (with_reducible repeat (first | refine blk_drewN ?_ _ | refine blk_drew ?_ | refine blk_alloc ?_ _)); exact BK273.out) hb); have n4_ := Aside0.mk (below_step (by repeat (first | (with_reducible first | exact HB.out | apply below_alloc | apply pw_below_drewN | apply below_drew1 | refine below_set ?_ GE236.out | refine below_set ?_ GE238.out | refine below_set ?_ GE268.out | refine below_set ?_ GE273.out) | exact HB.out)) hb); have n5_ := Aside0.mk (hbox); have n6_ := Aside0.mk ((by rw [hg]; exact (below_size (by repeat (first | (with_reducible first | exact HB.out | apply below_alloc | apply pw_below_drewN | apply below_drew1 | refine below_set ?_ GE236.out | refine below_set ?_ GE238.out | refine below_set ?_ GE268.out | refine below_set ?_ GE273.out) | exact HB.out))) : w.heap.size ≤ gb277)); have n7_ := Aside0.mk ((by rw [hg]; exact (below_size (by repeat (first | (with_reducible first | exact HB.out | apply below_alloc | apply pw_below_drewN | apply below_drew1 | refine below_set ?_ GE236.out | refine below_set ?_ GE238.out | refine below_set ?_ GE268.out | refine below_set ?_ GE273.out) | exact HB.out))) : w.heap.size ≤ gb277)); have n8_ := Aside0.mk ((by rw [hg]; exact Nat.ne_of_lt (blk_lt (g := gb236) (o := .cells #[.int .i64 0, .int .i64 0, .int .i64 0] 101 (0, 0)) (by (with_reducible repeat (first | refine blk_drewN ?_ _ | refine blk_drew ?_ | refine blk_alloc ?_ _)); exact BK236.out)) : gb236 ≠ gb277)); have n9_ := Aside0.mk ((by rw [hg]; exact Nat.ne_of_gt (blk_lt (g := gb236) (o := .cells #[.int .i64 0, .int .i64 0, .int .i64 0] 101 (0, 0)) (by (with_reducible repeat (first | refine blk_drewN ?_ _ | refine blk_drew ?_ | refine blk_alloc ?_ _)); exact BK236.out)) : gb277 ≠ gb236)); have n10_ := Aside0.mk ((by rw [hg]; exact Nat.ne_of_lt (blk_lt (g := gb238) (o := .cells #[.int .i64 ((rd_T40 l0 a1).f0), .int .i64 ((rd_T40 l0 a1).f1), .int .i64 ((rd_T40 l0 a1).f2)] 40 (0, 0)) (by (with_reducible repeat (first | refine blk_drewN ?_ _ | refine blk_drew ?_ | refine blk_alloc ?_ _)); exact BK238.out)) : gb238 ≠ gb277)); have n11_ := Aside0.mk ((by rw [hg]; exact Nat.ne_of_gt (blk_lt (g := gb238) (o := .cells #[.int .i64 ((rd_T40 l0 a1).f0), .int .i64 ((rd_T40 l0 a1).f1), .int .i64 ((rd_T40 l0 a1).f2)] 40 (0, 0)) (by (with_reducible repeat (first | refine blk_drewN ?_ _ | refine blk_drew ?_ | refine blk_alloc ?_ _)); exact BK238.out)) : gb277 ≠ gb238)); have n12_ := Aside0.mk ((by rw [hg]; exact Nat.ne_of_lt (blk_lt (g := gb268) (o := .cells #[.int .i64 t264, .int .i64 t265, .int .i64 t266] 101 (0, 0)) (by (with_reducible repeat (first | refine blk_drewN ?_ _ | refine blk_drew ?_ | refine blk_alloc ?_ _)); exact BK268.out)) : gb268 ≠ gb277)); have n13_ := Aside0.mk ((by rw [hg]; exact Nat.ne_of_gt (blk_lt (g := gb268) (o := .cells #[.int .i64 t264, .int .i64 t265, .int .i64 t266] 101 (0, 0)) (by (with_reducible repeat (first | refine blk_drewN ?_ _ | refine blk_drew ?_ | refine blk_alloc ?_ _)); exact BK268.out)) : gb277 ≠ gb268)); have n14_ := Aside0.mk ((by rw [hg]; exact Nat.ne_of_lt (blk_lt (g := gb273) (o := .cells #[.int .i64 t269, .int .i64 t270, .int .i64 t271] 101 (0, 0)) (by (with_reducible repeat (first | refine blk_drewN ?_ _ | refine blk_drew ?_ | refine blk_alloc ?_ _)); exact BK273.out)) : gb273 ≠ gb277)); have n15_ := Aside0.mk ((by rw [hg]; exact Nat.ne_of_gt (blk_lt (g := gb273) (o := .cells #[.int .i64 t269, .int .i64 t270, .int .i64 t271] 101 (0, 0)) (by (with_reducible repeat (first | refine blk_drewN ?_ _ | refine blk_drew ?_ | refine blk_alloc ?_ _)); exact BK273.out)) : gb277 ≠ gb273)); clear BK236; clear BK238; clear BK268; clear BK273; clear HB; have BK236 := n0_; have BK238 := n1_; have BK268 := n2_; have BK273 := n3_; have HB := n4_; have BK277 := n5_; have GW277 := n6_; have GE277 := n7_; have NB236_277 := n8_; have NB277_236 := n9_; have NB238_277 := n10_; have NB277_238 := n11_; have NB268_277 := n12_; have NB277_268 := n13_; have NB273_277 := n14_; have NB277_273 := n15_; clear n0_ n1_ n2_ n3_ n4_ n5_ n6_ n7_ n8_ n9_ n10_ n11_ n12_ n13_ n14_ n15_; clear hb hbox hg; have hnb159 := NB277_236.out; have hnc159 := NB236_277.out; have hnb160 := NB277_238.out; have hnc160 := NB238_277.out; have hnb161 := NB277_268.out; have hnc161 := NB268_277.out; have hnb162 := NB277_273.out; have hnc162 := NB273_277.out; have hcz163_0 : w158.cell? ⟨gb277, 0, none⟩ = some (.int .i64 0) := (blk_cell BK277.out 0).trans rfl; have hcz163_1 : w158.cell? ⟨gb277, 1, none⟩ = some (.int .i64 0) := (blk_cell BK277.out 1).trans rfl; have hcz163_2 : w158.cell? ⟨gb277, 2, none⟩ = some (.int .i64 0) := (blk_cell BK277.out 2).trans rfl; have hfz163_0 := blk_frozen BK277.out 0; have hfz163_1 := blk_frozen BK277.out 1; have hfz163_2 := blk_frozen BK277.out 2; have hcz164_0 : w158.cell? ⟨gb236, 0, none⟩ = some (.int .i64 0) := (blk_cell BK236.out 0).trans rfl; have hcz164_1 : w158.cell? ⟨gb236, 1, none⟩ = some (.int .i64 0) := (blk_cell BK236.out 1).trans rfl; have hcz164_2 : w158.cell? ⟨gb236, 2, none⟩ = some (.int .i64 0) := (blk_cell BK236.out 2).trans rfl; have hfz164_0 := blk_frozen BK236.out 0; have hfz164_1 := blk_frozen BK236.out 1; have hfz164_2 := blk_frozen BK236.out 2))
                              refine bodyPost_ret (results_ct rfl _ _ gb236 101 #[.int .i64 t274, .int .i64 t275, .int .i64 t276] (0, 0) _ rfl (by (with_reducible repeat (first | refine blk_drewN ?_ _ | refine blk_drew ?_ | refine blk_alloc ?_ _)); refine blk_put (cs := #[.int .i64 t274, .int .i64 t275, .int .i64 0]) ?_ 2 _ rfl; (with_reducible repeat (first | refine blk_drewN ?_ _ | refine blk_drew ?_ | refine blk_alloc ?_ _)); refine blk_put (cs := #[.int .i64 t274, .int .i64 0, .int .i64 0]) ?_ 1 _ rfl; (with_reducible repeat (first | refine blk_drewN ?_ _ | refine blk_drew ?_ | refine blk_alloc ?_ _)); refine blk_put (cs := #[.int .i64 0, .int .i64 0, .int .i64 0]) ?_ 0 _ rfl; (with_reducible repeat (first | refine blk_drewN ?_ _ | refine blk_drew ?_ | refine blk_alloc ?_ _)); refine blk_far ?_ NB236_277.out _; (with_reducible repeat (first | refine blk_drewN ?_ _ | refine blk_drew ?_ | refine blk_alloc ?_ _)); refine blk_far ?_ NB236_277.out _; (with_reducible repeat (first | refine blk_drewN ?_ _ | refine blk_drew ?_ | refine blk_alloc ?_ _)); refine blk_far ?_ NB236_277.out _; (with_reducible repeat (first | refine blk_drewN ?_ _ | refine blk_drew ?_ | refine blk_alloc ?_ _)); exact BK236.out) Tryd.underlying101 rfl (by kernel_rfl)) rfl ?_
                              exact ⟨by first | rfl | (simp [errW_none, errW_some] <;> rfl) | (simp [*, errW_none, errW_some] <;> rfl), by repeat (first | (with_reducible first | exact HB.out | apply below_alloc | apply pw_below_drewN | apply below_drew1 | refine below_set ?_ GE236.out | refine below_set ?_ GE238.out | refine below_set ?_ GE268.out | refine below_set ?_ GE273.out | refine below_set ?_ GE277.out) | exact HB.out)⟩
                          · rw [if_neg c117] at H
                            have c117b0 : (t276 == 9) = false := beq_eq_false_iff_ne.mpr c117
                            have c117b1 : (t276 != 9) = true := bne_iff_ne.mpr c117
                            simp only [Option.some.injEq, Prod.mk.injEq] at H
                            obtain ⟨rfl, rfl, rfl, rfl⟩ := H
                            go_wp2_with (first | ((with_reducible refine gate_callee (f := 58) rfl ?_); refine goesL_ (some 126) rfl rfl Tryd.func58 (by kernel_rfl) rfl #[.slice (some ad237) l0.length c0, .int .i64 (wrap64 (a1 - 1)), .slice A2 l2.length c2, .int .i64 a3, .bool a4] rfl (by (try simp only [List.map_toArray, List.map_cons, List.map_nil]); first | done | rfl | (simp only [List.length_drop, List.length_take]; rfl)) ?_; (with_reducible refine (ih kj54 (by have := HJ42.out; have := HJ54.out; omega) _ _ l0 (wrap64 (a1 - 1)) _ _ l2 a3 a4 t264 t265 t266 t267 _ ?side1 ?side2 ?side3 ?side4 A112.out).mono ?_); (case side1 => repeat (first | exact (Kd.C_below HR0.out HB.out) | (with_reducible refine Kd.C_alloc ?_ _) | (with_reducible refine Kd.C_drewN ?_ _) | (with_reducible refine Kd.C_drew ?_))); (case side2 => exact HC0.out); (case side3 => repeat (first | exact (Kd.C_below HR2.out HB.out) | (with_reducible refine Kd.C_alloc ?_ _) | (with_reducible refine Kd.C_drewN ?_ _) | (with_reducible refine Kd.C_drew ?_))); (case side4 => exact HC2.out); rintro e w165 ⟨rfl, hb⟩; refine ⟨_, rfl, ?_⟩; have n0_ := Aside0.mk (blk_below (g := gb236) (o := .cells #[.int .i64 0, .int .i64 0, .int .i64 0] 101 (0, 0)) (by (with_reducible repeat (first | refine blk_drewN ?_ _ | refine blk_drew ?_ | refine blk_alloc ?_ _)); exact BK236.out) hb); have n1_ := Aside0.mk (blk_below (g := gb238) (o := .cells #[.int .i64 ((rd_T40 l0 a1).f0), .int .i64 ((rd_T40 l0 a1).f1), .int .i64 ((rd_T40 l0 a1).f2)] 40 (0, 0)) (by (with_reducible repeat (first | refine blk_drewN ?_ _ | refine blk_drew ?_ | refine blk_alloc ?_ _)); exact BK238.out) hb); have n2_ := Aside0.mk (below_step (by repeat (first | (with_reducible first | exact HB.out | apply below_alloc | apply pw_below_drewN | apply below_drew1 | refine below_set ?_ GE236.out | refine below_set ?_ GE238.out) | exact HB.out)) hb); clear BK236; clear BK238; clear HB; have BK236 := n0_; have BK238 := n1_; have HB := n2_; clear n0_ n1_ n2_; (try clear hb); (try clear hb2); (try clear hk); (try clear hi)) | ((with_reducible refine gate_dst (N := 15) rfl ?_); (try (refine gate_guard (by rfl) ?_; dsimp only)); refine box_event ?hg (N := 15) ?hd (cs := #[.int .i64 0, .int .i64 0, .int .i64 0]) (t := 101) ?hr ?_; (case hd => rfl); (case hg => rfl); (case hr => first | (go_simp; done) | (go_simp; rfl)); intro gb268 hg w166 hbox hb; have n0_ := Aside0.mk (blk_below (g := gb236) (o := .cells #[.int .i64 0, .int .i64 0, .int .i64 0] 101 (0, 0)) (by (with_reducible repeat (first | refine blk_drewN ?_ _ | refine blk_drew ?_ | refine blk_alloc ?_ _)); exact BK236.out) hb); have n1_ := Aside0.mk (blk_below (g := gb238) (o := .cells #[.int .i64 ((rd_T40 l0 a1).f0), .int .i64 ((rd_T40 l0 a1).f1), .int .i64 ((rd_T40 l0 a1).f2)] 40 (0, 0)) (by (with_reducible repeat (first | refine blk_drewN ?_ _ | refine blk_drew ?_ | refine blk_alloc ?_ _)); exact BK238.out) hb); have n2_ := Aside0.mk (below_step (by repeat (first | (with_reducible first | exact HB.out | apply below_alloc | apply pw_below_drewN | apply below_drew1 | refine below_set ?_ GE236.out | refine below_set ?_ GE238.out) | exact HB.out)) hb); have n3_ := Aside0.mk (hbox); have n4_ := Aside0.mk ((by rw [hg]; exact (below_size (by repeat (first | (with_reducible first | exact HB.out | apply below_alloc | apply pw_below_drewN | apply below_drew1 | refine below_set ?_ GE236.out | refine below_set ?_ GE238.out) | exact HB.out))) : w.heap.size ≤ gb268)); have n5_ := Aside0.mk ((by rw [hg]; exact (below_size (by repeat (first | (with_reducible first | exact HB.out | apply below_alloc | apply pw_below_drewN | apply below_drew1 | refine below_set ?_ GE236.out | refine below_set ?_ GE238.out) | exact HB.out))) : w.heap.size ≤ gb268)); have n6_ := Aside0.mk ((by rw [hg]; exact Nat.ne_of_lt (blk_lt (g := gb236) (o := .cells #[.int .i64 0, .int .i64 0, .int .i64 0] 101 (0, 0)) (by (with_reducible repeat (first | refine blk_drewN ?_ _ | refine blk_drew ?_ | refine blk_alloc ?_ _)); exact BK236.out)) : gb236 ≠ gb268)); have n7_ := Aside0.mk ((by rw [hg]; exact Nat.ne_of_gt (blk_lt (g := gb236) (o := .cells #[.int .i64 0, .int .i64 0, .int .i64 0] 101 (0, 0)) (by (with_reducible repeat (first | refine blk_drewN ?_ _ | refine blk_drew ?_ | refine blk_alloc ?_ _)); exact BK236.out)) : gb268 ≠ gb236)); have n8_ := Aside0.mk ((by rw [hg]; exact Nat.ne_of_lt (blk_lt (g := gb238) (o := .cells #[.int .i64 ((rd_T40 l0 a1).f0), .int .i64 ((rd_T40 l0 a1).f1), .int .i64 ((rd_T40 l0 a1).f2)] 40 (0, 0)) (by (with_reducible repeat (first | refine blk_drewN ?_ _ | refine blk_drew ?_ | refine blk_alloc ?_ _)); exact BK238.out)) : gb238 ≠ gb268)); have n9_ := Aside0.mk ((by rw [hg]; exact Nat.ne_of_gt (blk_lt (g := gb238) (o := .cells #[.int .i64 ((rd_T40 l0 a1).f0), .int .i64 ((rd_T40 l0 a1).f1), .int .i64 ((rd_T40 l0 a1).f2)] 40 (0, 0)) (by (with_reducible repeat (first | refine blk_drewN ?_ _ | refine blk_drew ?_ | refine blk_alloc ?_ _)); exact BK238.out)) : gb268 ≠ gb238)); clear BK236; clear BK238; clear HB; have BK236 := n0_; have BK238 := n1_; have HB := n2_; have BK268 := n3_; have GW268 := n4_; have GE268 := n5_; have NB236_268 := n6_; have NB268_236 := n7_; have NB238_268 := n8_; have NB268_238 := n9_; clear n0_ n1_ n2_ n3_ n4_ n5_ n6_ n7_ n8_ n9_; clear hb hbox hg; have hnb167 := NB268_236.out; have hnc167 := NB236_268.out; have hnb168 := NB268_238.out; have hnc168 := NB238_268.out; have hcz169_0 : w166.cell? ⟨gb268, 0, none⟩ = some (.int .i64 0) := (blk_cell BK268.out 0).trans rfl; have hcz169_1 : w166.cell? ⟨gb268, 1, none⟩ = some (.int .i64 0) := (blk_cell BK268.out 1).trans rfl; have hcz169_2 : w166.cell? ⟨gb268, 2, none⟩ = some (.int .i64 0) := (blk_cell BK268.out 2).trans rfl; have hfz169_0 := blk_frozen BK268.out 0; have hfz169_1 := blk_frozen BK268.out 1; have hfz169_2 := blk_frozen BK268.out 2) | ((with_reducible refine gate_callee (f := 58) rfl ?_); refine goesL_ (some 136) rfl rfl Tryd.func58 (by kernel_rfl) rfl #[.slice (some ad237) l0.length c0, .int .i64 (wrap64 (t267 - 1)), .slice A2 l2.length c2, .int .i64 a3, .bool a4] rfl (by (try simp only [List.map_toArray, List.map_cons, List.map_nil]); first | done | rfl | (simp only [List.length_drop, List.length_take]; rfl)) ?_; (with_reducible refine (ih kj54 (by have := HJ42.out; have := HJ54.out; omega) _ _ l0 (wrap64 (t267 - 1)) _ _ l2 a3 a4 t269 t270 t271 t272 _ ?side1 ?side2 ?side3 ?side4 A113.out).mono ?_); (case side1 => exact Kd.C_below HR0.out (by repeat (first | (with_reducible first | exact HB.out | apply below_alloc | apply pw_below_drewN | apply below_drew1 | refine below_set ?_ GE236.out | refine below_set ?_ GE238.out | refine below_set ?_ GE268.out) | exact HB.out))); (case side2 => exact HC0.out); (case side3 => exact Kd.C_below HR2.out (by repeat (first | (with_reducible first | exact HB.out | apply below_alloc | apply pw_below_drewN | apply below_drew1 | refine below_set ?_ GE236.out | refine below_set ?_ GE238.out | refine below_set ?_ GE268.out) | exact HB.out))); (case side4 => exact HC2.out); rintro e w170 ⟨rfl, hb⟩; refine ⟨_, rfl, ?_⟩; have n0_ := Aside0.mk (blk_below (g := gb236) (o := .cells #[.int .i64 0, .int .i64 0, .int .i64 0] 101 (0, 0)) (by (with_reducible repeat (first | refine blk_drewN ?_ _ | refine blk_drew ?_ | refine blk_alloc ?_ _)); refine blk_far ?_ NB236_268.out _; (with_reducible repeat (first | refine blk_drewN ?_ _ | refine blk_drew ?_ | refine blk_alloc ?_ _)); refine blk_far ?_ NB236_268.out _; (with_reducible repeat (first | refine blk_drewN ?_ _ | refine blk_drew ?_ | refine blk_alloc ?_ _)); refine blk_far ?_ NB236_268.out _; (with_reducible repeat (first | refine blk_drewN ?_ _ | refine blk_drew ?_ | refine blk_alloc ?_ _)); exact BK236.out) hb); have n1_ := Aside0.mk (blk_below (g := gb238) (o := .cells #[.int .i64 ((rd_T40 l0 a1).f0), .int .i64 ((rd_T40 l0 a1).f1), .int .i64 ((rd_T40 l0 a1).f2)] 40 (0, 0)) (by (with_reducible repeat (first | refine blk_drewN ?_ _ | refine blk_drew ?_ | refine blk_alloc ?_ _)); refine blk_far ?_ NB238_268.out _; (with_reducible repeat (first | refine blk_drewN ?_ _ | refine blk_drew ?_ | refine blk_alloc ?_ _)); refine blk_far ?_ NB238_268.out _; (with_reducible repeat (first | refine blk_drewN ?_ _ | refine blk_drew ?_ | refine blk_alloc ?_ _)); refine blk_far ?_ NB238_268.out _; (with_reducible repeat (first | refine blk_drewN ?_ _ | refine blk_drew ?_ | refine blk_alloc ?_ _)); exact BK238.out) hb); have n2_ := Aside0.mk (blk_below (g := gb268) (o := .cells #[.int .i64 t264, .int .i64 t265, .int .i64 t266] 101 (0, 0)) (by (with_reducible repeat (first | refine blk_drewN ?_ _ | refine blk_drew ?_ | refine blk_alloc ?_ _)); refine blk_put (cs := #[.int .i64 t264, .int .i64 t265, .int .i64 0]) ?_ 2 _ rfl; (with_reducible repeat (first | refine blk_drewN ?_ _ | refine blk_drew ?_ | refine blk_alloc ?_ _)); refine blk_put (cs := #[.int .i64 t264, .int .i64 0, .int .i64 0]) ?_ 1 _ rfl; (with_reducible repeat (first | refine blk_drewN ?_ _ | refine blk_drew ?_ | refine blk_alloc ?_ _)); refine blk_put (cs := #[.int .i64 0, .int .i64 0, .int .i64 0]) ?_ 0 _ rfl; (with_reducible repeat (first | refine blk_drewN ?_ _ | refine blk_drew ?_ | refine blk_alloc ?_ _)); exact BK268.out) hb); have n3_ := Aside0.mk (below_step (by repeat (first | (with_reducible first | exact HB.out | apply below_alloc | apply pw_below_drewN | apply below_drew1 | refine below_set ?_ GE236.out | refine below_set ?_ GE238.out | refine below_set ?_ GE268.out) | exact HB.out)) hb); clear BK236; clear BK238; clear BK268; clear HB; have BK236 := n0_; have BK238 := n1_; have BK268 := n2_; have HB := n3_; clear n0_ n1_ n2_ n3_; (try clear hb); (try clear hb2); (try clear hk); (try clear hi)) | ((with_reducible refine gate_dst (N := 17) rfl ?_); (try (refine gate_guard (by rfl) ?_; dsimp only)); refine box_event ?hg (N := 17) ?hd (cs := #[.int .i64 0, .int .i64 0, .int .i64 0]) (t := 101) ?hr ?_; (case hd => rfl); (case hg => rfl); (case hr => first | (go_simp; done) | (go_simp; rfl)); intro gb273 hg w171 hbox hb; have n0_ := Aside0.mk (blk_below (g := gb236) (o := .cells #[.int .i64 0, .int .i64 0, .int .i64 0] 101 (0, 0)) (by (with_reducible repeat (first | refine blk_drewN ?_ _ | refine blk_drew ?_ | refine blk_alloc ?_ _)); exact BK236.out) hb); have n1_ := Aside0.mk (blk_below (g := gb238) (o := .cells #[.int .i64 ((rd_T40 l0 a1).f0), .int .i64 ((rd_T40 l0 a1).f1), .int .i64 ((rd_T40 l0 a1).f2)] 40 (0, 0)) (by (with_reducible repeat (first | refine blk_drewN ?_ _ | refine blk_drew ?_ | refine blk_alloc ?_ _)); exact BK238.out) hb); have n2_ := Aside0.mk (blk_below (g := gb268) (o := .cells #[.int .i64 t264, .int .i64 t265, .int .i64 t266] 101 (0, 0)) (by (with_reducible repeat (first | refine blk_drewN ?_ _ | refine blk_drew ?_ | refine blk_alloc ?_ _)); exact BK268.out) hb); have n3_ := Aside0.mk (below_step (by repeat (first | (with_reducible first | exact HB.out | apply below_alloc | apply pw_below_drewN | apply below_drew1 | refine below_set ?_ GE236.out | refine below_set ?_ GE238.out | refine below_set ?_ GE268.out) | exact HB.out)) hb); have n4_ := Aside0.mk (hbox); have n5_ := Aside0.mk ((by rw [hg]; exact (below_size (by repeat (first | (with_reducible first | exact HB.out | apply below_alloc | apply pw_below_drewN | apply below_drew1 | refine below_set ?_ GE236.out | refine below_set ?_ GE238.out | refine below_set ?_ GE268.out) | exact HB.out))) : w.heap.size ≤ gb273)); have n6_ := Aside0.mk ((by rw [hg]; exact (below_size (by repeat (first | (with_reducible first | exact HB.out | apply below_alloc | apply pw_below_drewN | apply below_drew1 | refine below_set ?_ GE236.out | refine below_set ?_ GE238.out | refine below_set ?_ GE268.out) | exact HB.out))) : w.heap.size ≤ gb273)); have n7_ := Aside0.mk ((by rw [hg]; exact Nat.ne_of_lt (blk_lt (g := gb236) (o := .cells #[.int .i64 0, .int .i64 0, .int .i64 0] 101 (0, 0)) (by (with_reducible repeat (first | refine blk_drewN ?_ _ | refine blk_drew ?_ | refine blk_alloc ?_ _)); exact BK236.out)) : gb236 ≠ gb273)); have n8_ := Aside0.mk ((by rw [hg]; exact Nat.ne_of_gt (blk_lt (g := gb236) (o := .cells #[.int .i64 0, .int .i64 0, .int .i64 0] 101 (0, 0)) (by (with_reducible repeat (first | refine blk_drewN ?_ _ | refine blk_drew ?_ | refine blk_alloc ?_ _)); exact BK236.out)) : gb273 ≠ gb236)); have n9_ := Aside0.mk ((by rw [hg]; exact Nat.ne_of_lt (blk_lt (g := gb238) (o := .cells #[.int .i64 ((rd_T40 l0 a1).f0), .int .i64 ((rd_T40 l0 a1).f1), .int .i64 ((rd_T40 l0 a1).f2)] 40 (0, 0)) (by (with_reducible repeat (first | refine blk_drewN ?_ _ | refine blk_drew ?_ | refine blk_alloc ?_ _)); exact BK238.out)) : gb238 ≠ gb273)); have n10_ := Aside0.mk ((by rw [hg]; exact Nat.ne_of_gt (blk_lt (g := gb238) (o := .cells #[.int .i64 ((rd_T40 l0 a1).f0), .int .i64 ((rd_T40 l0 a1).f1), .int .i64 ((rd_T40 l0 a1).f2)] 40 (0, 0)) (by (with_reducible repeat (first | refine blk_drewN ?_ _ | refine blk_drew ?_ | refine blk_alloc ?_ _)); exact BK238.out)) : gb273 ≠ gb238)); have n11_ := Aside0.mk ((by rw [hg]; exact Nat.ne_of_lt (blk_lt (g := gb268) (o := .cells #[.int .i64 t264, .int .i64 t265, .int .i64 t266] 101 (0, 0)) (by (with_reducible repeat (first | refine blk_drewN ?_ _ | refine blk_drew ?_ | refine blk_alloc ?_ _)); exact BK268.out)) : gb268 ≠ gb273)); have n12_ := Aside0.mk ((by rw [hg]; exact Nat.ne_of_gt (blk_lt (g := gb268) (o := .cells #[.int .i64 t264, .int .i64 t265, .int .i64 t266] 101 (0, 0)) (by (with_reducible repeat (first | refine blk_drewN ?_ _ | refine blk_drew ?_ | refine blk_alloc ?_ _)); exact BK268.out)) : gb273 ≠ gb268)); clear BK236; clear BK238; clear BK268; clear HB; have BK236 := n0_; have BK238 := n1_; have BK268 := n2_; have HB := n3_; have BK273 := n4_; have GW273 := n5_; have GE273 := n6_; have NB236_273 := n7_; have NB273_236 := n8_; have NB238_273 := n9_; have NB273_238 := n10_; have NB268_273 := n11_; have NB273_268 := n12_; clear n0_ n1_ n2_ n3_ n4_ n5_ n6_ n7_ n8_ n9_ n10_ n11_ n12_; clear hb hbox hg; have hnb172 := NB273_236.out; have hnc172 := NB236_273.out; have hnb173 := NB273_238.out; have hnc173 := NB238_273.out; have hnb174 := NB273_268.out; have hnc174 := NB268_273.out; have hcz175_0 : w171.cell? ⟨gb273, 0, none⟩ = some (.int .i64 0) := (blk_cell BK273.out 0).trans rfl; have hcz175_1 : w171.cell? ⟨gb273, 1, none⟩ = some (.int .i64 0) := (blk_cell BK273.out 1).trans rfl; have hcz175_2 : w171.cell? ⟨gb273, 2, none⟩ = some (.int .i64 0) := (blk_cell BK273.out 2).trans rfl; have hfz175_0 := blk_frozen BK273.out 0; have hfz175_1 := blk_frozen BK273.out 1; have hfz175_2 := blk_frozen BK273.out 2; have hcz176_0 : w171.cell? ⟨gb268, 0, none⟩ = some (.int .i64 t264) := (blk_cell BK268.out 0).trans rfl; have hcz176_1 : w171.cell? ⟨gb268, 1, none⟩ = some (.int .i64 t265) := (blk_cell BK268.out 1).trans rfl; have hcz176_2 : w171.cell? ⟨gb268, 2, none⟩ = some (.int .i64 t266) := (blk_cell BK268.out 2).trans rfl; have hfz176_0 := blk_frozen BK268.out 0; have hfz176_1 := blk_frozen BK268.out 1; have hfz176_2 := blk_frozen BK268.out 2; have hnb177 := NB238_236.out; have hnc177 := NB236_238.out; have hcz178_0 : w171.cell? ⟨gb238, 0, none⟩ = some (.int .i64 ((rd_T40 l0 a1).f0)) := (blk_cell BK238.out 0).trans rfl; have hcz178_1 : w171.cell? ⟨gb238, 1, none⟩ = some (.int .i64 ((rd_T40 l0 a1).f1)) := (blk_cell BK238.out 1).trans rfl; have hcz178_2 : w171.cell? ⟨gb238, 2, none⟩ = some (.int .i64 ((rd_T40 l0 a1).f2)) := (blk_cell BK238.out 2).trans rfl; have hfz178_0 := blk_frozen BK238.out 0; have hfz178_1 := blk_frozen BK238.out 1; have hfz178_2 := blk_frozen BK238.out 2) | ((with_reducible refine gate_callee (f := 92) rfl ?_); refine goesL_ (some 155) rfl rfl Tryd.func92 (by kernel_rfl) rfl #[.int .i64 ((rd_T40 l0 a1).f0), .agg #[.int .i64 t269, .int .i64 t270], .agg #[.int .i64 t264, .int .i64 t265]] rfl (by (try simp only [List.map_toArray, List.map_cons, List.map_nil]); first | done | rfl | (simp only [List.length_drop, List.length_take]; rfl)) ?_; (with_reducible refine (spinetref04_two.calls kj54 ((rd_T40 l0 a1).f0) t269 t270 t264 t265 t274 t275 t276 _ A116.out).mono ?_); rintro e w179 ⟨rfl, hb⟩; refine ⟨_, rfl, ?_⟩; have n0_ := Aside0.mk (blk_below (g := gb236) (o := .cells #[.int .i64 0, .int .i64 0, .int .i64 0] 101 (0, 0)) (by (with_reducible repeat (first | refine blk_drewN ?_ _ | refine blk_drew ?_ | refine blk_alloc ?_ _)); refine blk_far ?_ NB236_273.out _; (with_reducible repeat (first | refine blk_drewN ?_ _ | refine blk_drew ?_ | refine blk_alloc ?_ _)); refine blk_far ?_ NB236_273.out _; (with_reducible repeat (first | refine blk_drewN ?_ _ | refine blk_drew ?_ | refine blk_alloc ?_ _)); refine blk_far ?_ NB236_273.out _; (with_reducible repeat (first | refine blk_drewN ?_ _ | refine blk_drew ?_ | refine blk_alloc ?_ _)); exact BK236.out) hb); have n1_ := Aside0.mk (blk_below (g := gb238) (o := .cells #[.int .i64 ((rd_T40 l0 a1).f0), .int .i64 ((rd_T40 l0 a1).f1), .int .i64 ((rd_T40 l0 a1).f2)] 40 (0, 0)) (by (with_reducible repeat (first | refine blk_drewN ?_ _ | refine blk_drew ?_ | refine blk_alloc ?_ _)); refine blk_far ?_ NB238_273.out _; (with_reducible repeat (first | refine blk_drewN ?_ _ | refine blk_drew ?_ | refine blk_alloc ?_ _)); refine blk_far ?_ NB238_273.out _; (with_reducible repeat (first | refine blk_drewN ?_ _ | refine blk_drew ?_ | refine blk_alloc ?_ _)); refine blk_far ?_ NB238_273.out _; (with_reducible repeat (first | refine blk_drewN ?_ _ | refine blk_drew ?_ | refine blk_alloc ?_ _)); exact BK238.out) hb); have n2_ := Aside0.mk (blk_below (g := gb268) (o := .cells #[.int .i64 t264, .int .i64 t265, .int .i64 t266] 101 (0, 0)) (by (with_reducible repeat (first | refine blk_drewN ?_ _ | refine blk_drew ?_ | refine blk_alloc ?_ _)); refine blk_far ?_ NB268_273.out _; (with_reducible repeat (first | refine blk_drewN ?_ _ | refine blk_drew ?_ | refine blk_alloc ?_ _)); refine blk_far ?_ NB268_273.out _; (with_reducible repeat (first | refine blk_drewN ?_ _ | refine blk_drew ?_ | refine blk_alloc ?_ _)); refine blk_far ?_ NB268_273.out _; (with_reducible repeat (first | refine blk_drewN ?_ _ | refine blk_drew ?_ | refine blk_alloc ?_ _)); exact BK268.out) hb); have n3_ := Aside0.mk (blk_below (g := gb273) (o := .cells #[.int .i64 t269, .int .i64 t270, .int .i64 t271] 101 (0, 0)) (by (with_reducible repeat (first | refine blk_drewN ?_ _ | refine blk_drew ?_ | refine blk_alloc ?_ _)); refine blk_put (cs := #[.int .i64 t269, .int .i64 t270, .int .i64 0]) ?_ 2 _ rfl; (with_reducible repeat (first | refine blk_drewN ?_ _ | refine blk_drew ?_ | refine blk_alloc ?_ _)); refine blk_put (cs := #[.int .i64 t269, .int .i64 0, .int .i64 0]) ?_ 1 _ rfl; (with_reducible repeat (first | refine blk_drewN ?_ _ | refine blk_drew ?_ | refine blk_alloc ?_ _)); refine blk_put (cs := #[.int .i64 0, .int .i64 0, .int .i64 0]) ?_ 0 _ rfl; (with_reducible repeat (first | refine blk_drewN ?_ _ | refine blk_drew ?_ | refine blk_alloc ?_ _)); exact BK273.out) hb); have n4_ := Aside0.mk (below_step (by repeat (first | (with_reducible first | exact HB.out | apply below_alloc | apply pw_below_drewN | apply below_drew1 | refine below_set ?_ GE236.out | refine below_set ?_ GE238.out | refine below_set ?_ GE268.out | refine below_set ?_ GE273.out) | exact HB.out)) hb); clear BK236; clear BK238; clear BK268; clear BK273; clear HB; have BK236 := n0_; have BK238 := n1_; have BK268 := n2_; have BK273 := n3_; have HB := n4_; clear n0_ n1_ n2_ n3_ n4_; (try clear hb); (try clear hb2); (try clear hk); (try clear hi)) | ((with_reducible refine gate_dst (N := 19) rfl ?_); (try (refine gate_guard (by rfl) ?_; dsimp only)); refine box_event ?hg (N := 19) ?hd (cs := #[.int .i64 0, .int .i64 0, .int .i64 0]) (t := 101) ?hr ?_; (case hd => rfl); (case hg => rfl); (case hr => first | (go_simp; done) | (go_simp; rfl)); intro gb277 hg w180 hbox hb; have n0_ := Aside0.mk (blk_below (g := gb236) (o := .cells #[.int .i64 0, .int .i64 0, .int .i64 0] 101 (0, 0)) (by (with_reducible repeat (first | refine blk_drewN ?_ _ | refine blk_drew ?_ | refine blk_alloc ?_ _)); exact BK236.out) hb); have n1_ := Aside0.mk (blk_below (g := gb238) (o := .cells #[.int .i64 ((rd_T40 l0 a1).f0), .int .i64 ((rd_T40 l0 a1).f1), .int .i64 ((rd_T40 l0 a1).f2)] 40 (0, 0)) (by (with_reducible repeat (first | refine blk_drewN ?_ _ | refine blk_drew ?_ | refine blk_alloc ?_ _)); exact BK238.out) hb); have n2_ := Aside0.mk (blk_below (g := gb268) (o := .cells #[.int .i64 t264, .int .i64 t265, .int .i64 t266] 101 (0, 0)) (by (with_reducible repeat (first | refine blk_drewN ?_ _ | refine blk_drew ?_ | refine blk_alloc ?_ _)); exact BK268.out) hb); have n3_ := Aside0.mk (blk_below (g := gb273) (o := .cells #[.int .i64 t269, .int .i64 t270, .int .i64 t271] 101 (0, 0)) (by (with_reducible repeat (first | refine blk_drewN ?_ _ | refine blk_drew ?_ | refine blk_alloc ?_ _)); exact BK273.out) hb); have n4_ := Aside0.mk (below_step (by repeat (first | (with_reducible first | exact HB.out | apply below_alloc | apply pw_below_drewN | apply below_drew1 | refine below_set ?_ GE236.out | refine below_set ?_ GE238.out | refine below_set ?_ GE268.out | refine below_set ?_ GE273.out) | exact HB.out)) hb); have n5_ := Aside0.mk (hbox); have n6_ := Aside0.mk ((by rw [hg]; exact (below_size (by repeat (first | (with_reducible first | exact HB.out | apply below_alloc | apply pw_below_drewN | apply below_drew1 | refine below_set ?_ GE236.out | refine below_set ?_ GE238.out | refine below_set ?_ GE268.out | refine below_set ?_ GE273.out) | exact HB.out))) : w.heap.size ≤ gb277)); have n7_ := Aside0.mk ((by rw [hg]; exact (below_size (by repeat (first | (with_reducible first | exact HB.out | apply below_alloc | apply pw_below_drewN | apply below_drew1 | refine below_set ?_ GE236.out | refine below_set ?_ GE238.out | refine below_set ?_ GE268.out | refine below_set ?_ GE273.out) | exact HB.out))) : w.heap.size ≤ gb277)); have n8_ := Aside0.mk ((by rw [hg]; exact Nat.ne_of_lt (blk_lt (g := gb236) (o := .cells #[.int .i64 0, .int .i64 0, .int .i64 0] 101 (0, 0)) (by (with_reducible repeat (first | refine blk_drewN ?_ _ | refine blk_drew ?_ | refine blk_alloc ?_ _)); exact BK236.out)) : gb236 ≠ gb277)); have n9_ := Aside0.mk ((by rw [hg]; exact Nat.ne_of_gt (blk_lt (g := gb236) (o := .cells #[.int .i64 0, .int .i64 0, .int .i64 0] 101 (0, 0)) (by (with_reducible repeat (first | refine blk_drewN ?_ _ | refine blk_drew ?_ | refine blk_alloc ?_ _)); exact BK236.out)) : gb277 ≠ gb236)); have n10_ := Aside0.mk ((by rw [hg]; exact Nat.ne_of_lt (blk_lt (g := gb238) (o := .cells #[.int .i64 ((rd_T40 l0 a1).f0), .int .i64 ((rd_T40 l0 a1).f1), .int .i64 ((rd_T40 l0 a1).f2)] 40 (0, 0)) (by (with_reducible repeat (first | refine blk_drewN ?_ _ | refine blk_drew ?_ | refine blk_alloc ?_ _)); exact BK238.out)) : gb238 ≠ gb277)); have n11_ := Aside0.mk ((by rw [hg]; exact Nat.ne_of_gt (blk_lt (g := gb238) (o := .cells #[.int .i64 ((rd_T40 l0 a1).f0), .int .i64 ((rd_T40 l0 a1).f1), .int .i64 ((rd_T40 l0 a1).f2)] 40 (0, 0)) (by (with_reducible repeat (first | refine blk_drewN ?_ _ | refine blk_drew ?_ | refine blk_alloc ?_ _)); exact BK238.out)) : gb277 ≠ gb238)); have n12_ := Aside0.mk ((by rw [hg]; exact Nat.ne_of_lt (blk_lt (g := gb268) (o := .cells #[.int .i64 t264, .int .i64 t265, .int .i64 t266] 101 (0, 0)) (by (with_reducible repeat (first | refine blk_drewN ?_ _ | refine blk_drew ?_ | refine blk_alloc ?_ _)); exact BK268.out)) : gb268 ≠ gb277)); have n13_ := Aside0.mk ((by rw [hg]; exact Nat.ne_of_gt (blk_lt (g := gb268) (o := .cells #[.int .i64 t264, .int .i64 t265, .int .i64 t266] 101 (0, 0)) (by (with_reducible repeat (first | refine blk_drewN ?_ _ | refine blk_drew ?_ | refine blk_alloc ?_ _)); exact BK268.out)) : gb277 ≠ gb268)); have n14_ := Aside0.mk ((by rw [hg]; exact Nat.ne_of_lt (blk_lt (g := gb273) (o := .cells #[.int .i64 t269, .int .i64 t270, .int .i64 t271] 101 (0, 0)) (by (with_reducible repeat (first | refine blk_drewN ?_ _ | refine blk_drew ?_ | refine blk_alloc ?_ _)); exact BK273.out)) : gb273 ≠ gb277)); have n15_ := Aside0.mk ((by rw [hg]; exact Nat.ne_of_gt (blk_lt (g := gb273) (o := .cells #[.int .i64 t269, .int .i64 t270, .int .i64 t271] 101 (0, 0)) (by (with_reducible repeat (first | refine blk_drewN ?_ _ | refine blk_drew ?_ | refine blk_alloc ?_ _)); exact BK273.out)) : gb277 ≠ gb273)); clear BK236; clear BK238; clear BK268; clear BK273; clear HB; have BK236 := n0_; have BK238 := n1_; have BK268 := n2_; have BK273 := n3_; have HB := n4_; have BK277 := n5_; have GW277 := n6_; have GE277 := n7_; have NB236_277 := n8_; have NB277_236 := n9_; have NB238_277 := n10_; have NB277_238 := n11_; have NB268_277 := n12_; have NB277_268 := n13_; have NB273_277 := n14_; have NB277_273 := n15_; clear n0_ n1_ n2_ n3_ n4_ n5_ n6_ n7_ n8_ n9_ n10_ n11_ n12_ n13_ n14_ n15_; clear hb hbox hg; have hnb181 := NB277_236.out; have hnc181 := NB236_277.out; have hnb182 := NB277_238.out; have hnc182 := NB238_277.out; have hnb183 := NB277_268.out; have hnc183 := NB268_277.out; have hnb184 := NB277_273.out; have hnc184 := NB273_277.out; have hcz185_0 : w180.cell? ⟨gb277, 0, none⟩ = some (.int .i64 0) := (blk_cell BK277.out 0).trans rfl; have hcz185_1 : w180.cell? ⟨gb277, 1, none⟩ = some (.int .i64 0) := (blk_cell BK277.out 1).trans rfl; have hcz185_2 : w180.cell? ⟨gb277, 2, none⟩ = some (.int .i64 0) := (blk_cell BK277.out 2).trans rfl; have hfz185_0 := blk_frozen BK277.out 0; have hfz185_1 := blk_frozen BK277.out 1; have hfz185_2 := blk_frozen BK277.out 2; have hcz186_0 : w180.cell? ⟨gb236, 0, none⟩ = some (.int .i64 0) := (blk_cell BK236.out 0).trans rfl; have hcz186_1 : w180.cell? ⟨gb236, 1, none⟩ = some (.int .i64 0) := (blk_cell BK236.out 1).trans rfl; have hcz186_2 : w180.cell? ⟨gb236, 2, none⟩ = some (.int .i64 0) := (blk_cell BK236.out 2).trans rfl; have hfz186_0 := blk_frozen BK236.out 0; have hfz186_1 := blk_frozen BK236.out 1; have hfz186_2 := blk_frozen BK236.out 2))
                            refine bodyPost_ret (results_ct rfl _ _ gb236 101 #[.int .i64 t274, .int .i64 t275, .int .i64 t276] (0, 0) _ rfl (by (with_reducible repeat (first | refine blk_drewN ?_ _ | refine blk_drew ?_ | refine blk_alloc ?_ _)); refine blk_put (cs := #[.int .i64 t274, .int .i64 t275, .int .i64 0]) ?_ 2 _ rfl; (with_reducible repeat (first | refine blk_drewN ?_ _ | refine blk_drew ?_ | refine blk_alloc ?_ _)); refine blk_put (cs := #[.int .i64 t274, .int .i64 0, .int .i64 0]) ?_ 1 _ rfl; (with_reducible repeat (first | refine blk_drewN ?_ _ | refine blk_drew ?_ | refine blk_alloc ?_ _)); refine blk_put (cs := #[.int .i64 0, .int .i64 0, .int .i64 0]) ?_ 0 _ rfl; (with_reducible repeat (first | refine blk_drewN ?_ _ | refine blk_drew ?_ | refine blk_alloc ?_ _)); refine blk_far ?_ NB236_277.out _; (with_reducible repeat (first | refine blk_drewN ?_ _ | refine blk_drew ?_ | refine blk_alloc ?_ _)); refine blk_far ?_ NB236_277.out _; (with_reducible repeat (first | refine blk_drewN ?_ _ | refine blk_drew ?_ | refine blk_alloc ?_ _)); refine blk_far ?_ NB236_277.out _; (with_reducible repeat (first | refine blk_drewN ?_ _ | refine blk_drew ?_ | refine blk_alloc ?_ _)); exact BK236.out) Tryd.underlying101 rfl (by kernel_rfl)) rfl ?_
                            exact ⟨by first | rfl | (simp [errW_none, errW_some] <;> rfl) | (simp [*, errW_none, errW_some] <;> rfl), by repeat (first | (with_reducible first | exact HB.out | apply below_alloc | apply pw_below_drewN | apply below_drew1 | refine below_set ?_ GE236.out | refine below_set ?_ GE238.out | refine below_set ?_ GE268.out | refine below_set ?_ GE273.out | refine below_set ?_ GE277.out) | exact HB.out)⟩
                        · rw [if_neg c115] at H
                          have c115b0 : (t266 == 0) = false := beq_eq_false_iff_ne.mpr c115
                          have c115b1 : (t266 != 0) = true := bne_iff_ne.mpr c115
                          simp only [Option.some.injEq, Prod.mk.injEq] at H
                          obtain ⟨rfl, rfl, rfl, rfl⟩ := H
                          go_wp2_with (first | ((with_reducible refine gate_callee (f := 58) rfl ?_); refine goesL_ (some 126) rfl rfl Tryd.func58 (by kernel_rfl) rfl #[.slice (some ad237) l0.length c0, .int .i64 (wrap64 (a1 - 1)), .slice A2 l2.length c2, .int .i64 a3, .bool a4] rfl (by (try simp only [List.map_toArray, List.map_cons, List.map_nil]); first | done | rfl | (simp only [List.length_drop, List.length_take]; rfl)) ?_; (with_reducible refine (ih kj54 (by have := HJ42.out; have := HJ54.out; omega) _ _ l0 (wrap64 (a1 - 1)) _ _ l2 a3 a4 t264 t265 t266 t267 _ ?side1 ?side2 ?side3 ?side4 A112.out).mono ?_); (case side1 => repeat (first | exact (Kd.C_below HR0.out HB.out) | (with_reducible refine Kd.C_alloc ?_ _) | (with_reducible refine Kd.C_drewN ?_ _) | (with_reducible refine Kd.C_drew ?_))); (case side2 => exact HC0.out); (case side3 => repeat (first | exact (Kd.C_below HR2.out HB.out) | (with_reducible refine Kd.C_alloc ?_ _) | (with_reducible refine Kd.C_drewN ?_ _) | (with_reducible refine Kd.C_drew ?_))); (case side4 => exact HC2.out); rintro e w187 ⟨rfl, hb⟩; refine ⟨_, rfl, ?_⟩; have n0_ := Aside0.mk (blk_below (g := gb236) (o := .cells #[.int .i64 0, .int .i64 0, .int .i64 0] 101 (0, 0)) (by (with_reducible repeat (first | refine blk_drewN ?_ _ | refine blk_drew ?_ | refine blk_alloc ?_ _)); exact BK236.out) hb); have n1_ := Aside0.mk (blk_below (g := gb238) (o := .cells #[.int .i64 ((rd_T40 l0 a1).f0), .int .i64 ((rd_T40 l0 a1).f1), .int .i64 ((rd_T40 l0 a1).f2)] 40 (0, 0)) (by (with_reducible repeat (first | refine blk_drewN ?_ _ | refine blk_drew ?_ | refine blk_alloc ?_ _)); exact BK238.out) hb); have n2_ := Aside0.mk (below_step (by repeat (first | (with_reducible first | exact HB.out | apply below_alloc | apply pw_below_drewN | apply below_drew1 | refine below_set ?_ GE236.out | refine below_set ?_ GE238.out) | exact HB.out)) hb); clear BK236; clear BK238; clear HB; have BK236 := n0_; have BK238 := n1_; have HB := n2_; clear n0_ n1_ n2_; (try clear hb); (try clear hb2); (try clear hk); (try clear hi)) | ((with_reducible refine gate_dst (N := 15) rfl ?_); (try (refine gate_guard (by rfl) ?_; dsimp only)); refine box_event ?hg (N := 15) ?hd (cs := #[.int .i64 0, .int .i64 0, .int .i64 0]) (t := 101) ?hr ?_; (case hd => rfl); (case hg => rfl); (case hr => first | (go_simp; done) | (go_simp; rfl)); intro gb268 hg w188 hbox hb; have n0_ := Aside0.mk (blk_below (g := gb236) (o := .cells #[.int .i64 0, .int .i64 0, .int .i64 0] 101 (0, 0)) (by (with_reducible repeat (first | refine blk_drewN ?_ _ | refine blk_drew ?_ | refine blk_alloc ?_ _)); exact BK236.out) hb); have n1_ := Aside0.mk (blk_below (g := gb238) (o := .cells #[.int .i64 ((rd_T40 l0 a1).f0), .int .i64 ((rd_T40 l0 a1).f1), .int .i64 ((rd_T40 l0 a1).f2)] 40 (0, 0)) (by (with_reducible repeat (first | refine blk_drewN ?_ _ | refine blk_drew ?_ | refine blk_alloc ?_ _)); exact BK238.out) hb); have n2_ := Aside0.mk (below_step (by repeat (first | (with_reducible first | exact HB.out | apply below_alloc | apply pw_below_drewN | apply below_drew1 | refine below_set ?_ GE236.out | refine below_set ?_ GE238.out) | exact HB.out)) hb); have n3_ := Aside0.mk (hbox); have n4_ := Aside0.mk ((by rw [hg]; exact (below_size (by repeat (first | (with_reducible first | exact HB.out | apply below_alloc | apply pw_below_drewN | apply below_drew1 | refine below_set ?_ GE236.out | refine below_set ?_ GE238.out) | exact HB.out))) : w.heap.size ≤ gb268)); have n5_ := Aside0.mk ((by rw [hg]; exact (below_size (by repeat (first | (with_reducible first | exact HB.out | apply below_alloc | apply pw_below_drewN | apply below_drew1 | refine below_set ?_ GE236.out | refine below_set ?_ GE238.out) | exact HB.out))) : w.heap.size ≤ gb268)); have n6_ := Aside0.mk ((by rw [hg]; exact Nat.ne_of_lt (blk_lt (g := gb236) (o := .cells #[.int .i64 0, .int .i64 0, .int .i64 0] 101 (0, 0)) (by (with_reducible repeat (first | refine blk_drewN ?_ _ | refine blk_drew ?_ | refine blk_alloc ?_ _)); exact BK236.out)) : gb236 ≠ gb268)); have n7_ := Aside0.mk ((by rw [hg]; exact Nat.ne_of_gt (blk_lt (g := gb236) (o := .cells #[.int .i64 0, .int .i64 0, .int .i64 0] 101 (0, 0)) (by (with_reducible repeat (first | refine blk_drewN ?_ _ | refine blk_drew ?_ | refine blk_alloc ?_ _)); exact BK236.out)) : gb268 ≠ gb236)); have n8_ := Aside0.mk ((by rw [hg]; exact Nat.ne_of_lt (blk_lt (g := gb238) (o := .cells #[.int .i64 ((rd_T40 l0 a1).f0), .int .i64 ((rd_T40 l0 a1).f1), .int .i64 ((rd_T40 l0 a1).f2)] 40 (0, 0)) (by (with_reducible repeat (first | refine blk_drewN ?_ _ | refine blk_drew ?_ | refine blk_alloc ?_ _)); exact BK238.out)) : gb238 ≠ gb268)); have n9_ := Aside0.mk ((by rw [hg]; exact Nat.ne_of_gt (blk_lt (g := gb238) (o := .cells #[.int .i64 ((rd_T40 l0 a1).f0), .int .i64 ((rd_T40 l0 a1).f1), .int .i64 ((rd_T40 l0 a1).f2)] 40 (0, 0)) (by (with_reducible repeat (first | refine blk_drewN ?_ _ | refine blk_drew ?_ | refine blk_alloc ?_ _)); exact BK238.out)) : gb268 ≠ gb238)); clear BK236; clear BK238; clear HB; have BK236 := n0_; have BK238 := n1_; have HB := n2_; have BK268 := n3_; have GW268 := n4_; have GE268 := n5_; have NB236_268 := n6_; have NB268_236 := n7_; have NB238_268 := n8_; have NB268_238 := n9_; clear n0_ n1_ n2_ n3_ n4_ n5_ n6_ n7_ n8_ n9_; clear hb hbox hg; have hnb189 := NB268_236.out; have hnc189 := NB236_268.out; have hnb190 := NB268_238.out; have hnc190 := NB238_268.out; have hcz191_0 : w188.cell? ⟨gb268, 0, none⟩ = some (.int .i64 0) := (blk_cell BK268.out 0).trans rfl; have hcz191_1 : w188.cell? ⟨gb268, 1, none⟩ = some (.int .i64 0) := (blk_cell BK268.out 1).trans rfl; have hcz191_2 : w188.cell? ⟨gb268, 2, none⟩ = some (.int .i64 0) := (blk_cell BK268.out 2).trans rfl; have hfz191_0 := blk_frozen BK268.out 0; have hfz191_1 := blk_frozen BK268.out 1; have hfz191_2 := blk_frozen BK268.out 2) | ((with_reducible refine gate_callee (f := 58) rfl ?_); refine goesL_ (some 136) rfl rfl Tryd.func58 (by kernel_rfl) rfl #[.slice (some ad237) l0.length c0, .int .i64 (wrap64 (t267 - 1)), .slice A2 l2.length c2, .int .i64 a3, .bool a4] rfl (by (try simp only [List.map_toArray, List.map_cons, List.map_nil]); first | done | rfl | (simp only [List.length_drop, List.length_take]; rfl)) ?_; (with_reducible refine (ih kj54 (by have := HJ42.out; have := HJ54.out; omega) _ _ l0 (wrap64 (t267 - 1)) _ _ l2 a3 a4 t269 t270 t271 t272 _ ?side1 ?side2 ?side3 ?side4 A113.out).mono ?_); (case side1 => exact Kd.C_below HR0.out (by repeat (first | (with_reducible first | exact HB.out | apply below_alloc | apply pw_below_drewN | apply below_drew1 | refine below_set ?_ GE236.out | refine below_set ?_ GE238.out | refine below_set ?_ GE268.out) | exact HB.out))); (case side2 => exact HC0.out); (case side3 => exact Kd.C_below HR2.out (by repeat (first | (with_reducible first | exact HB.out | apply below_alloc | apply pw_below_drewN | apply below_drew1 | refine below_set ?_ GE236.out | refine below_set ?_ GE238.out | refine below_set ?_ GE268.out) | exact HB.out))); (case side4 => exact HC2.out); rintro e w192 ⟨rfl, hb⟩; refine ⟨_, rfl, ?_⟩; have n0_ := Aside0.mk (blk_below (g := gb236) (o := .cells #[.int .i64 0, .int .i64 0, .int .i64 0] 101 (0, 0)) (by (with_reducible repeat (first | refine blk_drewN ?_ _ | refine blk_drew ?_ | refine blk_alloc ?_ _)); refine blk_far ?_ NB236_268.out _; (with_reducible repeat (first | refine blk_drewN ?_ _ | refine blk_drew ?_ | refine blk_alloc ?_ _)); refine blk_far ?_ NB236_268.out _; (with_reducible repeat (first | refine blk_drewN ?_ _ | refine blk_drew ?_ | refine blk_alloc ?_ _)); refine blk_far ?_ NB236_268.out _; (with_reducible repeat (first | refine blk_drewN ?_ _ | refine blk_drew ?_ | refine blk_alloc ?_ _)); exact BK236.out) hb); have n1_ := Aside0.mk (blk_below (g := gb238) (o := .cells #[.int .i64 ((rd_T40 l0 a1).f0), .int .i64 ((rd_T40 l0 a1).f1), .int .i64 ((rd_T40 l0 a1).f2)] 40 (0, 0)) (by (with_reducible repeat (first | refine blk_drewN ?_ _ | refine blk_drew ?_ | refine blk_alloc ?_ _)); refine blk_far ?_ NB238_268.out _; (with_reducible repeat (first | refine blk_drewN ?_ _ | refine blk_drew ?_ | refine blk_alloc ?_ _)); refine blk_far ?_ NB238_268.out _; (with_reducible repeat (first | refine blk_drewN ?_ _ | refine blk_drew ?_ | refine blk_alloc ?_ _)); refine blk_far ?_ NB238_268.out _; (with_reducible repeat (first | refine blk_drewN ?_ _ | refine blk_drew ?_ | refine blk_alloc ?_ _)); exact BK238.out) hb); have n2_ := Aside0.mk (blk_below (g := gb268) (o := .cells #[.int .i64 t264, .int .i64 t265, .int .i64 t266] 101 (0, 0)) (by (with_reducible repeat (first | refine blk_drewN ?_ _ | refine blk_drew ?_ | refine blk_alloc ?_ _)); refine blk_put (cs := #[.int .i64 t264, .int .i64 t265, .int .i64 0]) ?_ 2 _ rfl; (with_reducible repeat (first | refine blk_drewN ?_ _ | refine blk_drew ?_ | refine blk_alloc ?_ _)); refine blk_put (cs := #[.int .i64 t264, .int .i64 0, .int .i64 0]) ?_ 1 _ rfl; (with_reducible repeat (first | refine blk_drewN ?_ _ | refine blk_drew ?_ | refine blk_alloc ?_ _)); refine blk_put (cs := #[.int .i64 0, .int .i64 0, .int .i64 0]) ?_ 0 _ rfl; (with_reducible repeat (first | refine blk_drewN ?_ _ | refine blk_drew ?_ | refine blk_alloc ?_ _)); exact BK268.out) hb); have n3_ := Aside0.mk (below_step (by repeat (first | (with_reducible first | exact HB.out | apply below_alloc | apply pw_below_drewN | apply below_drew1 | refine below_set ?_ GE236.out | refine below_set ?_ GE238.out | refine below_set ?_ GE268.out) | exact HB.out)) hb); clear BK236; clear BK238; clear BK268; clear HB; have BK236 := n0_; have BK238 := n1_; have BK268 := n2_; have HB := n3_; clear n0_ n1_ n2_ n3_; (try clear hb); (try clear hb2); (try clear hk); (try clear hi)) | ((with_reducible refine gate_dst (N := 17) rfl ?_); (try (refine gate_guard (by rfl) ?_; dsimp only)); refine box_event ?hg (N := 17) ?hd (cs := #[.int .i64 0, .int .i64 0, .int .i64 0]) (t := 101) ?hr ?_; (case hd => rfl); (case hg => rfl); (case hr => first | (go_simp; done) | (go_simp; rfl)); intro gb273 hg w193 hbox hb; have n0_ := Aside0.mk (blk_below (g := gb236) (o := .cells #[.int .i64 0, .int .i64 0, .int .i64 0] 101 (0, 0)) (by (with_reducible repeat (first | refine blk_drewN ?_ _ | refine blk_drew ?_ | refine blk_alloc ?_ _)); exact BK236.out) hb); have n1_ := Aside0.mk (blk_below (g := gb238) (o := .cells #[.int .i64 ((rd_T40 l0 a1).f0), .int .i64 ((rd_T40 l0 a1).f1), .int .i64 ((rd_T40 l0 a1).f2)] 40 (0, 0)) (by (with_reducible repeat (first | refine blk_drewN ?_ _ | refine blk_drew ?_ | refine blk_alloc ?_ _)); exact BK238.out) hb); have n2_ := Aside0.mk (blk_below (g := gb268) (o := .cells #[.int .i64 t264, .int .i64 t265, .int .i64 t266] 101 (0, 0)) (by (with_reducible repeat (first | refine blk_drewN ?_ _ | refine blk_drew ?_ | refine blk_alloc ?_ _)); exact BK268.out) hb); have n3_ := Aside0.mk (below_step (by repeat (first | (with_reducible first | exact HB.out | apply below_alloc | apply pw_below_drewN | apply below_drew1 | refine below_set ?_ GE236.out | refine below_set ?_ GE238.out | refine below_set ?_ GE268.out) | exact HB.out)) hb); have n4_ := Aside0.mk (hbox); have n5_ := Aside0.mk ((by rw [hg]; exact (below_size (by repeat (first | (with_reducible first | exact HB.out | apply below_alloc | apply pw_below_drewN | apply below_drew1 | refine below_set ?_ GE236.out | refine below_set ?_ GE238.out | refine below_set ?_ GE268.out) | exact HB.out))) : w.heap.size ≤ gb273)); have n6_ := Aside0.mk ((by rw [hg]; exact (below_size (by repeat (first | (with_reducible first | exact HB.out | apply below_alloc | apply pw_below_drewN | apply below_drew1 | refine below_set ?_ GE236.out | refine below_set ?_ GE238.out | refine below_set ?_ GE268.out) | exact HB.out))) : w.heap.size ≤ gb273)); have n7_ := Aside0.mk ((by rw [hg]; exact Nat.ne_of_lt (blk_lt (g := gb236) (o := .cells #[.int .i64 0, .int .i64 0, .int .i64 0] 101 (0, 0)) (by (with_reducible repeat (first | refine blk_drewN ?_ _ | refine blk_drew ?_ | refine blk_alloc ?_ _)); exact BK236.out)) : gb236 ≠ gb273)); have n8_ := Aside0.mk ((by rw [hg]; exact Nat.ne_of_gt (blk_lt (g := gb236) (o := .cells #[.int .i64 0, .int .i64 0, .int .i64 0] 101 (0, 0)) (by (with_reducible repeat (first | refine blk_drewN ?_ _ | refine blk_drew ?_ | refine blk_alloc ?_ _)); exact BK236.out)) : gb273 ≠ gb236)); have n9_ := Aside0.mk ((by rw [hg]; exact Nat.ne_of_lt (blk_lt (g := gb238) (o := .cells #[.int .i64 ((rd_T40 l0 a1).f0), .int .i64 ((rd_T40 l0 a1).f1), .int .i64 ((rd_T40 l0 a1).f2)] 40 (0, 0)) (by (with_reducible repeat (first | refine blk_drewN ?_ _ | refine blk_drew ?_ | refine blk_alloc ?_ _)); exact BK238.out)) : gb238 ≠ gb273)); have n10_ := Aside0.mk ((by rw [hg]; exact Nat.ne_of_gt (blk_lt (g := gb238) (o := .cells #[.int .i64 ((rd_T40 l0 a1).f0), .int .i64 ((rd_T40 l0 a1).f1), .int .i64 ((rd_T40 l0 a1).f2)] 40 (0, 0)) (by (with_reducible repeat (first | refine blk_drewN ?_ _ | refine blk_drew ?_ | refine blk_alloc ?_ _)); exact BK238.out)) : gb273 ≠ gb238)); have n11_ := Aside0.mk ((by rw [hg]; exact Nat.ne_of_lt (blk_lt (g := gb268) (o := .cells #[.int .i64 t264, .int .i64 t265, .int .i64 t266] 101 (0, 0)) (by (with_reducible repeat (first | refine blk_drewN ?_ _ | refine blk_drew ?_ | refine blk_alloc ?_ _)); exact BK268.out)) : gb268 ≠ gb273)); have n12_ := Aside0.mk ((by rw [hg]; exact Nat.ne_of_gt (blk_lt (g := gb268) (o := .cells #[.int .i64 t264, .int .i64 t265, .int .i64 t266] 101 (0, 0)) (by (with_reducible repeat (first | refine blk_drewN ?_ _ | refine blk_drew ?_ | refine blk_alloc ?_ _)); exact BK268.out)) : gb273 ≠ gb268)); clear BK236; clear BK238; clear BK268; clear HB; have BK236 := n0_; have BK238 := n1_; have BK268 := n2_; have HB := n3_; have BK273 := n4_; have GW273 := n5_; have GE273 := n6_; have NB236_273 := n7_; have NB273_236 := n8_; have NB238_273 := n9_; have NB273_238 := n10_; have NB268_273 := n11_; have NB273_268 := n12_; clear n0_ n1_ n2_ n3_ n4_ n5_ n6_ n7_ n8_ n9_ n10_ n11_ n12_; clear hb hbox hg; have hnb194 := NB273_236.out; have hnc194 := NB236_273.out; have hnb195 := NB273_238.out; have hnc195 := NB238_273.out; have hnb196 := NB273_268.out; have hnc196 := NB268_273.out; have hcz197_0 : w193.cell? ⟨gb273, 0, none⟩ = some (.int .i64 0) := (blk_cell BK273.out 0).trans rfl; have hcz197_1 : w193.cell? ⟨gb273, 1, none⟩ = some (.int .i64 0) := (blk_cell BK273.out 1).trans rfl; have hcz197_2 : w193.cell? ⟨gb273, 2, none⟩ = some (.int .i64 0) := (blk_cell BK273.out 2).trans rfl; have hfz197_0 := blk_frozen BK273.out 0; have hfz197_1 := blk_frozen BK273.out 1; have hfz197_2 := blk_frozen BK273.out 2; have hcz198_0 : w193.cell? ⟨gb268, 0, none⟩ = some (.int .i64 t264) := (blk_cell BK268.out 0).trans rfl; have hcz198_1 : w193.cell? ⟨gb268, 1, none⟩ = some (.int .i64 t265) := (blk_cell BK268.out 1).trans rfl; have hcz198_2 : w193.cell? ⟨gb268, 2, none⟩ = some (.int .i64 t266) := (blk_cell BK268.out 2).trans rfl; have hfz198_0 := blk_frozen BK268.out 0; have hfz198_1 := blk_frozen BK268.out 1; have hfz198_2 := blk_frozen BK268.out 2; have hnb199 := NB236_238.out; have hnc199 := NB238_236.out; have hcz200_0 : w193.cell? ⟨gb236, 0, none⟩ = some (.int .i64 0) := (blk_cell BK236.out 0).trans rfl; have hcz200_1 : w193.cell? ⟨gb236, 1, none⟩ = some (.int .i64 0) := (blk_cell BK236.out 1).trans rfl; have hcz200_2 : w193.cell? ⟨gb236, 2, none⟩ = some (.int .i64 0) := (blk_cell BK236.out 2).trans rfl; have hfz200_0 := blk_frozen BK236.out 0; have hfz200_1 := blk_frozen BK236.out 1; have hfz200_2 := blk_frozen BK236.out 2))
                          refine bodyPost_ret (results_ct rfl _ _ gb236 101 #[.int .i64 t264, .int .i64 t265, .int .i64 t266] (0, 0) _ rfl (by (with_reducible repeat (first | refine blk_drewN ?_ _ | refine blk_drew ?_ | refine blk_alloc ?_ _)); refine blk_put (cs := #[.int .i64 t264, .int .i64 t265, .int .i64 0]) ?_ 2 _ rfl; (with_reducible repeat (first | refine blk_drewN ?_ _ | refine blk_drew ?_ | refine blk_alloc ?_ _)); refine blk_put (cs := #[.int .i64 t264, .int .i64 0, .int .i64 0]) ?_ 1 _ rfl; (with_reducible repeat (first | refine blk_drewN ?_ _ | refine blk_drew ?_ | refine blk_alloc ?_ _)); refine blk_put (cs := #[.int .i64 0, .int .i64 0, .int .i64 0]) ?_ 0 _ rfl; (with_reducible repeat (first | refine blk_drewN ?_ _ | refine blk_drew ?_ | refine blk_alloc ?_ _)); refine blk_far ?_ NB236_273.out _; (with_reducible repeat (first | refine blk_drewN ?_ _ | refine blk_drew ?_ | refine blk_alloc ?_ _)); refine blk_far ?_ NB236_273.out _; (with_reducible repeat (first | refine blk_drewN ?_ _ | refine blk_drew ?_ | refine blk_alloc ?_ _)); refine blk_far ?_ NB236_273.out _; (with_reducible repeat (first | refine blk_drewN ?_ _ | refine blk_drew ?_ | refine blk_alloc ?_ _)); exact BK236.out) Tryd.underlying101 rfl (by kernel_rfl)) rfl ?_
                          exact ⟨by first | rfl | (simp [errW_none, errW_some] <;> rfl) | (simp [*, errW_none, errW_some] <;> rfl), by repeat (first | (with_reducible first | exact HB.out | apply below_alloc | apply pw_below_drewN | apply below_drew1 | refine below_set ?_ GE236.out | refine below_set ?_ GE238.out | refine below_set ?_ GE268.out | refine below_set ?_ GE273.out) | exact HB.out)⟩
                      · rw [if_neg c114] at H
                        have c114b0 : (t271 == 0) = false := beq_eq_false_iff_ne.mpr c114
                        have c114b1 : (t271 != 0) = true := bne_iff_ne.mpr c114
                        simp only [Option.some.injEq, Prod.mk.injEq] at H
                        obtain ⟨rfl, rfl, rfl, rfl⟩ := H
                        go_wp2_with (first | ((with_reducible refine gate_callee (f := 58) rfl ?_); refine goesL_ (some 126) rfl rfl Tryd.func58 (by kernel_rfl) rfl #[.slice (some ad237) l0.length c0, .int .i64 (wrap64 (a1 - 1)), .slice A2 l2.length c2, .int .i64 a3, .bool a4] rfl (by (try simp only [List.map_toArray, List.map_cons, List.map_nil]); first | done | rfl | (simp only [List.length_drop, List.length_take]; rfl)) ?_; (with_reducible refine (ih kj54 (by have := HJ42.out; have := HJ54.out; omega) _ _ l0 (wrap64 (a1 - 1)) _ _ l2 a3 a4 t264 t265 t266 t267 _ ?side1 ?side2 ?side3 ?side4 A112.out).mono ?_); (case side1 => repeat (first | exact (Kd.C_below HR0.out HB.out) | (with_reducible refine Kd.C_alloc ?_ _) | (with_reducible refine Kd.C_drewN ?_ _) | (with_reducible refine Kd.C_drew ?_))); (case side2 => exact HC0.out); (case side3 => repeat (first | exact (Kd.C_below HR2.out HB.out) | (with_reducible refine Kd.C_alloc ?_ _) | (with_reducible refine Kd.C_drewN ?_ _) | (with_reducible refine Kd.C_drew ?_))); (case side4 => exact HC2.out); rintro e w201 ⟨rfl, hb⟩; refine ⟨_, rfl, ?_⟩; have n0_ := Aside0.mk (blk_below (g := gb236) (o := .cells #[.int .i64 0, .int .i64 0, .int .i64 0] 101 (0, 0)) (by (with_reducible repeat (first | refine blk_drewN ?_ _ | refine blk_drew ?_ | refine blk_alloc ?_ _)); exact BK236.out) hb); have n1_ := Aside0.mk (blk_below (g := gb238) (o := .cells #[.int .i64 ((rd_T40 l0 a1).f0), .int .i64 ((rd_T40 l0 a1).f1), .int .i64 ((rd_T40 l0 a1).f2)] 40 (0, 0)) (by (with_reducible repeat (first | refine blk_drewN ?_ _ | refine blk_drew ?_ | refine blk_alloc ?_ _)); exact BK238.out) hb); have n2_ := Aside0.mk (below_step (by repeat (first | (with_reducible first | exact HB.out | apply below_alloc | apply pw_below_drewN | apply below_drew1 | refine below_set ?_ GE236.out | refine below_set ?_ GE238.out) | exact HB.out)) hb); clear BK236; clear BK238; clear HB; have BK236 := n0_; have BK238 := n1_; have HB := n2_; clear n0_ n1_ n2_; (try clear hb); (try clear hb2); (try clear hk); (try clear hi)) | ((with_reducible refine gate_dst (N := 15) rfl ?_); (try (refine gate_guard (by rfl) ?_; dsimp only)); refine box_event ?hg (N := 15) ?hd (cs := #[.int .i64 0, .int .i64 0, .int .i64 0]) (t := 101) ?hr ?_; (case hd => rfl); (case hg => rfl); (case hr => first | (go_simp; done) | (go_simp; rfl)); intro gb268 hg w202 hbox hb; have n0_ := Aside0.mk (blk_below (g := gb236) (o := .cells #[.int .i64 0, .int .i64 0, .int .i64 0] 101 (0, 0)) (by (with_reducible repeat (first | refine blk_drewN ?_ _ | refine blk_drew ?_ | refine blk_alloc ?_ _)); exact BK236.out) hb); have n1_ := Aside0.mk (blk_below (g := gb238) (o := .cells #[.int .i64 ((rd_T40 l0 a1).f0), .int .i64 ((rd_T40 l0 a1).f1), .int .i64 ((rd_T40 l0 a1).f2)] 40 (0, 0)) (by (with_reducible repeat (first | refine blk_drewN ?_ _ | refine blk_drew ?_ | refine blk_alloc ?_ _)); exact BK238.out) hb); have n2_ := Aside0.mk (below_step (by repeat (first | (with_reducible first | exact HB.out | apply below_alloc | apply pw_below_drewN | apply below_drew1 | refine below_set ?_ GE236.out | refine below_set ?_ GE238.out) | exact HB.out)) hb); have n3_ := Aside0.mk (hbox); have n4_ := Aside0.mk ((by rw [hg]; exact (below_size (by repeat (first | (with_reducible first | exact HB.out | apply below_alloc | apply pw_below_drewN | apply below_drew1 | refine below_set ?_ GE236.out | refine below_set ?_ GE238.out) | exact HB.out))) : w.heap.size ≤ gb268)); have n5_ := Aside0.mk ((by rw [hg]; exact (below_size (by repeat (first | (with_reducible first | exact HB.out | apply below_alloc | apply pw_below_drewN | apply below_drew1 | refine below_set ?_ GE236.out | refine below_set ?_ GE238.out) | exact HB.out))) : w.heap.size ≤ gb268)); have n6_ := Aside0.mk ((by rw [hg]; exact Nat.ne_of_lt (blk_lt (g := gb236) (o := .cells #[.int .i64 0, .int .i64 0, .int .i64 0] 101 (0, 0)) (by (with_reducible repeat (first | refine blk_drewN ?_ _ | refine blk_drew ?_ | refine blk_alloc ?_ _)); exact BK236.out)) : gb236 ≠ gb268)); have n7_ := Aside0.mk ((by rw [hg]; exact Nat.ne_of_gt (blk_lt (g := gb236) (o := .cells #[.int .i64 0, .int .i64 0, .int .i64 0] 101 (0, 0)) (by (with_reducible repeat (first | refine blk_drewN ?_ _ | refine blk_drew ?_ | refine blk_alloc ?_ _)); exact BK236.out)) : gb268 ≠ gb236)); have n8_ := Aside0.mk ((by rw [hg]; exact Nat.ne_of_lt (blk_lt (g := gb238) (o := .cells #[.int .i64 ((rd_T40 l0 a1).f0), .int .i64 ((rd_T40 l0 a1).f1), .int .i64 ((rd_T40 l0 a1).f2)] 40 (0, 0)) (by (with_reducible repeat (first | refine blk_drewN ?_ _ | refine blk_drew ?_ | refine blk_alloc ?_ _)); exact BK238.out)) : gb238 ≠ gb268)); have n9_ := Aside0.mk ((by rw [hg]; exact Nat.ne_of_gt (blk_lt (g := gb238) (o := .cells #[.int .i64 ((rd_T40 l0 a1).f0), .int .i64 ((rd_T40 l0 a1).f1), .int .i64 ((rd_T40 l0 a1).f2)] 40 (0, 0)) (by (with_reducible repeat (first | refine blk_drewN ?_ _ | refine blk_drew ?_ | refine blk_alloc ?_ _)); exact BK238.out)) : gb268 ≠ gb238)); clear BK236; clear BK238; clear HB; have BK236 := n0_; have BK238 := n1_; have HB := n2_; have BK268 := n3_; have GW268 := n4_; have GE268 := n5_; have NB236_268 := n6_; have NB268_236 := n7_; have NB238_268 := n8_; have NB268_238 := n9_; clear n0_ n1_ n2_ n3_ n4_ n5_ n6_ n7_ n8_ n9_; clear hb hbox hg; have hnb203 := NB268_236.out; have hnc203 := NB236_268.out; have hnb204 := NB268_238.out; have hnc204 := NB238_268.out; have hcz205_0 : w202.cell? ⟨gb268, 0, none⟩ = some (.int .i64 0) := (blk_cell BK268.out 0).trans rfl; have hcz205_1 : w202.cell? ⟨gb268, 1, none⟩ = some (.int .i64 0) := (blk_cell BK268.out 1).trans rfl; have hcz205_2 : w202.cell? ⟨gb268, 2, none⟩ = some (.int .i64 0) := (blk_cell BK268.out 2).trans rfl; have hfz205_0 := blk_frozen BK268.out 0; have hfz205_1 := blk_frozen BK268.out 1; have hfz205_2 := blk_frozen BK268.out 2) | ((with_reducible refine gate_callee (f := 58) rfl ?_); refine goesL_ (some 136) rfl rfl Tryd.func58 (by kernel_rfl) rfl #[.slice (some ad237) l0.length c0, .int .i64 (wrap64 (t267 - 1)), .slice A2 l2.length c2, .int .i64 a3, .bool a4] rfl (by (try simp only [List.map_toArray, List.map_cons, List.map_nil]); first | done | rfl | (simp only [List.length_drop, List.length_take]; rfl)) ?_; (with_reducible refine (ih kj54 (by have := HJ42.out; have := HJ54.out; omega) _ _ l0 (wrap64 (t267 - 1)) _ _ l2 a3 a4 t269 t270 t271 t272 _ ?side1 ?side2 ?side3 ?side4 A113.out).mono ?_); (case side1 => exact Kd.C_below HR0.out (by repeat (first | (with_reducible first | exact HB.out | apply below_alloc | apply pw_below_drewN | apply below_drew1 | refine below_set ?_ GE236.out | refine below_set ?_ GE238.out | refine below_set ?_ GE268.out) | exact HB.out))); (case side2 => exact HC0.out); (case side3 => exact Kd.C_below HR2.out (by repeat (first | (with_reducible first | exact HB.out | apply below_alloc | apply pw_below_drewN | apply below_drew1 | refine below_set ?_ GE236.out | refine below_set ?_ GE238.out | refine below_set ?_ GE268.out) | exact HB.out))); (case side4 => exact HC2.out); rintro e w206 ⟨rfl, hb⟩; refine ⟨_, rfl, ?_⟩; have n0_ := Aside0.mk (blk_below (g := gb236) (o := .cells #[.int .i64 0, .int .i64 0, .int .i64 0] 101 (0, 0)) (by (with_reducible repeat (first | refine blk_drewN ?_ _ | refine blk_drew ?_ | refine blk_alloc ?_ _)); refine blk_far ?_ NB236_268.out _; (with_reducible repeat (first | refine blk_drewN ?_ _ | refine blk_drew ?_ | refine blk_alloc ?_ _)); refine blk_far ?_ NB236_268.out _; (with_reducible repeat (first | refine blk_drewN ?_ _ | refine blk_drew ?_ | refine blk_alloc ?_ _)); refine blk_far ?_ NB236_268.out _; (with_reducible repeat (first | refine blk_drewN ?_ _ | refine blk_drew ?_ | refine blk_alloc ?_ _)); exact BK236.out) hb); have n1_ := Aside0.mk (blk_below (g := gb238) (o := .cells #[.int .i64 ((rd_T40 l0 a1).f0), .int .i64 ((rd_T40 l0 a1).f1), .int .i64 ((rd_T40 l0 a1).f2)] 40 (0, 0)) (by (with_reducible repeat (first | refine blk_drewN ?_ _ | refine blk_drew ?_ | refine blk_alloc ?_ _)); refine blk_far ?_ NB238_268.out _; (with_reducible repeat (first | refine blk_drewN ?_ _ | refine blk_drew ?_ | refine blk_alloc ?_ _)); refine blk_far ?_ NB238_268.out _; (with_reducible repeat (first | refine blk_drewN ?_ _ | refine blk_drew ?_ | refine blk_alloc ?_ _)); refine blk_far ?_ NB238_268.out _; (with_reducible repeat (first | refine blk_drewN ?_ _ | refine blk_drew ?_ | refine blk_alloc ?_ _)); exact BK238.out) hb); have n2_ := Aside0.mk (blk_below (g := gb268) (o := .cells #[.int .i64 t264, .int .i64 t265, .int .i64 t266] 101 (0, 0)) (by (with_reducible repeat (first | refine blk_drewN ?_ _ | refine blk_drew ?_ | refine blk_alloc ?_ _)); refine blk_put (cs := #[.int .i64 t264, .int .i64 t265, .int .i64 0]) ?_ 2 _ rfl; (with_reducible repeat (first | refine blk_drewN ?_ _ | refine blk_drew ?_ | refine blk_alloc ?_ _)); refine blk_put (cs := #[.int .i64 t264, .int .i64 0, .int .i64 0]) ?_ 1 _ rfl; (with_reducible repeat (first | refine blk_drewN ?_ _ | refine blk_drew ?_ | refine blk_alloc ?_ _)); refine blk_put (cs := #[.int .i64 0, .int .i64 0, .int .i64 0]) ?_ 0 _ rfl; (with_reducible repeat (first | refine blk_drewN ?_ _ | refine blk_drew ?_ | refine blk_alloc ?_ _)); exact BK268.out) hb); have n3_ := Aside0.mk (below_step (by repeat (first | (with_reducible first | exact HB.out | apply below_alloc | apply pw_below_drewN | apply below_drew1 | refine below_set ?_ GE236.out | refine below_set ?_ GE238.out | refine below_set ?_ GE268.out) | exact HB.out)) hb); clear BK236; clear BK238; clear BK268; clear HB; have BK236 := n0_; have BK238 := n1_; have BK268 := n2_; have HB := n3_; clear n0_ n1_ n2_ n3_; (try clear hb); (try clear hb2); (try clear hk); (try clear hi)) | ((with_reducible refine gate_dst (N := 17) rfl ?_); (try (refine gate_guard (by rfl) ?_; dsimp only)); refine box_event ?hg (N := 17) ?hd (cs := #[.int .i64 0, .int .i64 0, .int .i64 0]) (t := 101) ?hr ?_; (case hd => rfl); (case hg => rfl); (case hr => first | (go_simp; done) | (go_simp; rfl)); intro gb273 hg w207 hbox hb; have n0_ := Aside0.mk (blk_below (g := gb236) (o := .cells #[.int .i64 0, .int .i64 0, .int .i64 0] 101 (0, 0)) (by (with_reducible repeat (first | refine blk_drewN ?_ _ | refine blk_drew ?_ | refine blk_alloc ?_ _)); exact BK236.out) hb); have n1_ := Aside0.mk (blk_below (g := gb238) (o := .cells #[.int .i64 ((rd_T40 l0 a1).f0), .int .i64 ((rd_T40 l0 a1).f1), .int .i64 ((rd_T40 l0 a1).f2)] 40 (0, 0)) (by (with_reducible repeat (first | refine blk_drewN ?_ _ | refine blk_drew ?_ | refine blk_alloc ?_ _)); exact BK238.out) hb); have n2_ := Aside0.mk (blk_below (g := gb268) (o := .cells #[.int .i64 t264, .int .i64 t265, .int .i64 t266] 101 (0, 0)) (by (with_reducible repeat (first | refine blk_drewN ?_ _ | refine blk_drew ?_ | refine blk_alloc ?_ _)); exact BK268.out) hb); have n3_ := Aside0.mk (below_step (by repeat (first | (with_reducible first | exact HB.out | apply below_alloc | apply pw_below_drewN | apply below_drew1 | refine below_set ?_ GE236.out | refine below_set ?_ GE238.out | refine below_set ?_ GE268.out) | exact HB.out)) hb); have n4_ := Aside0.mk (hbox); have n5_ := Aside0.mk ((by rw [hg]; exact (below_size (by repeat (first | (with_reducible first | exact HB.out | apply below_alloc | apply pw_below_drewN | apply below_drew1 | refine below_set ?_ GE236.out | refine below_set ?_ GE238.out | refine below_set ?_ GE268.out) | exact HB.out))) : w.heap.size ≤ gb273)); have n6_ := Aside0.mk ((by rw [hg]; exact (below_size (by repeat (first | (with_reducible first | exact HB.out | apply below_alloc | apply pw_below_drewN | apply below_drew1 | refine below_set ?_ GE236.out | refine below_set ?_ GE238.out | refine below_set ?_ GE268.out) | exact HB.out))) : w.heap.size ≤ gb273)); have n7_ := Aside0.mk ((by rw [hg]; exact Nat.ne_of_lt (blk_lt (g := gb236) (o := .cells #[.int .i64 0, .int .i64 0, .int .i64 0] 101 (0, 0)) (by (with_reducible repeat (first | refine blk_drewN ?_ _ | refine blk_drew ?_ | refine blk_alloc ?_ _)); exact BK236.out)) : gb236 ≠ gb273)); have n8_ := Aside0.mk ((by rw [hg]; exact Nat.ne_of_gt (blk_lt (g := gb236) (o := .cells #[.int .i64 0, .int .i64 0, .int .i64 0] 101 (0, 0)) (by (with_reducible repeat (first | refine blk_drewN ?_ _ | refine blk_drew ?_ | refine blk_alloc ?_ _)); exact BK236.out)) : gb273 ≠ gb236)); have n9_ := Aside0.mk ((by rw [hg]; exact Nat.ne_of_lt (blk_lt (g := gb238) (o := .cells #[.int .i64 ((rd_T40 l0 a1).f0), .int .i64 ((rd_T40 l0 a1).f1), .int .i64 ((rd_T40 l0 a1).f2)] 40 (0, 0)) (by (with_reducible repeat (first | refine blk_drewN ?_ _ | refine blk_drew ?_ | refine blk_alloc ?_ _)); exact BK238.out)) : gb238 ≠ gb273)); have n10_ := Aside0.mk ((by rw [hg]; exact Nat.ne_of_gt (blk_lt (g := gb238) (o := .cells #[.int .i64 ((rd_T40 l0 a1).f0), .int .i64 ((rd_T40 l0 a1).f1), .int .i64 ((rd_T40 l0 a1).f2)] 40 (0, 0)) (by (with_reducible repeat (first | refine blk_drewN ?_ _ | refine blk_drew ?_ | refine blk_alloc ?_ _)); exact BK238.out)) : gb273 ≠ gb238)); have n11_ := Aside0.mk ((by rw [hg]; exact Nat.ne_of_lt (blk_lt (g := gb268) (o := .cells #[.int .i64 t264, .int .i64 t265, .int .i64 t266] 101 (0, 0)) (by (with_reducible repeat (first | refine blk_drewN ?_ _ | refine blk_drew ?_ | refine blk_alloc ?_ _)); exact BK268.out)) : gb268 ≠ gb273)); have n12_ := Aside0.mk ((by rw [hg]; exact Nat.ne_of_gt (blk_lt (g := gb268) (o := .cells #[.int .i64 t264, .int .i64 t265, .int .i64 t266] 101 (0, 0)) (by (with_reducible repeat (first | refine blk_drewN ?_ _ | refine blk_drew ?_ | refine blk_alloc ?_ _)); exact BK268.out)) : gb273 ≠ gb268)); clear BK236; clear BK238; clear BK268; clear HB; have BK236 := n0_; have BK238 := n1_; have BK268 := n2_; have HB := n3_; have BK273 := n4_; have GW273 := n5_; have GE273 := n6_; have NB236_273 := n7_; have NB273_236 := n8_; have NB238_273 := n9_; have NB273_238 := n10_; have NB268_273 := n11_; have NB273_268 := n12_; clear n0_ n1_ n2_ n3_ n4_ n5_ n6_ n7_ n8_ n9_ n10_ n11_ n12_; clear hb hbox hg; have hnb208 := NB273_236.out; have hnc208 := NB236_273.out; have hnb209 := NB273_238.out; have hnc209 := NB238_273.out; have hnb210 := NB273_268.out; have hnc210 := NB268_273.out; have hcz211_0 : w207.cell? ⟨gb273, 0, none⟩ = some (.int .i64 0) := (blk_cell BK273.out 0).trans rfl; have hcz211_1 : w207.cell? ⟨gb273, 1, none⟩ = some (.int .i64 0) := (blk_cell BK273.out 1).trans rfl; have hcz211_2 : w207.cell? ⟨gb273, 2, none⟩ = some (.int .i64 0) := (blk_cell BK273.out 2).trans rfl; have hfz211_0 := blk_frozen BK273.out 0; have hfz211_1 := blk_frozen BK273.out 1; have hfz211_2 := blk_frozen BK273.out 2; have hnb212 := NB236_238.out; have hnc212 := NB238_236.out; have hcz213_0 : w207.cell? ⟨gb236, 0, none⟩ = some (.int .i64 0) := (blk_cell BK236.out 0).trans rfl; have hcz213_1 : w207.cell? ⟨gb236, 1, none⟩ = some (.int .i64 0) := (blk_cell BK236.out 1).trans rfl; have hcz213_2 : w207.cell? ⟨gb236, 2, none⟩ = some (.int .i64 0) := (blk_cell BK236.out 2).trans rfl; have hfz213_0 := blk_frozen BK236.out 0; have hfz213_1 := blk_frozen BK236.out 1; have hfz213_2 := blk_frozen BK236.out 2))
                        refine bodyPost_ret (results_ct rfl _ _ gb236 101 #[.int .i64 t269, .int .i64 t270, .int .i64 t271] (0, 0) _ rfl (by (with_reducible repeat (first | refine blk_drewN ?_ _ | refine blk_drew ?_ | refine blk_alloc ?_ _)); refine blk_put (cs := #[.int .i64 t269, .int .i64 t270, .int .i64 0]) ?_ 2 _ rfl; (with_reducible repeat (first | refine blk_drewN ?_ _ | refine blk_drew ?_ | refine blk_alloc ?_ _)); refine blk_put (cs := #[.int .i64 t269, .int .i64 0, .int .i64 0]) ?_ 1 _ rfl; (with_reducible repeat (first | refine blk_drewN ?_ _ | refine blk_drew ?_ | refine blk_alloc ?_ _)); refine blk_put (cs := #[.int .i64 0, .int .i64 0, .int .i64 0]) ?_ 0 _ rfl; (with_reducible repeat (first | refine blk_drewN ?_ _ | refine blk_drew ?_ | refine blk_alloc ?_ _)); refine blk_far ?_ NB236_273.out _; (with_reducible repeat (first | refine blk_drewN ?_ _ | refine blk_drew ?_ | refine blk_alloc ?_ _)); refine blk_far ?_ NB236_273.out _; (with_reducible repeat (first | refine blk_drewN ?_ _ | refine blk_drew ?_ | refine blk_alloc ?_ _)); refine blk_far ?_ NB236_273.out _; (with_reducible repeat (first | refine blk_drewN ?_ _ | refine blk_drew ?_ | refine blk_alloc ?_ _)); exact BK236.out) Tryd.underlying101 rfl (by kernel_rfl)) rfl ?_
                        exact ⟨by first | rfl | (simp [errW_none, errW_some] <;> rfl) | (simp [*, errW_none, errW_some] <;> rfl), by repeat (first | (with_reducible first | exact HB.out | apply below_alloc | apply pw_below_drewN | apply below_drew1 | refine below_set ?_ GE236.out | refine below_set ?_ GE238.out | refine below_set ?_ GE268.out | refine below_set ?_ GE273.out) | exact HB.out)⟩
    · rw [if_neg c7] at H
      exact absurd H (by simp)
  · rw [if_neg c6] at H
    exact absurd H (by simp)

end Go.Proofs.YtldcplgfkcionaaDoor.PAll
