/- The example ahead of the statements of layer 11. -/
import Derived.Test.YtldcplgfkcionaaDoorActdo
set_option linter.unusedVariables false
set_option linter.unusedSimpArgs false
namespace Go.Proofs.YtldcplgfkcionaaDoor
open Go.RowKit Go.Proofs.YtldcplgfkcionaaDoorW.PrintWords
open PX (T V)
theorem parsed_det {s : List UInt8} {r r' : List T × Er} (h : Parsed s r) (h' : Parsed s r') : r = r' := by
  unfold Parsed at h h'
  cases hx : (lexed s).2 with
  | none =>
    rw [hx] at h h'
    obtain ⟨R, hR, rfl⟩ := h
    obtain ⟨R', hR', rfl⟩ := h'
    rw [PX.Pr.det hR hR']
  | code c => rw [hx] at h h'; rw [h, h']
  | spot a c => rw [hx] at h h'; rw [h, h']
theorem parseT_eq {s : ByteArray} {r : List T × Er} (h : Parsed s.data.toList r) : parseT s = r := parsed_det (parseT_ok s) h
theorem parsed_a : Parsed [97, 43, 49] ([⟨2, 0, 0⟩, ⟨1, 1, 0⟩, ⟨3, 0, 0⟩], .none) :=
  parsed_run 9 30 _ [⟨2, 0, 0⟩, ⟨3, 0, 1⟩, ⟨1, 1, 2⟩] ⟨3, [⟨2, 0, 0⟩, ⟨1, 1, 0⟩, ⟨3, 0, 0⟩], false⟩ (by decide) (by rfl) (by rfl)
abbrev acts3 : List Ac := [⟨1, 0, 0, ⟨#[97, 43, 49]⟩⟩, ⟨5, 0, 0, ⟨#[49, 47, 48]⟩⟩, ⟨2, 5, 0, ⟨#[]⟩⟩]
theorem val_a : valT ⟨#[97, 43, 49]⟩ [7] = (8, true) := by
  unfold valT
  rw [parseT_eq (s := ⟨#[97, 43, 49]⟩) parsed_a]
  kernel_rfl
theorem val_z (env : List Int) : valT ⟨#[49, 47, 48]⟩ env = (0, false) := by
  unfold valT
  rw [parseT_eq (s := ⟨#[49, 47, 48]⟩) parsed_z]
  rfl
theorem do_3 : doA ⟨[7], [], []⟩ acts3 = ⟨[8], [], [1001]⟩ := by
  simp [doA, oneA, val_a, val_z]
theorem acts_new {W : World} {g ty : Nat} (h : W.heap[g]? = some (.cells #[.int .i64 1, .int .i64 0, .int .i64 0, .string ⟨#[97, 43, 49]⟩, .int .i64 5, .int .i64 0, .int .i64 0, .string ⟨#[49, 47, 48]⟩, .int .i64 2, .int .i64 5, .int .i64 0, .string ⟨#[]⟩] ty (0, 0))) : ActsC W (some ⟨g, 0, none⟩) acts3.length acts3 := by
  refine ⟨rfl, by decide, fun _ => ⟨_, rfl, ?_⟩⟩
  intro j p hj
  match j, hj with
  | 0, hj =>
    simp only [List.getElem?_cons_zero, List.getElem?_cons_succ, Option.some.injEq] at hj
    subst hj
    refine ⟨_, rfl, PAll.k105_mk W _, ?_⟩
    intro i u hi
    rw [add_at]
    match i, hi with
    | 0, hi => simp only [List.getElem?_cons_zero, List.getElem?_cons_succ, Option.some.injEq] at hi; subst hi; exact blk_cell h 0
    | 1, hi => simp only [List.getElem?_cons_zero, List.getElem?_cons_succ, Option.some.injEq] at hi; subst hi; exact blk_cell h 1
    | 2, hi => simp only [List.getElem?_cons_zero, List.getElem?_cons_succ, Option.some.injEq] at hi; subst hi; exact blk_cell h 2
    | 3, hi => simp only [List.getElem?_cons_zero, List.getElem?_cons_succ, Option.some.injEq] at hi; subst hi; exact blk_cell h 3
    | n + 4, hi => simp at hi
  | 1, hj =>
    simp only [List.getElem?_cons_zero, List.getElem?_cons_succ, Option.some.injEq] at hj
    subst hj
    refine ⟨_, rfl, PAll.k105_mk W _, ?_⟩
    intro i u hi
    rw [add_at]
    match i, hi with
    | 0, hi => simp only [List.getElem?_cons_zero, List.getElem?_cons_succ, Option.some.injEq] at hi; subst hi; exact blk_cell h 4
    | 1, hi => simp only [List.getElem?_cons_zero, List.getElem?_cons_succ, Option.some.injEq] at hi; subst hi; exact blk_cell h 5
    | 2, hi => simp only [List.getElem?_cons_zero, List.getElem?_cons_succ, Option.some.injEq] at hi; subst hi; exact blk_cell h 6
    | 3, hi => simp only [List.getElem?_cons_zero, List.getElem?_cons_succ, Option.some.injEq] at hi; subst hi; exact blk_cell h 7
    | n + 4, hi => simp at hi
  | 2, hj =>
    simp only [List.getElem?_cons_zero, List.getElem?_cons_succ, Option.some.injEq] at hj
    subst hj
    refine ⟨_, rfl, PAll.k105_mk W _, ?_⟩
    intro i u hi
    rw [add_at]
    match i, hi with
    | 0, hi => simp only [List.getElem?_cons_zero, List.getElem?_cons_succ, Option.some.injEq] at hi; subst hi; exact blk_cell h 8
    | 1, hi => simp only [List.getElem?_cons_zero, List.getElem?_cons_succ, Option.some.injEq] at hi; subst hi; exact blk_cell h 9
    | 2, hi => simp only [List.getElem?_cons_zero, List.getElem?_cons_succ, Option.some.injEq] at hi; subst hi; exact blk_cell h 10
    | 3, hi => simp only [List.getElem?_cons_zero, List.getElem?_cons_succ, Option.some.injEq] at hi; subst hi; exact blk_cell h 11
    | n + 4, hi => simp at hi
  | n + 3, hj => simp at hj
theorem nums_new {W : World} {g ty : Nat} {x : Int} (h : W.heap[g]? = some (.cells #[.int .i64 x] ty (0, 0))) : NumsC W (some ⟨g, 0, none⟩) ([x] : List Int).length [x] := by
  refine ⟨rfl, by simp, fun _ => ⟨_, rfl, ?_⟩⟩
  intro j p hj
  match j, hj with
  | 0, hj =>
    simp only [List.getElem?_cons_zero, Option.some.injEq] at hj
    subst hj
    refine ⟨[.int .i64 x], rfl, rfl, ?_⟩
    intro i u hi
    rw [add_at]
    match i, hi with
    | 0, hi => simp only [List.getElem?_cons_zero, Option.some.injEq] at hi; subst hi; exact blk_cell h 0
    | n + 1, hi => simp at hi
  | n + 1, hj => simp at hj
set_option maxHeartbeats 4000000 in
set_option maxRecDepth 100000 in
theorem up11 (w : World) (hw : Laid w) : Calls Tryd.prog 35 #[] w fun e w' => e = .returned (.bool true) ∧ Below w.heap.size w w' := by
  go_enter Tryd.func35, Tryd.ntmps35
  go_wp2_with fail
  have H1 := Lib.hid (blk_alloc (.cells #[.int .i64 7] 2) (blk_new w (.cells #[.int .i64 1, .int .i64 0, .int .i64 0, .string ⟨#[97, 43, 49]⟩, .int .i64 5, .int .i64 0, .int .i64 0, .string ⟨#[49, 47, 48]⟩, .int .i64 2, .int .i64 5, .int .i64 0, .string ⟨#[]⟩] 105)))
  have H2 := blk_new (w.alloc (.cells #[.int .i64 1, .int .i64 0, .int .i64 0, .string ⟨#[97, 43, 49]⟩, .int .i64 5, .int .i64 0, .int .i64 0, .string ⟨#[49, 47, 48]⟩, .int .i64 2, .int .i64 5, .int .i64 0, .string ⟨#[]⟩] 105)) (.cells #[.int .i64 7] 2)
  rw [show (w.alloc (.cells #[.int .i64 1, .int .i64 0, .int .i64 0, .string ⟨#[97, 43, 49]⟩, .int .i64 5, .int .i64 0, .int .i64 0, .string ⟨#[49, 47, 48]⟩, .int .i64 2, .int .i64 5, .int .i64 0, .string ⟨#[]⟩] 105)).heap.size = w.heap.size + 1 by simp] at H2
  have H2 := Lib.hid H2
  have hb0 := ((Below.refl w.heap.size w).alloc (Nat.le_refl _) (.cells #[.int .i64 1, .int .i64 0, .int .i64 0, .string ⟨#[97, 43, 49]⟩, .int .i64 5, .int .i64 0, .int .i64 0, .string ⟨#[49, 47, 48]⟩, .int .i64 2, .int .i64 5, .int .i64 0, .string ⟨#[]⟩] 105)).alloc (by simp) (.cells #[.int .i64 7] 2)
  have HB := Lib.hid hb0
  clear hb0
  refine (do_any (some ⟨w.heap.size, 0, none⟩) 3 acts3 (some ⟨w.heap.size + 1, 0, none⟩) 1 [7] _ (hw.below HB.out) (acts_new H1.out) (by decide) (nums_new H2.out) (by decide) (by decide) (by decide) (by intro a ha; simp at ha; rcases ha with rfl | rfl | rfl <;> decide)).mono ?_
  rw [do_3]
  rintro e w1 ⟨ve, vo, vi, rfl, hv, ho, hi, hb1⟩
  have hbf := HB.out.trans (hb1.mono HB.out.size)
  obtain ⟨g1, cap1, rfl, _⟩ := Kd.R_form hv (by simp)
  obtain ⟨g2, cap2, rfl, _⟩ := Kd.R_form hi (by simp)
  obtain ⟨A3, cap3, rfl⟩ := Kd.R_slice ho
  have k1 : w1.cell? ⟨g1, 0, none⟩ = some (.int .i64 8) := (Kd.R_cell (0 : Int) hv 0 (by omega) (by simp)).1
  have k2 : w1.cell? ⟨g2, 0, none⟩ = some (.int .i64 1001) := (Kd.R_cell (0 : Int) hi 0 (by omega) (by simp)).1
  clear hv ho hi H1 H2 HB hb1
  simp only [List.length_cons, List.length_nil]
  go_wp2_with fail
  go_ret
  exact ⟨rfl, hbf⟩
end Go.Proofs.YtldcplgfkcionaaDoor
