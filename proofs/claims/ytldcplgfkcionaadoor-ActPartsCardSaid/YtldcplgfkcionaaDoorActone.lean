/- An action. -/
import Derived.Test.YtldcplgfkcionaaDoorActp
import Derived.Test.YtldcplgfkcionaaDoorTail
import Derived.Deep.RegionLawGrows
set_option linter.unusedVariables false
set_option linter.unusedSimpArgs false
namespace Go.Proofs.YtldcplgfkcionaaDoor
open Go.RowKit Go.Proofs.YtldcplgfkcionaaDoorW.PrintWords
open PX (T V)
section
variable {ops : Array Oper} {rest : List Oper} {o : Oper} {a : Act} {Q : Exit → Act → World → Prop}
theorem out_append {W : World} (hgd : o.guard = none) (s x : Operand)
    (ho : o.op = .call { callee := .builtin .append, args := #[s, x], argTypes := #[64, 64] })
    (B : Nat) (v : Value) (xs : List Ou) (p q r t : Int) (hs : a.eval s = v) (N : Nat) (hx : a.eval x = .slice (some ⟨N, 0, none⟩) 1 1) (hN : N = W.heap.size)
    (HO : OutR W B v xs) (hB : B ≤ W.heap.size) (hl : xs.length < 1000000)
    (h : ∀ v1 w1, OutR w1 B v1 (xs ++ [⟨p, q, r, t⟩]) → Below B W w1 → W.grownBy w1 v.ownBlock → wpList Tryd.prog ops Q rest (a.put o.dst v1) w1) :
    wpList Tryd.prog ops Q (o :: rest) a (W.alloc (.cells #[.int .i64 p, .int .i64 q, .int .i64 r, .int .i64 t] 112)) := by
  subst hN
  refine Kd.R_append PAll.k112 (w0 := W) B hgd s x 64 112 (.agg #[(.int .i64 0), (.int .i64 0), (.int .i64 0), (.int .i64 0)]) 32 ho Tryd.underlying64 (by kernel_rfl) rfl (by decide) (by omega) v xs (⟨p, q, r, t⟩ : Ou) [.int .i64 p, .int .i64 q, .int .i64 r, .int .i64 t]
    (fun _ => True) (fun _ => False) hs hx (PAll.k112_mkM _ _ _ (⟨p, q, r, t⟩ : Ou)) (fun _ hk => hk.elim) (fun _ _ => trivial) HO (Below.refl _ _) hB (by omega) ?_
  intro v1 w1 h1 h2 h3 h4
  exact h v1 w1 h1 h2 h3
theorem inn_append {W : World} (hgd : o.guard = none) (s x : Operand)
    (ho : o.op = .call { callee := .builtin .append, args := #[s, x], argTypes := #[65, 65] })
    (B : Nat) (v : Value) (xs : List Int) (p : Int) (hs : a.eval s = v) (N : Nat) (hx : a.eval x = .slice (some ⟨N, 0, none⟩) 1 1) (hN : N = W.heap.size)
    (HO : InnR W B v xs) (hB : B ≤ W.heap.size) (hl : xs.length < 1000000)
    (h : ∀ v1 w1, InnR w1 B v1 (xs ++ [p]) → Below B W w1 → W.grownBy w1 v.ownBlock → wpList Tryd.prog ops Q rest (a.put o.dst v1) w1) :
    wpList Tryd.prog ops Q (o :: rest) a (W.alloc (.cells #[.int .i64 p] 3)) := by
  subst hN
  refine Kd.R_append (Kd.int .i64) (w0 := W) B hgd s x 65 3 (.int .i64 0) 8 ho Tryd.underlying65 (by kernel_rfl) rfl (by decide) (by omega) v xs p [.int .i64 p]
    (fun _ => True) (fun _ => False) hs hx rfl (fun _ hk => hk.elim) (fun _ _ => trivial) HO (Below.refl _ _) hB (by omega) ?_
  intro v1 w1 h1 h2 h3 h4
  exact h v1 w1 h1 h2 h3
theorem inn_step {W : World} {K : Act → World → Prop} {E : Prop} (hgd : o.guard = none) (s x : Operand)
    (ho : o.op = .call { callee := .builtin .append, args := #[s, x], argTypes := #[65, 65] })
    (B : Nat) (v : Value) (xs : List Int) (p : Int) (hs : a.eval s = v) (N : Nat) (hx : a.eval x = .slice (some ⟨N, 0, none⟩) 1 1) (hN : N = W.heap.size)
    (HO : InnR W B v xs) (hB : B ≤ W.heap.size) (hl : xs.length < 1000000)
    (h : ∀ v1 w1, InnR w1 B v1 (xs ++ [p]) → Below B W w1 → W.grownBy w1 v.ownBlock → K (a.put o.dst v1) w1) :
    if Region.wanted o (yielded ops a.tmps) = true then Oper.wp Tryd.prog o a (W.alloc (.cells #[.int .i64 p] 3)) K Q else E := by
  have hw : Region.wanted o (yielded ops a.tmps) = true := by simp [Region.wanted, hgd]
  subst hN
  have := Kd.R_append_step (ops := ops) (Q := Q) (Kc := K) (Kd.int .i64) (w0 := W) B hw s x 65 3 (.int .i64 0) 8 ho Tryd.underlying65 (by kernel_rfl) rfl (by decide) (by omega) v xs p [.int .i64 p]
    (fun _ => True) (fun _ => False) hs hx rfl (fun _ hk => hk.elim) (fun _ _ => trivial) HO (Below.refl _ _) hB (by omega) (fun v1 w1 h1 h2 h3 h4 => h v1 w1 h1 h2 h3)
  rw [if_pos hw] at this ⊢
  exact this
theorem out_step {W : World} {K : Act → World → Prop} {E : Prop} (hgd : o.guard = none) (s x : Operand)
    (ho : o.op = .call { callee := .builtin .append, args := #[s, x], argTypes := #[64, 64] })
    (B : Nat) (v : Value) (xs : List Ou) (p q r t : Int) (hs : a.eval s = v) (N : Nat) (hx : a.eval x = .slice (some ⟨N, 0, none⟩) 1 1) (hN : N = W.heap.size)
    (HO : OutR W B v xs) (hB : B ≤ W.heap.size) (hl : xs.length < 1000000)
    (h : ∀ v1 w1, OutR w1 B v1 (xs ++ [⟨p, q, r, t⟩]) → Below B W w1 → W.grownBy w1 v.ownBlock → K (a.put o.dst v1) w1) :
    if Region.wanted o (yielded ops a.tmps) = true then Oper.wp Tryd.prog o a (W.alloc (.cells #[.int .i64 p, .int .i64 q, .int .i64 r, .int .i64 t] 112)) K Q else E := by
  have hw : Region.wanted o (yielded ops a.tmps) = true := by simp [Region.wanted, hgd]
  subst hN
  have := Kd.R_append_step (ops := ops) (Q := Q) (Kc := K) PAll.k112 (w0 := W) B hw s x 64 112 (.agg #[(.int .i64 0), (.int .i64 0), (.int .i64 0), (.int .i64 0)]) 32 ho Tryd.underlying64 (by kernel_rfl) rfl (by decide) (by omega) v xs (⟨p, q, r, t⟩ : Ou) [.int .i64 p, .int .i64 q, .int .i64 r, .int .i64 t]
    (fun _ => True) (fun _ => False) hs hx (PAll.k112_mkM _ _ _ (⟨p, q, r, t⟩ : Ou)) (fun _ hk => hk.elim) (fun _ _ => trivial) HO (Below.refl _ _) hB (by omega) (fun v1 w1 h1 h2 h3 h4 => h v1 w1 h1 h2 h3)
  rw [if_pos hw] at this ⊢
  exact this
end
section
variable {g B : Nat} {w : World} {s : Ds} {ve vo vi : Value}
/-- What is laid anew: its out. -/
theorem Doer.putOut (h : Doer g B w s ve vo vi) {w1 : World} {v1 : Value} {xs : List Ou} (hg : w.grownBy w1 vo.ownBlock) (hT : OutR w1 B v1 xs) :
    Doer g B (w1.setCell ⟨g, 1, none⟩ v1) { s with out := xs } ve v1 vi := by
  have hne := Kd.R_ne h.out h.blk (by decide)
  have hblk := (hg.block g (lt_of_block h.blk) hne).trans h.blk
  refine ⟨blk_set hblk 1 _, Kd.R_set (Kd.R_over h.env h.out (int_q (by decide)) hg) hblk (int_q (by decide)) 1 _, Kd.R_set hT hblk (out_q (by decide)) 1 _, Kd.R_set (Kd.R_over h.inn h.out (int_q (by decide)) hg) hblk (int_q (by decide)) 1 _, h.lt, ?_⟩
  have := h.le; have := hg.size; simp [World.setCell]; omega
theorem Doer.putInn (h : Doer g B w s ve vo vi) {w1 : World} {v1 : Value} {xs : List Int} (hg : w.grownBy w1 vi.ownBlock) (hT : InnR w1 B v1 xs) :
    Doer g B (w1.setCell ⟨g, 2, none⟩ v1) { s with inn := xs } ve vo v1 := by
  have hne := Kd.R_ne h.inn h.blk (by decide)
  have hblk := (hg.block g (lt_of_block h.blk) hne).trans h.blk
  refine ⟨blk_set hblk 2 _, Kd.R_set (Kd.R_over h.env h.inn (int_q (by decide)) hg) hblk (int_q (by decide)) 2 _, Kd.R_set (Kd.R_over h.out h.inn (out_q (by decide)) hg) hblk (out_q (by decide)) 2 _, Kd.R_set hT hblk (int_q (by decide)) 2 _, h.lt, ?_⟩
  have := h.le; have := hg.size; simp [World.setCell]; omega
theorem Doer.putEnv {e cap : Nat} {w : World} {s : Ds} {vo vi : Value} (h : Doer g B w s (.slice (some ⟨e, 0, none⟩) s.env.length cap) vo vi) (i n : Int) :
    Doer g B (w.setCell ⟨e, i.toNat, none⟩ (.int .i64 n)) { s with env := s.env.set i.toNat n } (.slice (some ⟨e, 0, none⟩) s.env.length cap) vo vi := by
  obtain ⟨h1, hg⟩ := Kd.R_put h.env i n
  have hg' : w.grownBy (w.setCell ⟨e, i.toNat, none⟩ (.int .i64 n)) (Value.slice (some ⟨e, 0, none⟩) s.env.length cap).ownBlock := hg
  have hne := Kd.R_ne h.env h.blk (by decide)
  refine ⟨(hg'.block g (lt_of_block h.blk) hne).trans h.blk, h1, Kd.R_over h.out h.env (out_q (by decide)) hg', Kd.R_over h.inn h.env (int_q (by decide)) hg', h.lt, ?_⟩
  have := h.le; have := hg.size; omega
end
set_option maxHeartbeats 16000000 in
set_option maxRecDepth 100000 in
theorem one_any {g B : Nat} {w : World} {s : Ds} {ve vo vi : Value} (hw : Laid w) (h : Doer g B w s ve vo vi) (k n m : Int) (t : ByteArray) (ht : t.size ≤ 281474976710656) (hlo : s.out.length < 1000000) (hli : s.inn.length < 1000000) :
    Calls Tryd.prog 61 #[.pointer (some ⟨g, 0, none⟩), .agg #[.int .i64 k, .int .i64 n, .int .i64 m, .string t]] w fun e w' => e = .returned (.bool (oneA s ⟨k, n, m, t⟩).2) ∧ Below B w w' ∧ ∃ ve' vo' vi', Doer g B w' (oneA s ⟨k, n, m, t⟩).1 ve' vo' vi' := by
  by_cases hk2 : k = 2
  · subst hk2
    have hone : oneA s ⟨2, n, m, t⟩ = ({ s with inn := s.inn ++ [n] }, true) := rfl
    rw [hone]
    clear hone
    have hbA := (Below.refl B w).alloc h.le (.cells #[.int .i64 2, .int .i64 n, .int .i64 m, .string t] 105)
    have hd1 := h.below ((Below.refl _ w).alloc (Nat.le_refl _) (.cells #[.int .i64 2, .int .i64 n, .int .i64 m, .string t] 105))
    have hw1 := hw.below ((Below.refl _ w).alloc (Nat.le_refl _) (.cells #[.int .i64 2, .int .i64 n, .int .i64 m, .string t] 105))
    have hac := blk_new w (.cells #[.int .i64 2, .int .i64 n, .int .i64 m, .string t] 105)
    have HD1 := Lib.hid hd1
    have HW1 := Lib.hid hw1
    clear hd1 h hw1
    go_enter Tryd.func61, Tryd.ntmps61
    go_wp2_with fail
    generalize w.alloc (.cells #[.int .i64 2, .int .i64 n, .int .i64 m, .string t] 105) = W at hac HD1 HW1 hbA ⊢
    obtain ⟨⟨c0, c1, c2⟩, f0, f1, f2⟩ := HD1.out.cells
    obtain ⟨a0, a1, a2, a3⟩ : _ ∧ _ ∧ _ ∧ _ := ⟨blk_cell hac 0, blk_cell hac 1, blk_cell hac 2, blk_cell hac 3⟩
    have HB := Lib.hid hbA
    have HAC := Lib.hid hac
    clear hbA hac
    have HN := Lib.hid (HD1.out.below (below_drew (Below.refl _ _)))
    have HBN := Lib.hid (below_drew HB.out)
    have hgl := lt_of_block HD1.out.blk
    have hal : w.heap.size < W.heap.size := lt_of_block HAC.out
    clear HB HD1
    go_region_law (refine inn_step (W := W.drew) rfl (.tmp 15) (.tmp 18) rfl B _ s.inn n rfl _ rfl (by rfl) HN.out.inn HN.out.le hli ?_; intro v1 w1 hT hb1 hg; have hb2 := HBN.out.trans hb1; have hfin := HN.out.putInn hg hT; have hblk := (hg.block g (lt_of_block HN.out.blk) (Kd.R_ne HN.out.inn HN.out.blk (by decide))).trans HN.out.blk; have f2' : w1.frozen? ⟨g, 2, none⟩ = false := blk_free hblk 2; have c2' : w1.cell? ⟨g, 2, none⟩ = some vi := blk_cell hblk 2; have hb3 := hb2.setCell (p := ⟨g, 2, none⟩) HN.out.lt v1; obtain ⟨A1, cap1, rfl⟩ := Kd.R_slice hT; rw [List.length_append, List.length_singleton] at hfin hb3; have HF := Lib.hid hfin; have HB3 := Lib.hid hb3; clear hT hb1 hg hb2 hfin hblk hb3 c0 c1 c2 f0 f1 f2 a0 a1 a2 a3)
    all_goals
      go_wp2_with fail
      go_ret
      exact ⟨rfl, HB3.out, _, _, _, HF.out⟩
  by_cases hk4 : k = 4
  · subst hk4
    have hone : oneA s ⟨4, n, m, t⟩ = ({ s with out := s.out ++ [⟨4, 0, 0, n⟩] }, true) := rfl
    rw [hone]
    clear hone
    have hbA := (Below.refl B w).alloc h.le (.cells #[.int .i64 4, .int .i64 n, .int .i64 m, .string t] 105)
    have hd1 := h.below ((Below.refl _ w).alloc (Nat.le_refl _) (.cells #[.int .i64 4, .int .i64 n, .int .i64 m, .string t] 105))
    have hw1 := hw.below ((Below.refl _ w).alloc (Nat.le_refl _) (.cells #[.int .i64 4, .int .i64 n, .int .i64 m, .string t] 105))
    have hac := blk_new w (.cells #[.int .i64 4, .int .i64 n, .int .i64 m, .string t] 105)
    have HD1 := Lib.hid hd1
    have HW1 := Lib.hid hw1
    clear hd1 h hw1
    go_enter Tryd.func61, Tryd.ntmps61
    go_wp2_with fail
    generalize w.alloc (.cells #[.int .i64 4, .int .i64 n, .int .i64 m, .string t] 105) = W at hac HD1 HW1 hbA ⊢
    obtain ⟨⟨c0, c1, c2⟩, f0, f1, f2⟩ := HD1.out.cells
    obtain ⟨a0, a1, a2, a3⟩ : _ ∧ _ ∧ _ ∧ _ := ⟨blk_cell hac 0, blk_cell hac 1, blk_cell hac 2, blk_cell hac 3⟩
    have HB := Lib.hid hbA
    have HAC := Lib.hid hac
    clear hbA hac
    have HN := Lib.hid (HD1.out.below (below_drew (Below.refl _ _)))
    have HBN := Lib.hid (below_drew HB.out)
    have hgl := lt_of_block HD1.out.blk
    have hal : w.heap.size < W.heap.size := lt_of_block HAC.out
    clear HB HD1
    go_region_law (refine out_step (W := W.drew) rfl (.tmp 28) (.tmp 32) rfl B _ s.out 4 0 0 n rfl _ rfl (by rfl) HN.out.out HN.out.le hlo ?_; intro v1 w1 hT hb1 hg; have hb2 := HBN.out.trans hb1; have hfin := HN.out.putOut hg hT; have hblk := (hg.block g (lt_of_block HN.out.blk) (Kd.R_ne HN.out.out HN.out.blk (by decide))).trans HN.out.blk; have f2' : w1.frozen? ⟨g, 1, none⟩ = false := blk_free hblk 1; have c2' : w1.cell? ⟨g, 1, none⟩ = some vo := blk_cell hblk 1; have hb3 := hb2.setCell (p := ⟨g, 1, none⟩) HN.out.lt v1; obtain ⟨A1, cap1, rfl⟩ := Kd.R_slice hT; rw [List.length_append, List.length_singleton] at hfin hb3; have HF := Lib.hid hfin; have HB3 := Lib.hid hb3; clear hT hb1 hg hb2 hfin hblk hb3 c0 c1 c2 f0 f1 f2 a0 a1 a2 a3)
    all_goals
      go_wp2_with fail
      go_ret
      exact ⟨rfl, HB3.out, _, _, _, HF.out⟩
  by_cases hk : ¬ (k = 1 ∨ k = 3 ∨ k = 5)
  · have hone : oneA s ⟨k, n, m, t⟩ = (s, true) := by unfold oneA; simp only; rw [if_neg hk2, if_neg hk4, if_neg hk]
    rw [hone]
    have e1 : (k == 1) = false := by simp; omega
    have e2 : (k == 2) = false := by simp; omega
    have e3 : (k == 3) = false := by simp; omega
    have e4 : (k == 4) = false := by simp; omega
    have e5 : (k == 5) = false := by simp; omega
    clear hone hk hk2 hk4
    have hbA := (Below.refl B w).alloc h.le (.cells #[.int .i64 k, .int .i64 n, .int .i64 m, .string t] 105)
    have hd1 := h.below ((Below.refl _ w).alloc (Nat.le_refl _) (.cells #[.int .i64 k, .int .i64 n, .int .i64 m, .string t] 105))
    have hw1 := hw.below ((Below.refl _ w).alloc (Nat.le_refl _) (.cells #[.int .i64 k, .int .i64 n, .int .i64 m, .string t] 105))
    have hac := blk_new w (.cells #[.int .i64 k, .int .i64 n, .int .i64 m, .string t] 105)
    have HD1 := Lib.hid hd1
    have HW1 := Lib.hid hw1
    clear hd1 h hw1
    go_enter Tryd.func61, Tryd.ntmps61
    go_wp2_with fail
    go_ret
    exact ⟨rfl, hbA, _, _, _, HD1.out⟩
  have hk' : k = 1 ∨ k = 3 ∨ k = 5 := Classical.not_not.1 hk
  cases hv : (valT t s.env).2 with
  | false =>
    have hone : oneA s ⟨k, n, m, t⟩ = (s, false) := by unfold oneA; simp only; rw [if_neg hk2, if_neg hk4, if_pos hk']; simp [hv]
    rw [hone]
    clear hone hk hk2 hk4
    rcases hk' with rfl | rfl | rfl
    · have hbA := (Below.refl B w).alloc h.le (.cells #[.int .i64 1, .int .i64 n, .int .i64 m, .string t] 105)
      have hd1 := h.below ((Below.refl _ w).alloc (Nat.le_refl _) (.cells #[.int .i64 1, .int .i64 n, .int .i64 m, .string t] 105))
      have hw1 := hw.below ((Below.refl _ w).alloc (Nat.le_refl _) (.cells #[.int .i64 1, .int .i64 n, .int .i64 m, .string t] 105))
      have hac := blk_new w (.cells #[.int .i64 1, .int .i64 n, .int .i64 m, .string t] 105)
      have HD1 := Lib.hid hd1
      have HW1 := Lib.hid hw1
      clear hd1 h hw1
      go_enter Tryd.func61, Tryd.ntmps61
      go_wp2_with fail
      generalize w.alloc (.cells #[.int .i64 1, .int .i64 n, .int .i64 m, .string t] 105) = W at hac HD1 HW1 hbA ⊢
      obtain ⟨⟨c0, c1, c2⟩, f0, f1, f2⟩ := HD1.out.cells
      obtain ⟨a0, a1, a2, a3⟩ : _ ∧ _ ∧ _ ∧ _ := ⟨blk_cell hac 0, blk_cell hac 1, blk_cell hac 2, blk_cell hac 3⟩
      have HB := Lib.hid hbA
      have HAC := Lib.hid hac
      clear hbA hac
      refine (value_any HW1.out HD1.out t ht).mono ?_
      rintro e w2 ⟨rfl, hb2⟩
      have HD2 := Lib.hid (HD1.out.below hb2)
      have HB2 := Lib.hid (below_then HB.out HD1.out.le hb2)
      have HAC2 := Lib.hid ((hb2.block _ (lt_of_block HAC.out)).trans HAC.out)
      clear hb2 HB HD1 HAC HW1 c0 c1 c2 f0 f1 f2 a0 a1 a2 a3
      obtain ⟨⟨c0, c1, c2⟩, f0, f1, f2⟩ := HD2.out.cells
      obtain ⟨a0, a1, a2, a3⟩ : _ ∧ _ ∧ _ ∧ _ := ⟨blk_cell HAC2.out 0, blk_cell HAC2.out 1, blk_cell HAC2.out 2, blk_cell HAC2.out 3⟩
      have HD1 := HD2
      have HB := HB2
      have HAC := HAC2
      clear HD2 HB2 HAC2
      simp only [hv]
      go_wp2_with fail
      go_ret
      exact ⟨rfl, HB.out, _, _, _, HD1.out⟩
    · have hbA := (Below.refl B w).alloc h.le (.cells #[.int .i64 3, .int .i64 n, .int .i64 m, .string t] 105)
      have hd1 := h.below ((Below.refl _ w).alloc (Nat.le_refl _) (.cells #[.int .i64 3, .int .i64 n, .int .i64 m, .string t] 105))
      have hw1 := hw.below ((Below.refl _ w).alloc (Nat.le_refl _) (.cells #[.int .i64 3, .int .i64 n, .int .i64 m, .string t] 105))
      have hac := blk_new w (.cells #[.int .i64 3, .int .i64 n, .int .i64 m, .string t] 105)
      have HD1 := Lib.hid hd1
      have HW1 := Lib.hid hw1
      clear hd1 h hw1
      go_enter Tryd.func61, Tryd.ntmps61
      go_wp2_with fail
      generalize w.alloc (.cells #[.int .i64 3, .int .i64 n, .int .i64 m, .string t] 105) = W at hac HD1 HW1 hbA ⊢
      obtain ⟨⟨c0, c1, c2⟩, f0, f1, f2⟩ := HD1.out.cells
      obtain ⟨a0, a1, a2, a3⟩ : _ ∧ _ ∧ _ ∧ _ := ⟨blk_cell hac 0, blk_cell hac 1, blk_cell hac 2, blk_cell hac 3⟩
      have HB := Lib.hid hbA
      have HAC := Lib.hid hac
      clear hbA hac
      refine (value_any HW1.out HD1.out t ht).mono ?_
      rintro e w2 ⟨rfl, hb2⟩
      have HD2 := Lib.hid (HD1.out.below hb2)
      have HB2 := Lib.hid (below_then HB.out HD1.out.le hb2)
      have HAC2 := Lib.hid ((hb2.block _ (lt_of_block HAC.out)).trans HAC.out)
      clear hb2 HB HD1 HAC HW1 c0 c1 c2 f0 f1 f2 a0 a1 a2 a3
      obtain ⟨⟨c0, c1, c2⟩, f0, f1, f2⟩ := HD2.out.cells
      obtain ⟨a0, a1, a2, a3⟩ : _ ∧ _ ∧ _ ∧ _ := ⟨blk_cell HAC2.out 0, blk_cell HAC2.out 1, blk_cell HAC2.out 2, blk_cell HAC2.out 3⟩
      have HD1 := HD2
      have HB := HB2
      have HAC := HAC2
      clear HD2 HB2 HAC2
      simp only [hv]
      go_wp2_with fail
      go_ret
      exact ⟨rfl, HB.out, _, _, _, HD1.out⟩
    · have hbA := (Below.refl B w).alloc h.le (.cells #[.int .i64 5, .int .i64 n, .int .i64 m, .string t] 105)
      have hd1 := h.below ((Below.refl _ w).alloc (Nat.le_refl _) (.cells #[.int .i64 5, .int .i64 n, .int .i64 m, .string t] 105))
      have hw1 := hw.below ((Below.refl _ w).alloc (Nat.le_refl _) (.cells #[.int .i64 5, .int .i64 n, .int .i64 m, .string t] 105))
      have hac := blk_new w (.cells #[.int .i64 5, .int .i64 n, .int .i64 m, .string t] 105)
      have HD1 := Lib.hid hd1
      have HW1 := Lib.hid hw1
      clear hd1 h hw1
      go_enter Tryd.func61, Tryd.ntmps61
      go_wp2_with fail
      generalize w.alloc (.cells #[.int .i64 5, .int .i64 n, .int .i64 m, .string t] 105) = W at hac HD1 HW1 hbA ⊢
      obtain ⟨⟨c0, c1, c2⟩, f0, f1, f2⟩ := HD1.out.cells
      obtain ⟨a0, a1, a2, a3⟩ : _ ∧ _ ∧ _ ∧ _ := ⟨blk_cell hac 0, blk_cell hac 1, blk_cell hac 2, blk_cell hac 3⟩
      have HB := Lib.hid hbA
      have HAC := Lib.hid hac
      clear hbA hac
      refine (value_any HW1.out HD1.out t ht).mono ?_
      rintro e w2 ⟨rfl, hb2⟩
      have HD2 := Lib.hid (HD1.out.below hb2)
      have HB2 := Lib.hid (below_then HB.out HD1.out.le hb2)
      have HAC2 := Lib.hid ((hb2.block _ (lt_of_block HAC.out)).trans HAC.out)
      clear hb2 HB HD1 HAC HW1 c0 c1 c2 f0 f1 f2 a0 a1 a2 a3
      obtain ⟨⟨c0, c1, c2⟩, f0, f1, f2⟩ := HD2.out.cells
      obtain ⟨a0, a1, a2, a3⟩ : _ ∧ _ ∧ _ ∧ _ := ⟨blk_cell HAC2.out 0, blk_cell HAC2.out 1, blk_cell HAC2.out 2, blk_cell HAC2.out 3⟩
      have HD1 := HD2
      have HB := HB2
      have HAC := HAC2
      clear HD2 HB2 HAC2
      simp only [hv]
      go_wp2_with fail
      go_ret
      exact ⟨rfl, HB.out, _, _, _, HD1.out⟩
  | true =>
    have hx : ∃ x, (valT t s.env).1 = x := ⟨_, rfl⟩
    obtain ⟨x, hx⟩ := hx
    rcases hk' with rfl | rfl | rfl
    · by_cases hn : n < 0 ∨ (s.env.length : Int) ≤ n
      · have hone : oneA s ⟨1, n, m, t⟩ = (s, false) := by unfold oneA; simp [hv]; omega
        rw [hone]
        have HNN := Lib.hid hn
        clear hone hk hk2 hk4 hn
        have hbA := (Below.refl B w).alloc h.le (.cells #[.int .i64 1, .int .i64 n, .int .i64 m, .string t] 105)
        have hd1 := h.below ((Below.refl _ w).alloc (Nat.le_refl _) (.cells #[.int .i64 1, .int .i64 n, .int .i64 m, .string t] 105))
        have hw1 := hw.below ((Below.refl _ w).alloc (Nat.le_refl _) (.cells #[.int .i64 1, .int .i64 n, .int .i64 m, .string t] 105))
        have hac := blk_new w (.cells #[.int .i64 1, .int .i64 n, .int .i64 m, .string t] 105)
        have HD1 := Lib.hid hd1
        have HW1 := Lib.hid hw1
        clear hd1 h hw1
        go_enter Tryd.func61, Tryd.ntmps61
        go_wp2_with fail
        generalize w.alloc (.cells #[.int .i64 1, .int .i64 n, .int .i64 m, .string t] 105) = W at hac HD1 HW1 hbA ⊢
        obtain ⟨⟨c0, c1, c2⟩, f0, f1, f2⟩ := HD1.out.cells
        obtain ⟨a0, a1, a2, a3⟩ : _ ∧ _ ∧ _ ∧ _ := ⟨blk_cell hac 0, blk_cell hac 1, blk_cell hac 2, blk_cell hac 3⟩
        have HB := Lib.hid hbA
        have HAC := Lib.hid hac
        clear hbA hac
        refine (value_any HW1.out HD1.out t ht).mono ?_
        rintro e w2 ⟨rfl, hb2⟩
        have HD2 := Lib.hid (HD1.out.below hb2)
        have HB2 := Lib.hid (below_then HB.out HD1.out.le hb2)
        have HAC2 := Lib.hid ((hb2.block _ (lt_of_block HAC.out)).trans HAC.out)
        clear hb2 HB HD1 HAC HW1 c0 c1 c2 f0 f1 f2 a0 a1 a2 a3
        obtain ⟨⟨c0, c1, c2⟩, f0, f1, f2⟩ := HD2.out.cells
        obtain ⟨a0, a1, a2, a3⟩ : _ ∧ _ ∧ _ ∧ _ := ⟨blk_cell HAC2.out 0, blk_cell HAC2.out 1, blk_cell HAC2.out 2, blk_cell HAC2.out 3⟩
        have HD1 := HD2
        have HB := HB2
        have HAC := HAC2
        clear HD2 HB2 HAC2
        obtain ⟨E1, cap, rfl⟩ := Kd.R_slice HD1.out.env
        simp only [hv, hx]
        have hn2 : decide (n < 0) = true ∨ decide (n < 0) = false ∧ decide (n ≥ (s.env.length : Int)) = true := by
          rcases HNN.out with h | h
          · exact .inl (decide_eq_true h)
          · by_cases h0 : n < 0
            · exact .inl (decide_eq_true h0)
            · exact .inr ⟨decide_eq_false h0, decide_eq_true h⟩
        rcases hn2 with q1 | ⟨q1, q2⟩
        all_goals
          go_wp2_with fail
          repeat (go_quiet (fail); try go_wp2)
          go_ret
          exact ⟨rfl, below_drewN' HB.out _, _, _, _, HD1.out.below (pw_below_drewN (Below.refl _ _) _)⟩
      · have hone : oneA s ⟨1, n, m, t⟩ = ({ s with env := s.env.set n.toNat x }, true) := by unfold oneA; simp [hv, hx]; omega
        rw [hone]
        have HNN := Lib.hid hn
        clear hone hk hk2 hk4 hn
        have hbA := (Below.refl B w).alloc h.le (.cells #[.int .i64 1, .int .i64 n, .int .i64 m, .string t] 105)
        have hd1 := h.below ((Below.refl _ w).alloc (Nat.le_refl _) (.cells #[.int .i64 1, .int .i64 n, .int .i64 m, .string t] 105))
        have hw1 := hw.below ((Below.refl _ w).alloc (Nat.le_refl _) (.cells #[.int .i64 1, .int .i64 n, .int .i64 m, .string t] 105))
        have hac := blk_new w (.cells #[.int .i64 1, .int .i64 n, .int .i64 m, .string t] 105)
        have HD1 := Lib.hid hd1
        have HW1 := Lib.hid hw1
        clear hd1 h hw1
        go_enter Tryd.func61, Tryd.ntmps61
        go_wp2_with fail
        generalize w.alloc (.cells #[.int .i64 1, .int .i64 n, .int .i64 m, .string t] 105) = W at hac HD1 HW1 hbA ⊢
        obtain ⟨⟨c0, c1, c2⟩, f0, f1, f2⟩ := HD1.out.cells
        obtain ⟨a0, a1, a2, a3⟩ : _ ∧ _ ∧ _ ∧ _ := ⟨blk_cell hac 0, blk_cell hac 1, blk_cell hac 2, blk_cell hac 3⟩
        have HB := Lib.hid hbA
        have HAC := Lib.hid hac
        clear hbA hac
        refine (value_any HW1.out HD1.out t ht).mono ?_
        rintro e w2 ⟨rfl, hb2⟩
        have HD2 := Lib.hid (HD1.out.below hb2)
        have HB2 := Lib.hid (below_then HB.out HD1.out.le hb2)
        have HAC2 := Lib.hid ((hb2.block _ (lt_of_block HAC.out)).trans HAC.out)
        clear hb2 HB HD1 HAC HW1 c0 c1 c2 f0 f1 f2 a0 a1 a2 a3
        obtain ⟨⟨c0, c1, c2⟩, f0, f1, f2⟩ := HD2.out.cells
        obtain ⟨a0, a1, a2, a3⟩ : _ ∧ _ ∧ _ ∧ _ := ⟨blk_cell HAC2.out 0, blk_cell HAC2.out 1, blk_cell HAC2.out 2, blk_cell HAC2.out 3⟩
        have HD1 := HD2
        have HB := HB2
        have HAC := HAC2
        clear HD2 HB2 HAC2
        have q1 : decide (n < 0) = false := decide_eq_false (by have := HNN.out; omega)
        have q2 : decide (n ≥ (s.env.length : Int)) = false := decide_eq_false (by have := HNN.out; omega)
        obtain ⟨j, rfl, hj⟩ : ∃ j : Nat, n = (j : Int) ∧ j < s.env.length := ⟨n.toNat, by have := HNN.out; omega, by have := HNN.out; omega⟩
        obtain ⟨e0, cap, rfl, he0, _⟩ := Kd.R_form HD1.out.env (by omega)
        have hcell := Kd.R_cell (0 : Int) HD1.out.env (j : Int) (by omega) (by omega)
        obtain ⟨k0, k1⟩ := hcell
        rw [Int.toNat_natCast] at k0 k1
        have p1 : ((j : Int) < (s.env.length : Int)) = True := eq_true (by omega)
        simp only [hv, hx]
        go_wp2_with fail
        repeat (go_quiet (fail); try go_wp2)
        refine region_quiet_tail 8 (by kernel_rfl) (by kernel_rfl) ?_
        simp only [List.take_succ_cons, List.take_zero, List.drop_succ_cons, List.drop_zero]
        repeat (go_big_quiet_step (fail))
        refine wpQuiet_nil ?_
        intro w' hw'
        obtain ⟨nq2, rfl⟩ := hw'
        go_wp2_with fail
        have HN := Lib.hid ((HD1.out.below (pw_below_drewN (Below.refl _ _) (nq + nq2))).putEnv (j : Int) x)
        have HBN := Lib.hid ((below_drewN' HB.out (nq + nq2)).setCell (p := ⟨e0, j, none⟩) he0 (.int .i64 x))
        go_ret
        exact ⟨rfl, HBN.out, _, _, _, HN.out⟩
    · have hone : oneA s ⟨3, n, m, t⟩ = ({ s with out := s.out ++ [⟨3, n, m, x⟩] }, true) := by unfold oneA; simp [hv, hx]
      rw [hone]
      clear hone hk hk2 hk4
      have hbA := (Below.refl B w).alloc h.le (.cells #[.int .i64 3, .int .i64 n, .int .i64 m, .string t] 105)
      have hd1 := h.below ((Below.refl _ w).alloc (Nat.le_refl _) (.cells #[.int .i64 3, .int .i64 n, .int .i64 m, .string t] 105))
      have hw1 := hw.below ((Below.refl _ w).alloc (Nat.le_refl _) (.cells #[.int .i64 3, .int .i64 n, .int .i64 m, .string t] 105))
      have hac := blk_new w (.cells #[.int .i64 3, .int .i64 n, .int .i64 m, .string t] 105)
      have HD1 := Lib.hid hd1
      have HW1 := Lib.hid hw1
      clear hd1 h hw1
      go_enter Tryd.func61, Tryd.ntmps61
      go_wp2_with fail
      generalize w.alloc (.cells #[.int .i64 3, .int .i64 n, .int .i64 m, .string t] 105) = W at hac HD1 HW1 hbA ⊢
      obtain ⟨⟨c0, c1, c2⟩, f0, f1, f2⟩ := HD1.out.cells
      obtain ⟨a0, a1, a2, a3⟩ : _ ∧ _ ∧ _ ∧ _ := ⟨blk_cell hac 0, blk_cell hac 1, blk_cell hac 2, blk_cell hac 3⟩
      have HB := Lib.hid hbA
      have HAC := Lib.hid hac
      clear hbA hac
      refine (value_any HW1.out HD1.out t ht).mono ?_
      rintro e w2 ⟨rfl, hb2⟩
      have HD2 := Lib.hid (HD1.out.below hb2)
      have HB2 := Lib.hid (below_then HB.out HD1.out.le hb2)
      have HAC2 := Lib.hid ((hb2.block _ (lt_of_block HAC.out)).trans HAC.out)
      clear hb2 HB HD1 HAC HW1 c0 c1 c2 f0 f1 f2 a0 a1 a2 a3
      obtain ⟨⟨c0, c1, c2⟩, f0, f1, f2⟩ := HD2.out.cells
      obtain ⟨a0, a1, a2, a3⟩ : _ ∧ _ ∧ _ ∧ _ := ⟨blk_cell HAC2.out 0, blk_cell HAC2.out 1, blk_cell HAC2.out 2, blk_cell HAC2.out 3⟩
      have HD1 := HD2
      have HB := HB2
      have HAC := HAC2
      clear HD2 HB2 HAC2
      simp only [hv, hx]
      go_wp2_with fail
      have HN := Lib.hid (HD1.out.below (below_drew (Below.refl _ _)))
      have HBN := Lib.hid (below_drew HB.out)
      have hgl := lt_of_block HD1.out.blk
      have hal : w.heap.size < w2.heap.size := lt_of_block HAC.out
      clear HB HD1
      go_region_law (refine out_step (W := w2.drew) rfl (.tmp 66) (.tmp 73) rfl B _ s.out 3 n m x rfl _ rfl (by rfl) HN.out.out HN.out.le hlo ?_; intro v1 w1 hT hb1 hg; have hb2 := HBN.out.trans hb1; have hfin := HN.out.putOut hg hT; have hblk := (hg.block g (lt_of_block HN.out.blk) (Kd.R_ne HN.out.out HN.out.blk (by decide))).trans HN.out.blk; have f2' : w1.frozen? ⟨g, 1, none⟩ = false := blk_free hblk 1; have c2' : w1.cell? ⟨g, 1, none⟩ = some vo := blk_cell hblk 1; have hb3 := hb2.setCell (p := ⟨g, 1, none⟩) HN.out.lt v1; obtain ⟨A1, cap1, rfl⟩ := Kd.R_slice hT; rw [List.length_append, List.length_singleton] at hfin hb3; have HF := Lib.hid hfin; have HB3 := Lib.hid hb3; clear hT hb1 hg hb2 hfin hblk hb3 c0 c1 c2 f0 f1 f2 a0 a1 a2 a3)
      all_goals
        go_wp2_with fail
        go_ret
        exact ⟨rfl, HB3.out, _, _, _, HF.out⟩
    · have hone : oneA s ⟨5, n, m, t⟩ = ({ s with out := s.out ++ [⟨5, 0, 0, x⟩] }, true) := by unfold oneA; simp [hv, hx]
      rw [hone]
      clear hone hk hk2 hk4
      have hbA := (Below.refl B w).alloc h.le (.cells #[.int .i64 5, .int .i64 n, .int .i64 m, .string t] 105)
      have hd1 := h.below ((Below.refl _ w).alloc (Nat.le_refl _) (.cells #[.int .i64 5, .int .i64 n, .int .i64 m, .string t] 105))
      have hw1 := hw.below ((Below.refl _ w).alloc (Nat.le_refl _) (.cells #[.int .i64 5, .int .i64 n, .int .i64 m, .string t] 105))
      have hac := blk_new w (.cells #[.int .i64 5, .int .i64 n, .int .i64 m, .string t] 105)
      have HD1 := Lib.hid hd1
      have HW1 := Lib.hid hw1
      clear hd1 h hw1
      go_enter Tryd.func61, Tryd.ntmps61
      go_wp2_with fail
      generalize w.alloc (.cells #[.int .i64 5, .int .i64 n, .int .i64 m, .string t] 105) = W at hac HD1 HW1 hbA ⊢
      obtain ⟨⟨c0, c1, c2⟩, f0, f1, f2⟩ := HD1.out.cells
      obtain ⟨a0, a1, a2, a3⟩ : _ ∧ _ ∧ _ ∧ _ := ⟨blk_cell hac 0, blk_cell hac 1, blk_cell hac 2, blk_cell hac 3⟩
      have HB := Lib.hid hbA
      have HAC := Lib.hid hac
      clear hbA hac
      refine (value_any HW1.out HD1.out t ht).mono ?_
      rintro e w2 ⟨rfl, hb2⟩
      have HD2 := Lib.hid (HD1.out.below hb2)
      have HB2 := Lib.hid (below_then HB.out HD1.out.le hb2)
      have HAC2 := Lib.hid ((hb2.block _ (lt_of_block HAC.out)).trans HAC.out)
      clear hb2 HB HD1 HAC HW1 c0 c1 c2 f0 f1 f2 a0 a1 a2 a3
      obtain ⟨⟨c0, c1, c2⟩, f0, f1, f2⟩ := HD2.out.cells
      obtain ⟨a0, a1, a2, a3⟩ : _ ∧ _ ∧ _ ∧ _ := ⟨blk_cell HAC2.out 0, blk_cell HAC2.out 1, blk_cell HAC2.out 2, blk_cell HAC2.out 3⟩
      have HD1 := HD2
      have HB := HB2
      have HAC := HAC2
      clear HD2 HB2 HAC2
      simp only [hv, hx]
      have HN := HD1
      have HBN := HB
      go_wp2_with (at_builtin; refine out_append rfl (.tmp 85) (.tmp 88) rfl B _ s.out 5 0 0 x rfl _ rfl ?aN85 HN.out.out HN.out.le hlo ?_)
      case aN85 => rfl
      intro v1 w1 hT hb1 hg
      have hb2 := HBN.out.trans hb1
      have hfin := HN.out.putOut hg hT
      have hblk := (hg.block g (lt_of_block HN.out.blk) (Kd.R_ne HN.out.out HN.out.blk (by decide))).trans HN.out.blk
      have f2' : w1.frozen? ⟨g, 1, none⟩ = false := blk_free hblk 1
      have c2' : w1.cell? ⟨g, 1, none⟩ = some vo := blk_cell hblk 1
      have hb3 := hb2.setCell (p := ⟨g, 1, none⟩) HN.out.lt v1
      obtain ⟨A1, cap1, rfl⟩ := Kd.R_slice hT
      rw [List.length_append, List.length_singleton] at hfin hb3
      have HF := Lib.hid hfin
      have HB3 := Lib.hid hb3
      clear hT hb1 hg hb2 hfin hblk hb3 c0 c1 c2 f0 f1 f2 a0 a1 a2 a3
      go_wp2_with fail
      go_ret
      exact ⟨rfl, HB3.out, _, _, _, HF.out⟩
end Go.Proofs.YtldcplgfkcionaaDoor
