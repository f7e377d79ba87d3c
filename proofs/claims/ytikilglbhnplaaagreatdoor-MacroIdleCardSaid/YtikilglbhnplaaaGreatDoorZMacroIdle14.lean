/- Texts of this claim, merged (Chm, Trc, Trow, Tcopy, Cparw). -/
import Derived.Test.YtikilglbhnplaaaGreatDoorZMacroIdle11
import Derived.Test.YtikilglbhnplaaaGreatDoorZMacroIdle13
set_option linter.unusedVariables false
set_option linter.unusedSimpArgs false
set_option maxRecDepth 100000
set_option maxHeartbeats 16000000
section
namespace Go.Proofs.YtikilglbhnplaaaGreatDoor
open Go.RowKit Go.Proofs.YtikilglbhnplaaaGreatDoorW.PrintWords
open PX (T V)
structure ChM (w : World) (A : Option Addr) (ca : Nat) (st : List Sta) (B : Option Addr) (cb : Nat) (tr : List Tra) : Prop where
 cs : Kd.C PAll.k66 w A st.length st
 sc : st.length ≤ ca
 ct : Kd.C PAll.k63 w B tr.length tr
 tc : tr.length ≤ cb
theorem ChM.below {w w' : World} {A B : Option Addr} {ca cb : Nat} {st : List Sta} {tr : List Tra} (h : ChM w A ca st B cb tr) (hb : Below w.heap.size w w') : ChM w' A ca st B cb tr :=
 ⟨Kd.C_below h.cs hb, h.sc, Kd.C_below h.ct hb, h.tc⟩
theorem c_lt {w : World} {p : Addr} {u : Value} (h : w.cell? p = some u) : p.block < w.heap.size := by
 refine Nat.lt_of_not_le (fun hn => ?_)
 have : w.heap[p.block]? = none := Array.getElem?_eq_none hn
 simp [World.cell?, this] at h
section
variable {ops : Array Oper} {Q : Exit → Act → World → Prop} {rest : List Oper} {a : Act} {o : Oper}
theorem int_app {W : World} (hgd : o.guard = none) (s x : Operand)
  (ho : o.op = .call { callee := .builtin .append, args := #[s, x], argTypes := #[36, 36] })
  (B : Nat) (v : Value) (xs : List Int) (p : Int) (hs : a.eval s = v) (N : Nat) (hx : a.eval x = .slice (some ⟨N, 0, none⟩) 1 1) (hN : N = W.heap.size)
  (HO : Kd.R (Kd.int .i64) 3 W B (fun _ => True) v xs) (hB : B ≤ W.heap.size) (hl : xs.length < 1000000)
  (h : ∀ v1 w1, Kd.R (Kd.int .i64) 3 w1 B (fun _ => True) v1 (xs ++ [p]) → Below B W w1 → wpList Tryz.prog ops Q rest (a.put o.dst v1) w1) :
  wpList Tryz.prog ops Q (o :: rest) a (W.alloc (.cells #[.int .i64 p] 3)) := by
 subst hN
 exact Kd.R_append (Kd.int .i64) (w0 := W) B hgd s x 36 3 (.int .i64 0) 8 ho Tryz.underlying36 (by kernel_rfl) rfl (by decide) (by omega) v xs p [.int .i64 p]
  (fun _ => True) (fun _ => False) hs hx rfl (fun _ hk => hk.elim) (fun _ _ => trivial) HO (Below.refl _ _) hB (by omega) (fun v1 w1 h1 h2 _ _ => h v1 w1 h1 h2)
end
section
variable {A B : Option Addr} {ca cb : Nat} {st : List Sta} {tr : List Tra} {w : World}
theorem hist_any (k : Int) (w : World) : Calls Tryz.prog 104 #[.int .i64 k] w fun e w' => e = .returned (.bool (histP k)) ∧ Below w.heap.size w w' := by
 by_cases h5 : k = 5
 ·subst h5
  go_enter Tryz.func104, Tryz.ntmps104
  go_wp2_with fail
  go_ret
  exact ⟨rfl, Below.refl _ _⟩
 ·have d5 : (k == 5) = false := beq_eq_false_iff_ne.mpr h5
  have hr : histP k = (k == 6) := by unfold histP; rw [d5]; rfl
  rw [hr]
  clear h5 hr
  go_enter Tryz.func104, Tryz.ntmps104
  go_wp2_with fail
  go_ret
  exact ⟨rfl, Below.refl _ _⟩
theorem there_any (h : ChM w A ca st B cb tr) (v s : Int) : Calls Tryz.prog 106 #[ckV v A B st.length tr.length ca cb, .int .i64 s] w fun e w' => e = .returned (.bool (decide (0 ≤ s ∧ s < (st.length : Int)))) ∧ Below w.heap.size w w' := by
 have HB0 := Lib.hid ((Below.refl w.heap.size w).alloc (Nat.le_refl _) (.cells #[.int .i64 v, .slice A st.length ca, .slice B tr.length cb] 136))
 have y1 : (w.alloc (.cells #[.int .i64 v, .slice A st.length ca, .slice B tr.length cb] 136)).cell? ⟨w.heap.size, 1, none⟩ = some (.slice A st.length ca) := blk_cell (blk_new w (.cells #[.int .i64 v, .slice A st.length ca, .slice B tr.length cb] 136)) 1
 clear h
 by_cases c : 0 ≤ s
 ·have d1 : decide (s ≥ 0) = true := decide_eq_true c
  have d1' : decide (0 ≤ s) = true := decide_eq_true c
  have hr : decide (0 ≤ s ∧ s < (st.length : Int)) = decide (s < (st.length : Int)) := by rw [decide_eq_decide]; exact ⟨fun h => h.2, fun h => ⟨c, h⟩⟩
  rw [hr]
  clear c hr
  go_enter Tryz.func106, Tryz.ntmps106
  go_wp2_with fail
  go_ret
  exact ⟨rfl, HB0.out⟩
 ·have d1 : decide (s ≥ 0) = false := decide_eq_false c
  have d1' : decide (0 ≤ s) = false := decide_eq_false c
  rw [decide_eq_false (fun h => c h.1)]
  clear c
  go_enter Tryz.func106, Tryz.ntmps106
  go_wp2_with fail
  go_ret
  exact ⟨rfl, HB0.out⟩
theorem own_any (h : ChM w A ca st B cb tr) (v s : Int) (h0 : 0 ≤ s) (h1 : s < (st.length : Int)) : Calls Tryz.prog 129 #[ckV v A B st.length tr.length ca cb, .int .i64 s] w fun e w' => e = .returned (.int .i64 (ownP st s)) ∧ Below w.heap.size w w' := by
 obtain ⟨ad, _, _, _, _, _, _, rfl, _⟩ := PAll.at_T66 h.cs s h0 h1
 have hb0 : Below w.heap.size w (w.alloc (.cells #[.int .i64 v, .slice (some ad) st.length ca, .slice B tr.length cb] 136)) := (Below.refl _ w).alloc (Nat.le_refl _) _
 have HB0 := Lib.hid hb0
 have HX := Lib.hid (blk_new w (.cells #[.int .i64 v, .slice (some ad) st.length ca, .slice B tr.length cb] 136))
 have y1 : (w.alloc (.cells #[.int .i64 v, .slice (some ad) st.length ca, .slice B tr.length cb] 136)).cell? ⟨w.heap.size, 1, none⟩ = some (.slice (some ad) st.length ca) := blk_cell HX.out 1
 have HM := Lib.hid (h.below hb0)
 obtain ⟨ad2, _, _, _, _, _, _, eA, q0, _⟩ := PAll.at_T66 HM.out.cs s h0 h1
 obtain rfl := Option.some.inj eA
 have p1 : (0 ≤ s) = True := eq_true h0
 have p2 : (s < (st.length : Int)) = True := eq_true h1
 clear h hb0
 go_enter Tryz.func129, Tryz.ntmps129
 go_wp2_with fail
 generalize w.alloc (.cells #[.int .i64 v, .slice (some ad) st.length ca, .slice B tr.length cb] 136) = w1 at *
 refine (hist_any _ _).mono ?_
 cases hh : histP (PAll.rd_T66 st s).f0 with
 | true =>
  have HR : Hid (ownP st s = (PAll.rd_T66 st s).f1) := Lib.hid (if_pos hh)
  clear hh
  rintro e w2 ⟨rfl, hb2⟩
  have HB2 := Lib.hid (below_then HB0.out HB0.out.size hb2)
  have x1 : w2.cell? ⟨w.heap.size, 1, none⟩ = some (.slice (some ad) st.length ca) := blk_cell ((hb2.block _ (lt_of_block HX.out)).trans HX.out) 1
  obtain ⟨ad2, _, _, _, _, _, _, eA, _, q1, _⟩ := PAll.at_T66 (HM.out.below hb2).cs s h0 h1
  obtain rfl := Option.some.inj eA
  clear hb2
  go_wp2_with fail
  go_ret
  exact ⟨by rw [HR.out]; rfl, HB2.out⟩
 | false =>
  have HR : Hid (ownP st s = s) := Lib.hid (if_neg (by rw [hh]; simp))
  clear hh
  rintro e w2 ⟨rfl, hb2⟩
  have HB2 := Lib.hid (below_then HB0.out HB0.out.size hb2)
  clear hb2
  go_wp2_with fail
  go_ret
  exact ⟨by rw [HR.out]; rfl, HB2.out⟩
theorem in_any (h : ChM w A ca st B cb tr) (v s b : Int) : Calls Tryz.prog 125 #[ckV v A B st.length tr.length ca cb, .int .i64 s, .int .i64 b] w fun e w' => e = .returned (.bool (inC st s b)) ∧ Below w.heap.size w w' := by
 have hb0 : Below w.heap.size w (w.alloc (.cells #[.int .i64 v, .slice A st.length ca, .slice B tr.length cb] 136)) := (Below.refl _ w).alloc (Nat.le_refl _) _
 have HB0 := Lib.hid hb0
 have y1 : (w.alloc (.cells #[.int .i64 v, .slice A st.length ca, .slice B tr.length cb] 136)).cell? ⟨w.heap.size, 1, none⟩ = some (.slice A st.length ca) := blk_cell (blk_new w (.cells #[.int .i64 v, .slice A st.length ca, .slice B tr.length cb] 136)) 1
 have HM := Lib.hid (h.below hb0)
 generalize hG : inC st s b = G
 have HG := Lib.hid hG
 clear h hb0 hG
 go_enter Tryz.func125, Tryz.ntmps125
 go_wp2_with fail
 generalize w.alloc (.cells #[.int .i64 v, .slice A st.length ca, .slice B tr.length cb] 136) = w1 at *
 go_loopw [1] (fun x wr => ∃ q : Int, x = .int .i64 q ∧ Hid (inC st q b = G) ∧ wr = w1) (fun x _ => (intOf x).toNat)
 case atStart => exact ⟨s, rfl, HG, rfl⟩
 case round =>
  clear HG
  obtain ⟨q, rfl, HE, rfl⟩ := hrel
  by_cases c1 : q > b
  rotate_left
  ·have d1 : decide (q > b) = false := decide_eq_false c1
   have HR : Hid (false = G) := Lib.hid (by rw [← HE.out, inC_eq, if_neg (fun h => c1 h.1)])
   clear c1 HE
   go_wp2_with fail
   go_ret
   exact ⟨by rw [← HR.out]; rfl, HB0.out⟩
  have d1 : decide (q > b) = true := decide_eq_true c1
  by_cases c2 : q > 0
  rotate_left
  ·have d2 : decide (q > 0) = false := decide_eq_false c2
   have HR : Hid (false = G) := Lib.hid (by rw [← HE.out, inC_eq, if_neg (fun h => c2 h.2.1)])
   clear c1 c2 HE
   go_wp2_with fail
   go_ret
   exact ⟨by rw [← HR.out]; rfl, HB0.out⟩
  have d2 : decide (q > 0) = true := decide_eq_true c2
  by_cases c3 : q < (st.length : Int)
  rotate_left
  ·have d3 : decide (q < (st.length : Int)) = false := decide_eq_false c3
   have HR : Hid (false = G) := Lib.hid (by rw [← HE.out, inC_eq, if_neg (fun h => c3 h.2.2)])
   clear c1 c2 c3 HE
   go_wp2_with fail
   go_ret
   exact ⟨by rw [← HR.out]; rfl, HB0.out⟩
  have d3 : decide (q < (st.length : Int)) = true := decide_eq_true c3
  have p1 : (0 ≤ q) = True := eq_true (by omega)
  have p2 : (q < (st.length : Int)) = True := eq_true c3
  obtain ⟨ad, _, _, _, _, _, _, rfl, _, q1, _⟩ := PAll.at_T66 HM.out.cs q (by omega) c3
  have HE2 := HE.out
  rw [inC_eq, if_pos ⟨c1, by omega, c3⟩] at HE2
  generalize (PAll.rd_T66 st q).f1 = p at *
  by_cases c4 : p ≥ q
  ·have d4 : decide (p ≥ q) = true := decide_eq_true c4
   have HR : Hid (false = G) := Lib.hid (by rw [← HE2, if_pos c4])
   clear c1 c2 c3 c4 HE HE2
   go_wp2_with fail
   go_ret
   exact ⟨by rw [← HR.out]; rfl, HB0.out⟩
  have d4 : decide (p ≥ q) = false := decide_eq_false c4
  rw [if_neg c4] at HE2
  by_cases c5 : p = b
  ·have d5 : (p == b) = true := beq_iff_eq.mpr c5
   have HR : Hid (true = G) := Lib.hid (by rw [← HE2, if_pos c5])
   clear c1 c2 c3 c4 c5 HE HE2
   go_wp2_with fail
   go_ret
   exact ⟨by rw [← HR.out]; rfl, HB0.out⟩
  ·have d5 : (p == b) = false := beq_eq_false_iff_ne.mpr c5
   have HR : Hid (inC st p b = G) := Lib.hid (by rw [← HE2, if_neg c5])
   have hlt : p.toNat < q.toNat := by omega
   have HLt := Lib.hid hlt
   clear c1 c2 c3 c4 c5 HE HE2 hlt
   go_wp2_with fail
   go_roundw
   case rel => exact ⟨p, rfl, HR, by trivial⟩
   case measure => have := HLt.out; simp [intOf]; omega
theorem inn_any (h : ChM w A ca st B cb tr) (ha : Ahead st) (v a b : Int) (h0 : 0 ≤ a) (h1 : a < (st.length : Int)) : Calls Tryz.prog 130 #[ckV v A B st.length tr.length ca cb, .int .i64 a, .int .i64 b] w fun e w' => e = .returned (.int .i64 (innP st a b)) ∧ Below w.heap.size w w' := by
 obtain ⟨ad, _, _, _, _, _, _, rfl, _⟩ := PAll.at_T66 h.cs a h0 h1
 have hb0 : Below w.heap.size w (w.alloc (.cells #[.int .i64 v, .slice (some ad) st.length ca, .slice B tr.length cb] 136)) := (Below.refl _ w).alloc (Nat.le_refl _) _
 have HB0 := Lib.hid hb0
 have HX := Lib.hid (blk_new w (.cells #[.int .i64 v, .slice (some ad) st.length ca, .slice B tr.length cb] 136))
 have y1 : (w.alloc (.cells #[.int .i64 v, .slice (some ad) st.length ca, .slice B tr.length cb] 136)).cell? ⟨w.heap.size, 1, none⟩ = some (.slice (some ad) st.length ca) := blk_cell HX.out 1
 have HM := Lib.hid (h.below hb0)
 have HA := Lib.hid ha
 obtain ⟨ad2, _, _, _, _, _, _, eA, _, q1, _⟩ := PAll.at_T66 HM.out.cs a h0 h1
 obtain rfl := Option.some.inj eA
 have p1 : (0 ≤ a) = True := eq_true h0
 have p2 : (a < (st.length : Int)) = True := eq_true h1
 have hpa := (ha a h0 h1).1
 generalize hG : innP st a b = G
 have HG : Hid (innF st (st.length + 1) (PAll.rd_T66 st a).f1 b = G) := Lib.hid hG
 generalize (PAll.rd_T66 st a).f1 = p at *
 clear h hb0 hG ha
 go_enter Tryz.func130, Tryz.ntmps130
 go_wp2_with fail
 generalize w.alloc (.cells #[.int .i64 v, .slice (some ad) st.length ca, .slice B tr.length cb] 136) = w1 at *
 go_loopw [7] (fun x wr => ∃ (q : Int) (f : Nat), x = .int .i64 q ∧ q < f ∧ q < (st.length : Int) ∧ Hid (innF st f q b = G) ∧ Hid (Below w1.heap.size w1 wr)) (fun x _ => (intOf x + 1).toNat)
 case atStart => exact ⟨p, st.length + 1, rfl, by omega, by omega, HG, Lib.hid (Below.refl _ _)⟩
 case round =>
  clear HG y1 q1
  obtain ⟨q, f, rfl, hqf, hql, HE, HB⟩ := hrel
  obtain ⟨f, rfl⟩ | hf0 : (∃ f', f = f' + 1) ∨ f = 0 := by cases f with | zero => exact .inr rfl | succ f => exact .inl ⟨f, rfl⟩
  rotate_left
  ·subst hf0
   have d1 : decide (q ≥ 0) = false := decide_eq_false (by omega)
   have d1' : decide (0 ≤ q) = false := decide_eq_false (by omega)
   have HR : Hid (-1 = G) := Lib.hid (by rw [← HE.out]; rfl)
   clear HE
   go_wp2_with fail
   go_ret
   exact ⟨by rw [← HR.out]; rfl, HB0.out.trans (HB.out.mono HB0.out.size)⟩
  by_cases c : q ≥ 0
  rotate_left
  ·have d1 : decide (q ≥ 0) = false := decide_eq_false c
   have d1' : decide (0 ≤ q) = false := decide_eq_false c
   have HR : Hid (-1 = G) := Lib.hid (by rw [← HE.out]; simp only [innF]; rw [if_neg c])
   clear HE
   go_wp2_with fail
   go_ret
   exact ⟨by rw [← HR.out]; rfl, HB0.out.trans (HB.out.mono HB0.out.size)⟩
  have d1 : decide (q ≥ 0) = true := decide_eq_true c
  have d1' : decide (0 ≤ q) = true := decide_eq_true c
  have hk := (HB.out.block _ (lt_of_block HX.out)).trans HX.out
  obtain ⟨x0, x1, x2⟩ : wr.cell? ⟨w.heap.size, 0, none⟩ = some (.int .i64 v) ∧ wr.cell? ⟨w.heap.size, 1, none⟩ = some (.slice (some ad) st.length ca) ∧ wr.cell? ⟨w.heap.size, 2, none⟩ = some (.slice B tr.length cb) := ⟨blk_cell hk 0, blk_cell hk 1, blk_cell hk 2⟩
  have HE2 := HE.out
  simp only [innF] at HE2
  rw [if_pos c] at HE2
  clear hk HE
  go_wp2_with fail
  refine (in_any (HM.out.below HB.out) v b q).mono ?_
  cases hh : inC st b q with
  | true =>
   rw [hh, if_pos rfl] at HE2
   have HR := Lib.hid HE2
   clear HE2 hh
   rintro e w2 ⟨rfl, hb2⟩
   have HB2 := Lib.hid (below_then HB.out HB.out.size hb2)
   clear hb2
   go_wp2_with fail
   go_ret
   exact ⟨by rw [← HR.out]; rfl, HB0.out.trans (HB2.out.mono HB0.out.size)⟩
  | false =>
   rw [hh, if_neg (by simp)] at HE2
   have HR := Lib.hid HE2
   clear HE2 hh
   rintro e w2 ⟨rfl, hb2⟩
   have HB2 := Lib.hid (below_then HB.out HB.out.size hb2)
   have x3 : w2.cell? ⟨w.heap.size, 1, none⟩ = some (.slice (some ad) st.length ca) := blk_cell ((HB2.out.block _ (lt_of_block HX.out)).trans HX.out) 1
   obtain ⟨ad2, _, _, _, _, _, _, eA, _, q1, _⟩ := PAll.at_T66 (HM.out.below HB2.out).cs q c hql
   obtain rfl := Option.some.inj eA
   have hlt := (HA.out q c hql).1
   have p3 : (0 ≤ q) = True := eq_true c
   have p4 : (q < (st.length : Int)) = True := eq_true hql
   generalize (PAll.rd_T66 st q).f1 = r at *
   clear hb2
   go_wp2_with fail
   go_roundw
   case rel => exact ⟨r, f, rfl, by omega, by omega, HR, HB2⟩
   case measure => simp [intOf]; omega
theorem kids_any (h : ChM w A ca st B cb tr) (v i : Int) (hn : st.length ≤ 1000000) : Calls Tryz.prog 102 #[ckV v A B st.length tr.length ca cb, .int .i64 i] w fun e w' => ∃ u : Value, e = .returned u ∧ Kd.R (Kd.int .i64) 3 w' w.heap.size (fun _ => True) u (kidsP st i) ∧ Below w.heap.size w w' := by
 have hb0 : Below w.heap.size w (w.alloc (.cells #[.int .i64 v, .slice A st.length ca, .slice B tr.length cb] 25)) := (Below.refl _ w).alloc (Nat.le_refl _) _
 have HB0 := Lib.hid hb0
 have y1 : (w.alloc (.cells #[.int .i64 v, .slice A st.length ca, .slice B tr.length cb] 25)).cell? ⟨w.heap.size, 1, none⟩ = some (.slice A st.length ca) := blk_cell (blk_new w (.cells #[.int .i64 v, .slice A st.length ca, .slice B tr.length cb] 25)) 1
 have HM := Lib.hid (h.below hb0)
 generalize hG : kidsP st i = G
 have HG : Hid (kidsF i st 0 = G) := Lib.hid hG
 clear h hb0 hG
 go_enter Tryz.func102, Tryz.ntmps102
 go_wp2_with fail
 generalize w.alloc (.cells #[.int .i64 v, .slice A st.length ca, .slice B tr.length cb] 25) = w1 at *
 go_loopw [5, 11] (fun u x wr => ∃ (q : Nat) (acc : List Int) (z : Value), z = u ∧ x = .int .i64 q ∧ q ≤ st.length ∧ acc.length ≤ q ∧ Hid (acc ++ kidsF i (st.drop q) q = G) ∧ Hid (Kd.R (Kd.int .i64) 3 wr w1.heap.size (fun _ => True) z acc) ∧ Hid (Below w1.heap.size w1 wr)) (fun _ x _ => st.length - (intOf x).toNat)
 case atStart => exact ⟨0, [], _, rfl, rfl, Nat.zero_le _, Nat.le_refl _, Lib.hid (by simpa using HG.out), Lib.hid (Kd.R_nil _ _ _ _ _), Lib.hid (Below.refl _ _)⟩
 case round =>
  clear HG y1
  obtain ⟨q, acc, z, rfl, rfl, hq, hac, HE, HO, HB⟩ := hrel
  by_cases hlt : q < st.length
  ·obtain ⟨ad, A2, c2, A3, c3, A4, c4, rfl, q0, q1, q2, q3, q4, _⟩ := PAll.at_T66 (HM.out.below HB.out).cs (q : Int) (by omega) (by omega)
   rw [Int.toNat_natCast] at q0 q1 q2 q3 q4
   have hx : PAll.rd_T66 st (q : Int) = st[q] := by
    unfold PAll.rd_T66
    rw [List.getD_eq_getElem?_getD, show ((q : Int)).toNat = q from rfl, List.getElem?_eq_getElem hlt]; rfl
   have hds : st.drop q = PAll.rd_T66 st (q : Int) :: st.drop (q + 1) := by rw [hx]; exact List.drop_eq_getElem_cons hlt
   have HE2 := HE.out
   rw [hds] at HE2
   simp only [kidsF] at HE2
   have p1 : ((q : Int) < (st.length : Int)) = True := eq_true (by omega)
   clear hx hds HE
   generalize (PAll.rd_T66 st (q : Int)).f0 = f0 at *
   generalize (PAll.rd_T66 st (q : Int)).f1 = f1 at *
   generalize (PAll.rd_T66 st (q : Int)).f2.length = n2 at *
   generalize (PAll.rd_T66 st (q : Int)).f3.length = n3 at *
   generalize (PAll.rd_T66 st (q : Int)).f4.length = n4 at *
   have hal : Below wr.heap.size wr (wr.alloc (.cells #[.int .i64 f0, .int .i64 f1, .slice A2 n2 c2, .slice A3 n3 c3, .slice A4 n4 c4] 66)) := (Below.refl _ wr).alloc (Nat.le_refl _) _
   have hk := blk_new wr (.cells #[.int .i64 f0, .int .i64 f1, .slice A2 n2 c2, .slice A3 n3 c3, .slice A4 n4 c4] 66)
   have b0 : (wr.alloc (.cells #[.int .i64 f0, .int .i64 f1, .slice A2 n2 c2, .slice A3 n3 c3, .slice A4 n4 c4] 66)).cell? ⟨wr.heap.size, 0, none⟩ = some (.int .i64 f0) := blk_cell hk 0
   have b1 : (wr.alloc (.cells #[.int .i64 f0, .int .i64 f1, .slice A2 n2 c2, .slice A3 n3 c3, .slice A4 n4 c4] 66)).cell? ⟨wr.heap.size, 1, none⟩ = some (.int .i64 f1) := blk_cell hk 1
   have HB2 := Lib.hid (below_then HB.out HB.out.size hal)
   have HO2 := Lib.hid (Kd.R_below HO.out hal)
   clear hal hk
   by_cases c1 : f1 = i
   ·have d1 : (f1 == i) = true := beq_iff_eq.mpr c1
    have HC1 := Lib.hid c1
    clear c1
    go_wp2_with fail
    generalize wr.alloc (.cells #[.int .i64 f0, .int .i64 f1, .slice A2 n2 c2, .slice A3 n3 c3, .slice A4 n4 c4] 66) = w3 at *
    refine (hist_any f0 _).mono ?_
    cases hh : histP f0 with
    | true =>
     have HE3 : Hid (acc ++ kidsF i (st.drop (q + 1)) ((q + 1 : Nat) : Int) = G) := Lib.hid (by rw [← HE2, if_neg (fun h => by rw [hh] at h; cases h.2)]; rfl)
     clear HE2 hh
     rintro e w4 ⟨rfl, hb4⟩
     have HB4 := Lib.hid (below_then HB2.out HB2.out.size hb4)
     have HO4 := Lib.hid (Kd.R_below HO2.out hb4)
     clear hb4
     go_wp2_with fail
     go_roundw
     case rel => exact ⟨q + 1, acc, _, rfl, by go_num, by omega, by omega, HE3, HO4, HB4⟩
     case measure => simp [intOf]; omega
    | false =>
     have HE3 : Hid ((acc ++ [(q : Int)]) ++ kidsF i (st.drop (q + 1)) ((q + 1 : Nat) : Int) = G) := Lib.hid (by rw [← HE2, if_pos ⟨HC1.out, hh⟩]; simp)
     clear HE2 hh
     rintro e w4 ⟨rfl, hb4⟩
     have HB4 := Lib.hid (below_then HB2.out HB2.out.size hb4)
     have HO4 := Lib.hid (Kd.R_below HO2.out hb4)
     have hsz := HB4.out.size
     have hal3 : acc.length < 1000000 := by omega
     clear hb4
     go_wp2_with (at_builtin; refine int_app rfl (.tmp 26) (.tmp 28) rfl w1.heap.size _ acc (q : Int) rfl _ rfl rfl HO4.out hsz hal3 ?_)
     intro v1 w5 h1 h2
     have HB5 := Lib.hid (HB4.out.trans h2)
     have HO5 := Lib.hid h1
     clear h1 h2
     go_wp2_with fail
     go_roundw
     case rel => exact ⟨q + 1, _, _, rfl, by go_num, by omega, by rw [List.length_append, List.length_singleton]; omega, HE3, HO5, HB5⟩
     case measure => simp [intOf]; omega
   ·have d1 : (f1 == i) = false := beq_eq_false_iff_ne.mpr c1
    have HE3 : Hid (acc ++ kidsF i (st.drop (q + 1)) ((q + 1 : Nat) : Int) = G) := Lib.hid (by rw [← HE2, if_neg (fun h => c1 h.1)]; rfl)
    clear HE2 c1
    go_wp2_with fail
    go_roundw
    case rel => exact ⟨q + 1, acc, _, rfl, by go_num, by omega, by omega, HE3, HO2, HB2⟩
    case measure => simp [intOf]; omega
  ·obtain rfl : q = st.length := by omega
   have HE3 : Hid (acc = G) := Lib.hid (by rw [← HE.out, List.drop_length]; simp [kidsF])
   have p1 : ((st.length : Int) < (st.length : Int)) = False := eq_false (by omega)
   clear HE
   go_wp2_with fail
   go_ret
   exact ⟨_, rfl, by rw [← HE3.out]; exact Kd.R_lower HO.out HB0.out.size, HB0.out.trans (HB.out.mono HB0.out.size)⟩
theorem state_at (h : ChM w A ca st B cb tr) (i : Int) (h0 : 0 ≤ i) (h1 : i < (st.length : Int)) : ∃ ad, A = some ad ∧ w.cell? (ad.add (i.toNat * 5)) = some (.int .i64 (PAll.rd_T66 st i).f0) := by
 obtain ⟨ad, A2, c2, A3, c3, A4, c4, hA, hc, _⟩ := PAll.at_T66 h.cs i h0 h1
 exact ⟨ad, hA, hc⟩
end
theorem chk_cells {w : World} {g : Nat} {v : Int} {A B : Option Addr} {n m ca cb : Nat} (h : w.heap[g]? = some (.cells #[.int .i64 v, .slice A n ca, .slice B m cb] 136 (0, 0))) :
  w.cell? ⟨g, 0, none⟩ = some (.int .i64 v) ∧ w.cell? ⟨g, 1, none⟩ = some (.slice A n ca) ∧ w.cell? ⟨g, 2, none⟩ = some (.slice B m cb) := ⟨blk_cell h 0, blk_cell h 1, blk_cell h 2⟩
theorem targets_any (v : Int) (A B : Option Addr) (ca cb : Nat) (st : List Sta) (tr : List Tra) (ha : Ahead st) (S : Option Addr) (c : Nat) (l : List Int) (w : World) (hM : ChM w A ca st B cb tr) (hS : NumsC w S l.length l) (hc : l.length ≤ c) :
  Calls Tryz.prog 108 #[ckV v A B st.length tr.length ca cb, .slice S l.length c] w fun e w' => e = .returned (.bool (tgtP st l)) ∧ Below w.heap.size w w' := by
 have hb0 : Below w.heap.size w (w.alloc (.cells #[.int .i64 v, .slice A st.length ca, .slice B tr.length cb] 136)) := (Below.refl _ w).alloc (Nat.le_refl _) _
 have HB0 := Lib.hid hb0
 by_cases h3 : 3 < l.length
 ·have HR : Hid (tgtP st l = false) := Lib.hid (by unfold tgtP; rw [if_pos (by omega)])
  have d1 : decide ((l.length : Int) > 3) = true := decide_eq_true (by omega)
  clear hb0
  go_enter Tryz.func108, Tryz.ntmps108
  go_wp2_with fail
  go_ret
  exact ⟨by rw [HR.out]; rfl, HB0.out⟩
 have d1 : decide ((l.length : Int) > 3) = false := decide_eq_false (by omega)
 have HT : Hid (tgtP st l = tgtF st [] l) := Lib.hid (by unfold tgtP; rw [if_neg (by omega)])
 have HM := Lib.hid (hM.below hb0)
 have HS := Lib.hid (Kd.C_below hS hb0)
 have HG := Lib.hid (blk_new w (.cells #[.int .i64 v, .slice A st.length ca, .slice B tr.length cb] 136))
 obtain ⟨inf, hinf, hsz⟩ := Option.map_eq_some_iff.1 (show (Tryz.prog.info? 3).map (·.size) = some 1 by kernel_rfl)
 clear hb0 hM hS
 go_enter Tryz.func108, Tryz.ntmps108
 go_wp2_with fail
 generalize hw0 : w.alloc (.cells #[.int .i64 v, .slice A st.length ca, .slice B tr.length cb] 136) = w0 at HM HS HG HB0 ⊢
 have hfin : ∀ wr, Below w0.heap.size w0 wr → Below w.heap.size w wr := fun wr h => HB0.out.trans (h.mono HB0.out.size)
 have HFin := Lib.hid hfin
 clear hw0 hfin
 go_loopw [15] (fun i wr => ∃ pre suf : List Int, i = .int .i64 pre.length ∧ Hid (l = pre ++ suf ∧ ∀ x ∈ pre, 0 ≤ x ∧ x < (st.length : Int)) ∧ Hid (Below w0.heap.size w0 wr) ∧ Hid (tgtP st l = tgtF st pre suf)) (fun i _ => l.length - (intOf i).toNat)
 case atStart => exact ⟨[], l, rfl, Lib.hid ⟨rfl, fun x hx => by cases hx⟩, Lib.hid (Below.refl _ _), HT⟩
 case round =>
  obtain ⟨pre, suf, rfl, HL, HB, HE⟩ := hrel
  clear HT
  have HG1 := Lib.hid ((HB.out.block w.heap.size (lt_of_block HG.out)).trans HG.out)
  obtain ⟨y0, y1, y2⟩ := chk_cells HG1.out
  cases suf with
  | nil =>
   have hlen : l.length = pre.length := by rw [HL.out.1]; simp
   have HR : Hid (tgtP st l = true) := Lib.hid (by rw [HE.out]; rfl)
   have p1 : ((pre.length : Int) < (l.length : Int)) = False := eq_false (by omega)
   clear hlen
   go_wp2_with fail
   go_ret
   exact ⟨by rw [HR.out]; rfl, HFin.out _ HB.out⟩
  | cons a suf =>
   have hlen : l.length = pre.length + (suf.length + 1) := by rw [HL.out.1]; simp
   have p1 : ((pre.length : Int) < (l.length : Int)) = True := eq_true (by omega)
   obtain ⟨ad, rfl, a0⟩ := nums_at (Kd.C_below HS.out HB.out) pre.length (by omega)
   have ha0 : l[pre.length]'(by omega) = a := by simp [HL.out.1]
   rw [ha0] at a0
   have HLen := Lib.hid hlen
   have hpl : pre.length ≤ 3 := by omega
   clear ha0 hlen
   have hfalse : ∀ r : Bool, tgtF st pre (a :: suf) = r → tgtP st l = r := fun r h => by rw [HE.out, h]
   have HF := Lib.hid hfalse
   clear hfalse
   by_cases z : a = 0
   ·have HR : Hid (tgtP st l = false) := Lib.hid (HF.out _ (by simp only [tgtF]; rw [if_pos (.inl z)]))
    subst z
    go_wp2_with fail
    go_ret
    exact ⟨by rw [HR.out]; rfl, HFin.out _ HB.out⟩
   have d2 : (a == 0) = false := by simp [z]
   by_cases t : 0 ≤ a ∧ a < (st.length : Int)
   ·have ht : decide (0 ≤ a ∧ a < (st.length : Int)) = true := decide_eq_true t
    have HTd := Lib.hid ht
    have HAr := Lib.hid t
    have HE2 : Hid (tgtP st l = if pre.all (pairP st (ownP st a)) = true then tgtF st (pre ++ [a]) suf else false) := Lib.hid (HF.out _ (by simp only [tgtF]; rw [if_neg (fun h => by rcases h with h | h; exact z h; exact h t)]))
    have HO := Lib.hid (own_in ha t.1 t.2)
    clear ht z HE HF
    go_wp2_with fail
    refine (there_any (HM.out.below HB.out) v a).mono ?_
    rw [HTd.out]
    rintro e w1 ⟨rfl, hb1⟩
    have HB1 := Lib.hid (below_then HB.out HB.out.size hb1)
    have HG2 := Lib.hid ((HB1.out.block w.heap.size (lt_of_block HG.out)).trans HG.out)
    clear hb1 y0 y1 y2 a0 HG1
    obtain ⟨y0, y1, y2⟩ := chk_cells HG2.out
    go_wp2_with fail
    refine (own_any (HM.out.below HB1.out) v a HAr.out.1 HAr.out.2).mono ?_
    generalize ownP st a = o at HO HE2 ⊢
    rintro e w2 ⟨rfl, hb2⟩
    have HB2 := Lib.hid (below_then HB1.out HB1.out.size hb2)
    have kto := cut_to (P := Tryz.prog) 36 3 .i64 Tryz.underlying36 hinf (some ad) l.length c (pre.length : Int) (by omega) (by have := HLen.out; omega) hc
    rw [Int.toNat_natCast] at kto
    clear hb2 y0 y1 y2 HG2 t
    go_wp2_with fail
    go_loopw [35] (fun i wr => ∃ done rest : List Int, i = .int .i64 done.length ∧ Hid (pre = done ++ rest) ∧ Hid (Below w0.heap.size w0 wr) ∧ Hid (pre.all (pairP st o) = rest.all (pairP st o))) (fun i _ => pre.length - (intOf i).toNat)
    case atStart => exact ⟨[], pre, rfl, Lib.hid rfl, HB2, Lib.hid rfl⟩
    case round =>
     obtain ⟨done, rest, rfl, HD, HB3, HA⟩ := hrel
     clear HB HB1 HB2
     have HG3 := Lib.hid ((HB3.out.block w.heap.size (lt_of_block HG.out)).trans HG.out)
     obtain ⟨y0, y1, y2⟩ := chk_cells HG3.out
     cases rest with
     | nil =>
      have HR : Hid (tgtP st l = tgtF st (pre ++ [a]) suf) := Lib.hid (by rw [HE2.out, HA.out]; rfl)
      have hdl : pre.length = done.length := by rw [HD.out]; simp
      have p2 : ((done.length : Int) < (pre.length : Int)) = False := eq_false (by omega)
      clear hdl HE2
      go_wp2_with fail
      go_roundw
      case rel => exact ⟨pre ++ [a], suf, by rw [List.length_append, List.length_singleton]; go_num, Lib.hid ⟨by rw [HL.out.1]; simp, fun x hx => by
       rcases List.mem_append.1 hx with hx | hx
       ·exact HL.out.2 x hx
       ·rw [List.mem_singleton.1 hx]; exact HAr.out⟩, HB3, HR⟩
      case measure => have := HLen.out; simp [intOf]; omega
     | cons b rest =>
      have hdl : pre.length = done.length + (rest.length + 1) := by rw [HD.out]; simp
      have p2 : ((done.length : Int) < (pre.length : Int)) = True := eq_true (by omega)
      have hCt := Kd.C_take (Kd.C_below HS.out HB3.out) (show pre.length ≤ l.length by have := HLen.out; omega)
      have htk : l.take pre.length = pre := by rw [HL.out.1, List.take_left]
      rw [htk] at hCt
      obtain ⟨ad', had, b0⟩ := nums_at hCt done.length (by omega)
      obtain rfl : ad = ad' := Option.some.inj had
      have hb0 : pre[done.length]'(by omega) = b := by simp [HD.out]
      rw [hb0] at b0
      have HBr := Lib.hid (HL.out.2 b (by rw [HD.out]; simp))
      have HDl := Lib.hid hdl
      have hd3 : done.length ≤ 3 := by omega
      have HOb := Lib.hid (own_in ha HBr.out.1 HBr.out.2)
      have HN := Lib.hid (inn_lt ha o (ownP st b) HO.out.1 HO.out.2)
      have HP := Lib.hid (show pairP st o b = (decide (o ≠ ownP st b) && !inC st o (ownP st b) && !inC st (ownP st b) o && decide (0 ≤ innP st o (ownP st b)) && decide ((PAll.rd_T66 st (innP st o (ownP st b))).f0 = 3)) from rfl)
      clear hCt htk had hb0 hdl
      have hno : pairP st o b = false → tgtP st l = false := fun h => by rw [HE2.out, HA.out, List.all_cons, h]; rfl
      have HNo := Lib.hid hno
      clear hno
      go_wp2_with fail
      refine (own_any (HM.out.below HB3.out) v b HBr.out.1 HBr.out.2).mono ?_
      generalize ownP st b = ob at HOb HN HP ⊢
      rintro e w4 ⟨rfl, hb4⟩
      have HB4 := Lib.hid (below_then HB3.out HB3.out.size hb4)
      have HG4 := Lib.hid ((HB4.out.block w.heap.size (lt_of_block HG.out)).trans HG.out)
      clear hb4 y0 y1 y2 b0
      obtain ⟨y0, y1, y2⟩ := chk_cells HG4.out
      go_wp2_with fail
      refine (inn_any (HM.out.below HB4.out) ha v o ob HO.out.1 HO.out.2).mono ?_
      generalize innP st o ob = k at HN HP ⊢
      rintro e w5 ⟨rfl, hb5⟩
      have HB5 := Lib.hid (below_then HB4.out HB4.out.size hb5)
      have HG5 := Lib.hid ((HB5.out.block w.heap.size (lt_of_block HG.out)).trans HG.out)
      clear hb5 y0 y1 y2 HG4
      obtain ⟨y0, y1, y2⟩ := chk_cells HG5.out
      by_cases c1 : o = ob
      ·have HR : Hid (tgtP st l = false) := Lib.hid (HNo.out (by rw [HP.out]; simp [c1]))
       have d3 : (o == ob) = true := by simp [c1]
       clear c1
       go_wp2_with fail
       go_ret
       exact ⟨by rw [HR.out]; rfl, HFin.out _ HB5.out⟩
      have d3 : (o == ob) = false := by simp [c1]
      go_wp2_with fail
      refine (in_any (HM.out.below HB5.out) v o ob).mono ?_
      cases c2 : inC st o ob with
      | true =>
       have HR : Hid (tgtP st l = false) := Lib.hid (HNo.out (by rw [HP.out, c2]; simp))
       clear c1 c2
       rintro e w6 ⟨rfl, hb6⟩
       go_wp2_with fail
       go_ret
       exact ⟨by rw [HR.out]; rfl, HFin.out _ (below_then HB5.out HB5.out.size hb6)⟩
      | false =>
       have HC2 := Lib.hid c2
       clear c2
       rintro e w6 ⟨rfl, hb6⟩
       have HB6 := Lib.hid (below_then HB5.out HB5.out.size hb6)
       have HG6 := Lib.hid ((HB6.out.block w.heap.size (lt_of_block HG.out)).trans HG.out)
       clear hb6 y0 y1 y2 HG5
       obtain ⟨y0, y1, y2⟩ := chk_cells HG6.out
       go_wp2_with fail
       refine (in_any (HM.out.below HB6.out) v ob o).mono ?_
       cases c3 : inC st ob o with
       | true =>
        have HR : Hid (tgtP st l = false) := Lib.hid (HNo.out (by rw [HP.out, c3]; simp))
        clear c1 c3
        rintro e w7 ⟨rfl, hb7⟩
        go_wp2_with fail
        go_ret
        exact ⟨by rw [HR.out]; rfl, HFin.out _ (below_then HB6.out HB6.out.size hb7)⟩
       | false =>
        have HC3 := Lib.hid c3
        clear c3
        rintro e w7 ⟨rfl, hb7⟩
        have HB7 := Lib.hid (below_then HB6.out HB6.out.size hb7)
        have HG7 := Lib.hid ((HB7.out.block w.heap.size (lt_of_block HG.out)).trans HG.out)
        clear hb7 y0 y1 y2 HG6
        obtain ⟨y0, y1, y2⟩ := chk_cells HG7.out
        by_cases c4 : k < 0
        ·have HR : Hid (tgtP st l = false) := Lib.hid (HNo.out (by rw [HP.out]; simp; omega))
         have d4 : decide (k < 0) = true := decide_eq_true c4
         clear c1 c4
         go_wp2_with fail
         go_ret
         exact ⟨by rw [HR.out]; rfl, HFin.out _ HB7.out⟩
        have d4 : decide (k < 0) = false := decide_eq_false c4
        have q0 : (0 ≤ k) = True := eq_true (by omega)
        have q1 : (k < (st.length : Int)) = True := eq_true HN.out
        obtain ⟨sd, rfl, s0⟩ := state_at (HM.out.below HB7.out) k (by omega) HN.out
        by_cases c5 : (PAll.rd_T66 st k).f0 = 3
        ·have hp : pairP st o b = true := by rw [HP.out, HC2.out, HC3.out]; simp [c1, c5]; omega
         have HA2 : Hid (pre.all (pairP st o) = rest.all (pairP st o)) := Lib.hid (by rw [HA.out, List.all_cons, hp, Bool.true_and])
         rw [c5] at s0
         clear c1 c4 c5 hp
         go_wp2_with fail
         go_roundw
         case rel => exact ⟨done ++ [b], rest, by rw [List.length_append, List.length_singleton]; go_num, Lib.hid (by rw [HD.out]; simp), HB7, HA2⟩
         case measure => have := HDl.out; simp [intOf]; omega
        ·have HR : Hid (tgtP st l = false) := Lib.hid (HNo.out (by rw [HP.out]; simp [c5]))
         generalize (PAll.rd_T66 st k).f0 = kk at s0 c5
         have d5 : (kk == 3) = false := by simp [c5]
         have d6 : (kk != 3) = true := by simp [c5]
         clear c1 c4 c5
         go_wp2_with fail
         go_ret
         exact ⟨by rw [HR.out]; rfl, HFin.out _ HB7.out⟩
   ·have HR : Hid (tgtP st l = false) := Lib.hid (HF.out _ (by simp only [tgtF]; rw [if_pos (.inr t)]))
    have ht : decide (0 ≤ a ∧ a < (st.length : Int)) = false := decide_eq_false t
    have HTd := Lib.hid ht
    clear t ht z
    go_wp2_with fail
    refine (there_any (HM.out.below HB.out) v a).mono ?_
    rw [HTd.out]
    rintro e w1 ⟨rfl, hb1⟩
    go_wp2_with fail
    go_ret
    exact ⟨by rw [HR.out]; rfl, HFin.out _ (below_then HB.out HB.out.size hb1)⟩
end Go.Proofs.YtikilglbhnplaaaGreatDoor
end
section
namespace Go.Proofs.YtikilglbhnplaaaGreatDoor
open Go.RowKit Go.Proofs.YtikilglbhnplaaaGreatDoorW.PrintWords
open PX (T V)
theorem raw_of {α : Type} {d : Kd α} {w : World} {A : Option Addr} {n : Nat} {xs : List α} (h : d.C w A n xs) :
  ∃ ys : List (List Value), ys.length = n ∧ (Kd.raw d.sz).C w A n ys ∧ ∀ (j : Nat) (x : α) (c : List Value), xs[j]? = some x → ys[j]? = some c → d.K w x c := by
 obtain ⟨hl, hm, hn⟩ := h
 by_cases h0 : 0 < n
 ·obtain ⟨ad, rfl, hc⟩ := hn h0
  obtain ⟨ys, hy, hp⟩ := choose_list n (fun (i : Nat) (c : List Value) => c.length = d.sz ∧ (∀ x, xs[i]? = some x → d.K w x c) ∧ (∀ u ∈ c, u.oneCell' = true) ∧ ∀ i' u, c[i']? = some u → w.cell? (ad.add (i * d.sz + i')) = some u) (fun i hi => by
   obtain ⟨c, h1, h2, h3⟩ := hc i _ (List.getElem?_eq_getElem (show i < xs.length by omega))
   exact ⟨c, h1, fun x hx => by rw [List.getElem?_eq_getElem (show i < xs.length by omega)] at hx; injection hx with hx; rw [← hx]; exact h2, fun u hu => d.K_one h2 u hu, h3⟩)
  refine ⟨ys, hy, ⟨hy, hm, fun _ => ⟨ad, rfl, fun j p hj => ?_⟩⟩, fun j x c hx hc' => ?_⟩
  ·obtain ⟨hjl, rfl⟩ := List.getElem?_eq_some_iff.1 hj
   obtain ⟨q1, q2, q3, q4⟩ := hp j hjl
   exact ⟨ys[j], q1, ⟨rfl, q1, q3⟩, q4⟩
  ·obtain ⟨hjl, rfl⟩ := List.getElem?_eq_some_iff.1 hc'
   exact (hp j hjl).2.1 x hx
 ·obtain rfl : n = 0 := by omega
  obtain rfl : xs = [] := List.eq_nil_of_length_eq_zero hl
  exact ⟨[], rfl, ⟨rfl, hm, fun h => absurd h (Nat.lt_irrefl 0)⟩, fun j x c hx => by simp at hx⟩
theorem nil_noneSt (w : World) (n cap : Nat) : (binOp .eql 22 (.slice none n cap) (.slice none 0 0)).run Tryz.prog w = .ok (.bool true) w := by kernel_rfl
theorem nil_someSt (w : World) (ad : Addr) (n cap : Nat) : (binOp .eql 22 (.slice (some ad) n cap) (.slice none 0 0)).run Tryz.prog w = .ok (.bool false) w := by kernel_rfl
theorem cloneSt (E : Option Addr) (cap n : Nat) (st : List Sta) (hn : st.length = n) (w0 : World) (w : World) (h0 : Below w0.heap.size w0 w) (hc : n ≤ cap) (hC : PAll.k66.C w0 E n st) (hl : n ≤ 100000) :
  Calls Tryz.prog 82 #[.slice E n cap] w fun e w' => ∃ u, ∃ ys : List (List Value), e = .returned u ∧ ys.length = n ∧ (Kd.raw PAll.k66.sz).R 66 w' w.heap.size (fun _ => True) u ys ∧ (∀ (j : Nat) (x : Sta) (c : List Value), st[j]? = some x → ys[j]? = some c → PAll.k66.K w0 x c) ∧ Below w.heap.size w w' := by
 have z1 := nil_noneSt
 have z2 := nil_someSt
 obtain ⟨ys, hy, hyC, hyK⟩ := raw_of hC
 cases E with
 | none =>
  obtain rfl : n = 0 := by
   rcases Nat.eq_zero_or_pos n with h | h
   ·exact h
   ·obtain ⟨ad, h, _⟩ := hC.2.2 h; cases h
  obtain rfl : ys = [] := List.eq_nil_of_length_eq_zero hy
  clear hC hyC
  go_enter Tryz.func82, Tryz.ntmps82
  go_wp2_with fail
  go_ret
  exact ⟨_, [], rfl, rfl, Kd.R_nil _ _ _ _ _, fun j x c _ h => by simp at h, Below.refl _ _⟩
 | some ad =>
  have HC := Lib.hid (Kd.C_below hyC h0)
  clear hC
  go_enter Tryz.func82, Tryz.ntmps82
  go_wp2_with (at_builtin; refine Kd.R_append_rows (Kd.raw PAll.k66.sz) (Rr := ((Kd.raw PAll.k66.sz)).K w) (w0 := w) w.heap.size rfl (.tmp 5) (.tmp 6) 22 66 (.agg #[.int .i64 0, .int .i64 0, .slice none 0 0, .slice none 0 0, .slice none 0 0]) 88 rfl Tryz.underlying22 (by kernel_rfl) rfl (by decide) (by omega) (.slice (some ⟨w.heap.size, 0, none⟩) 0 0) [] ys (some ad) n cap (fun _ => True) (fun _ => False) rfl rfl ?aA ?aB (fun _ _ h => h) (fun _ h => h.elim) (fun _ _ => trivial) ?aC ?aD ?aE ?_)
  case aA => exact ⟨fun _ _ => trivial, [], by simpa using World.ownsRow_lit (base := w.heap.size) (e := 66) (size := ((Kd.raw PAll.k66.sz)).sz) w #[] 0 (Nat.le_refl _) (by simp) (by simp), ⟨by simp, fun j p hj => by simp at hj⟩⟩
  case aB => exact Kd.C_alloc HC.out _
  case aC => exact (Below.refl _ w).alloc (Nat.le_refl _) _
  case aD => simp
  case aE => simp; omega
  intro v1 w1 h1 h2 h3 h4
  go_wp2_with fail
  go_ret
  exact ⟨_, ys, rfl, hy, h1, hyK, h2⟩
theorem nil_noneTr (w : World) (n cap : Nat) : (binOp .eql 23 (.slice none n cap) (.slice none 0 0)).run Tryz.prog w = .ok (.bool true) w := by kernel_rfl
theorem nil_someTr (w : World) (ad : Addr) (n cap : Nat) : (binOp .eql 23 (.slice (some ad) n cap) (.slice none 0 0)).run Tryz.prog w = .ok (.bool false) w := by kernel_rfl
theorem cloneTr (E : Option Addr) (cap n : Nat) (st : List Tra) (hn : st.length = n) (w0 : World) (w : World) (h0 : Below w0.heap.size w0 w) (hc : n ≤ cap) (hC : PAll.k63.C w0 E n st) (hl : n ≤ 100000) :
  Calls Tryz.prog 83 #[.slice E n cap] w fun e w' => ∃ u, ∃ ys : List (List Value), e = .returned u ∧ ys.length = n ∧ (Kd.raw PAll.k63.sz).R 63 w' w.heap.size (fun _ => True) u ys ∧ (∀ (j : Nat) (x : Tra) (c : List Value), st[j]? = some x → ys[j]? = some c → PAll.k63.K w0 x c) ∧ Below w.heap.size w w' := by
 have z1 := nil_noneTr
 have z2 := nil_someTr
 obtain ⟨ys, hy, hyC, hyK⟩ := raw_of hC
 cases E with
 | none =>
  obtain rfl : n = 0 := by
   rcases Nat.eq_zero_or_pos n with h | h
   ·exact h
   ·obtain ⟨ad, h, _⟩ := hC.2.2 h; cases h
  obtain rfl : ys = [] := List.eq_nil_of_length_eq_zero hy
  clear hC hyC
  go_enter Tryz.func83, Tryz.ntmps83
  go_wp2_with fail
  go_ret
  exact ⟨_, [], rfl, rfl, Kd.R_nil _ _ _ _ _, fun j x c _ h => by simp at h, Below.refl _ _⟩
 | some ad =>
  have HC := Lib.hid (Kd.C_below hyC h0)
  clear hC
  go_enter Tryz.func83, Tryz.ntmps83
  go_wp2_with (at_builtin; refine Kd.R_append_rows (Kd.raw PAll.k63.sz) (Rr := ((Kd.raw PAll.k63.sz)).K w) (w0 := w) w.heap.size rfl (.tmp 5) (.tmp 6) 23 63 (.agg #[.int .i64 0, .int .i64 0, .string ⟨#[]⟩, .slice none 0 0, .bool false, .slice none 0 0]) 88 rfl Tryz.underlying23 (by kernel_rfl) rfl (by decide) (by omega) (.slice (some ⟨w.heap.size, 0, none⟩) 0 0) [] ys (some ad) n cap (fun _ => True) (fun _ => False) rfl rfl ?aA ?aB (fun _ _ h => h) (fun _ h => h.elim) (fun _ _ => trivial) ?aC ?aD ?aE ?_)
  case aA => exact ⟨fun _ _ => trivial, [], by simpa using World.ownsRow_lit (base := w.heap.size) (e := 63) (size := ((Kd.raw PAll.k63.sz)).sz) w #[] 0 (Nat.le_refl _) (by simp) (by simp), ⟨by simp, fun j p hj => by simp at hj⟩⟩
  case aB => exact Kd.C_alloc HC.out _
  case aC => exact (Below.refl _ w).alloc (Nat.le_refl _) _
  case aD => simp
  case aE => simp; omega
  intro v1 w1 h1 h2 h3 h4
  go_wp2_with fail
  go_ret
  exact ⟨_, ys, rfl, hy, h1, hyK, h2⟩
theorem nil_noneIn (w : World) (n cap : Nat) : (binOp .eql 36 (.slice none n cap) (.slice none 0 0)).run Tryz.prog w = .ok (.bool true) w := by kernel_rfl
theorem nil_someIn (w : World) (ad : Addr) (n cap : Nat) : (binOp .eql 36 (.slice (some ad) n cap) (.slice none 0 0)).run Tryz.prog w = .ok (.bool false) w := by kernel_rfl
theorem cloneIn (E : Option Addr) (cap n : Nat) (l : List Int) (hn : l.length = n) (w : World) (hc : n ≤ cap) (hC : (Kd.int .i64).C w E n l) (hl : n ≤ 100000) :
  Calls Tryz.prog 75 #[.slice E n cap] w fun e w' => ∃ u, e = .returned u ∧ (Kd.int .i64).R 3 w' w.heap.size (fun _ => True) u l ∧ Below w.heap.size w w' := by
 have z1 := nil_noneIn
 have z2 := nil_someIn
 skip
 cases E with
 | none =>
  obtain rfl : n = 0 := by
   rcases Nat.eq_zero_or_pos n with h | h
   ·exact h
   ·obtain ⟨ad, h, _⟩ := hC.2.2 h; cases h
  obtain rfl : l = [] := List.eq_nil_of_length_eq_zero hn
  clear hC
  go_enter Tryz.func75, Tryz.ntmps75
  go_wp2_with fail
  go_ret
  exact ⟨_, rfl, Kd.R_nil _ _ _ _ _, Below.refl _ _⟩
 | some ad =>
  have HC := Lib.hid hC
  clear hC
  go_enter Tryz.func75, Tryz.ntmps75
  go_wp2_with (at_builtin; refine Kd.R_append_rows (Kd.int .i64) (Rr := ((Kd.int .i64)).K w) (w0 := w) w.heap.size rfl (.tmp 5) (.tmp 6) 36 3 (.int .i64 0) 8 rfl Tryz.underlying36 (by kernel_rfl) rfl (by decide) (by omega) (.slice (some ⟨w.heap.size, 0, none⟩) 0 0) [] l (some ad) n cap (fun _ => True) (fun _ => False) rfl rfl ?aA ?aB (fun _ _ h => h) (fun _ h => h.elim) (fun _ _ => trivial) ?aC ?aD ?aE ?_)
  case aA => exact ⟨fun _ _ => trivial, [], by simpa using World.ownsRow_lit (base := w.heap.size) (e := 3) (size := ((Kd.int .i64)).sz) w #[] 0 (Nat.le_refl _) (by simp) (by simp), ⟨by simp, fun j p hj => by simp at hj⟩⟩
  case aB => exact Kd.C_alloc HC.out _
  case aC => exact (Below.refl _ w).alloc (Nat.le_refl _) _
  case aD => simp
  case aE => simp; omega
  intro v1 w1 h1 h2 h3 h4
  go_wp2_with fail
  go_ret
  exact ⟨_, rfl, h1, h2⟩
theorem nil_noneAc (w : World) (n cap : Nat) : (binOp .eql 61 (.slice none n cap) (.slice none 0 0)).run Tryz.prog w = .ok (.bool true) w := by kernel_rfl
theorem nil_someAc (w : World) (ad : Addr) (n cap : Nat) : (binOp .eql 61 (.slice (some ad) n cap) (.slice none 0 0)).run Tryz.prog w = .ok (.bool false) w := by kernel_rfl
theorem cloneAc (E : Option Addr) (cap n : Nat) (l : List Ac) (hn : l.length = n) (w : World) (hc : n ≤ cap) (hC : PAll.k125.C w E n l) (hl : n ≤ 100000) :
  Calls Tryz.prog 110 #[.slice E n cap] w fun e w' => ∃ u, e = .returned u ∧ PAll.k125.R 125 w' w.heap.size (fun _ => True) u l ∧ Below w.heap.size w w' := by
 have z1 := nil_noneAc
 have z2 := nil_someAc
 skip
 cases E with
 | none =>
  obtain rfl : n = 0 := by
   rcases Nat.eq_zero_or_pos n with h | h
   ·exact h
   ·obtain ⟨ad, h, _⟩ := hC.2.2 h; cases h
  obtain rfl : l = [] := List.eq_nil_of_length_eq_zero hn
  clear hC
  go_enter Tryz.func110, Tryz.ntmps110
  go_wp2_with fail
  go_ret
  exact ⟨_, rfl, Kd.R_nil _ _ _ _ _, Below.refl _ _⟩
 | some ad =>
  have HC := Lib.hid hC
  clear hC
  go_enter Tryz.func110, Tryz.ntmps110
  go_wp2_with (at_builtin; refine Kd.R_append_rows PAll.k125 (Rr := (PAll.k125).K w) (w0 := w) w.heap.size rfl (.tmp 5) (.tmp 6) 61 125 (.agg #[.int .i64 0, .int .i64 0, .int .i64 0, .string ⟨#[]⟩]) 40 rfl Tryz.underlying61 (by kernel_rfl) rfl (by decide) (by omega) (.slice (some ⟨w.heap.size, 0, none⟩) 0 0) [] l (some ad) n cap (fun _ => True) (fun _ => False) rfl rfl ?aA ?aB (fun x cs h => by rw [PAll.k125_open h]; exact PAll.k125_mkM _ _ _ x) (fun _ h => h.elim) (fun _ _ => trivial) ?aC ?aD ?aE ?_)
  case aA => exact ⟨fun _ _ => trivial, [], by simpa using World.ownsRow_lit (base := w.heap.size) (e := 125) (size := (PAll.k125).sz) w #[] 0 (Nat.le_refl _) (by simp) (by simp), ⟨by simp, fun j p hj => by simp at hj⟩⟩
  case aB => exact Kd.C_alloc HC.out _
  case aC => exact (Below.refl _ w).alloc (Nat.le_refl _) _
  case aD => simp
  case aE => simp; omega
  intro v1 w1 h1 h2 h3 h4
  go_wp2_with fail
  go_ret
  exact ⟨_, rfl, h1, h2⟩
theorem cloneActs (E : Option Addr) (cap n : Nat) (l : List Ac) (hn : l.length = n) (w : World) (hc : n ≤ cap) (hC : PAll.k125.C w E n l) (hl : n ≤ 100000) :
  Calls Tryz.prog 84 #[.slice E n cap] w fun e w' => ∃ u, e = .returned u ∧ PAll.k125.R 125 w' w.heap.size (fun _ => True) u l ∧ Below w.heap.size w w' := by
 subst hn
 have HC := Lib.hid hC
 clear hC
 go_enter Tryz.func84, Tryz.ntmps84
 go_wp2_with fail
 refine (cloneAc E cap l.length l rfl w hc HC.out hl).mono ?_
 rintro e w1 ⟨u, rfl, h1, h2⟩
 obtain ⟨A1, c1, rfl⟩ := Kd.R_slice h1
 have H1 := Lib.hid h1
 clear h1
 go_wp2_with fail
 go_ret
 exact ⟨_, rfl, H1.out, h2⟩
end Go.Proofs.YtikilglbhnplaaaGreatDoor
end
section
namespace Go.Proofs.YtikilglbhnplaaaGreatDoor
open Go.RowKit Go.Proofs.YtikilglbhnplaaaGreatDoorW.PrintWords
open PX (T V)
def RowQ {α : Type} (d : Kd α) (e : Nat) (w wr : World) (base : Nat) (ok : Nat → Prop) (g : Nat) (cs : Array Value) (xs : List α) (q : Nat) : Prop :=
 wr.heap[g]? = some (.cells cs e (0, 0)) ∧ ∀ (j : Nat) (x : α), xs[j]? = some x → ∃ c : List Value, c.length = d.sz ∧ (∀ (i : Nat) (u : Value), c[i]? = some u → cs[j * d.sz + i]? = some u) ∧ (j < q → d.M wr base ok x c) ∧ (q ≤ j → d.K w x c)
section
variable {α : Type} {d : Kd α} {e base g q : Nat} {ok ok' : Nat → Prop} {w wr wr' : World} {cs : Array Value} {xs : List α}
theorem RowQ.first {v : Value} {ys : List (List Value)} {n : Nat} (hx : xs.length = n) (hy : ys.length = n) (hp : 0 < n) (h : (Kd.raw d.sz).R e wr base (fun _ => True) v ys)
  (hK : ∀ (j : Nat) (x : α) (c : List Value), xs[j]? = some x → ys[j]? = some c → d.K w x c) (ok : Nat → Prop) :
  ∃ g cap cs, v = .slice (some ⟨g, 0, none⟩) n cap ∧ n ≤ cap ∧ base ≤ g ∧ RowQ d e w wr base ok g cs xs 0 := by
 obtain ⟨g, cap, rfl, hb, _, cs, hc⟩ := Kd.R_form h (by omega)
 obtain ⟨_, hcap, hC⟩ := Kd.R_reads' h
 refine ⟨g, cap, cs, by rw [hy], by omega, hb, hc, fun j x hj => ?_⟩
 obtain ⟨ad, had, hcc⟩ := hC.2.2 (by omega)
 obtain rfl : ad = ⟨g, 0, none⟩ := (Option.some.inj had).symm
 have hjl : j < xs.length := (List.getElem?_eq_some_iff.1 hj).1
 have hyj : ys[j]? = some ys[j] := List.getElem?_eq_getElem (by omega)
 obtain ⟨c, h1, ⟨rfl, h2, h3⟩, h4⟩ := hcc j _ hyj
 refine ⟨ys[j], h2, fun i u hi => ?_, fun h => absurd h (Nat.not_lt_zero _), fun _ => hK j x _ hj hyj⟩
 have := h4 i u hi
 rw [add_at, Nat.zero_add, blk_cell hc] at this
 exact this
theorem RowQ.step (h : RowQ d e w wr base ok g cs xs q) (hg : wr'.heap[g]? = wr.heap[g]?) (hm : ∀ k, ok k → k < wr.heap.size → wr'.heap[k]? = wr.heap[k]?) : RowQ d e w wr' base ok g cs xs q :=
 ⟨hg.trans h.1, fun j x hj => by
  obtain ⟨c, h1, h2, h3, h4⟩ := h.2 j x hj
  exact ⟨c, h1, h2, fun hlt => Kd.M_step (h3 hlt) hm, h4⟩⟩
theorem RowQ.zero (h : RowQ d e w wr base ok g cs xs 0) (hg : wr'.heap[g]? = some (.cells cs e (0, 0))) : RowQ d e w wr' base ok' g cs xs 0 :=
 ⟨hg, fun j x hj => by
  obtain ⟨c, h1, h2, _, h4⟩ := h.2 j x hj
  exact ⟨c, h1, h2, fun hlt => absurd hlt (Nat.not_lt_zero _), h4⟩⟩
theorem RowQ.below (h : RowQ d e w wr base ok g cs xs q) (hb : Below wr.heap.size wr wr') : RowQ d e w wr' base ok g cs xs q :=
 h.step (hb.block g (lt_of_block h.1)) (fun k _ hk => hb.block k hk)
theorem RowQ.put {cs' : Array Value} {x : α} {c' : List Value} (h : RowQ d e w wr base ok g cs xs q) (hx : xs[q]? = some x) (hm : ∀ k, ok k → k < wr.heap.size → wr'.heap[k]? = wr.heap[k]?) (hg : wr'.heap[g]? = some (.cells cs' e (0, 0)))
  (hl : c'.length = d.sz) (hc : ∀ (i : Nat) (u : Value), c'[i]? = some u → cs'[q * d.sz + i]? = some u) (hM : d.M wr' base ok x c') (ho : ∀ p, p < q * d.sz ∨ q * d.sz + d.sz ≤ p → cs'[p]? = cs[p]?) : RowQ d e w wr' base ok g cs' xs (q + 1) := by
 refine ⟨hg, fun j y hj => ?_⟩
 by_cases e : j = q
 ·subst e
  rw [hx] at hj
  injection hj with hj
  subst hj
  exact ⟨c', hl, hc, fun _ => hM, fun h => absurd h (by omega)⟩
 ·obtain ⟨c, h1, h2, h3, h4⟩ := h.2 j y hj
  refine ⟨c, h1, fun i u hi => ?_, fun hlt => Kd.M_step (h3 (by omega)) hm, fun hle => h4 (by omega)⟩
  have hil : i < d.sz := by rw [← h1]; exact (List.getElem?_eq_some_iff.1 hi).1
  rw [ho _ ?_]
  ·exact h2 i u hi
  ·rcases Nat.lt_or_gt_of_ne e with h | h
   ·left
    have : (j + 1) * d.sz ≤ q * d.sz := Nat.mul_le_mul_right _ h
    rw [Nat.succ_mul] at this
    omega
   ·right
    have : (q + 1) * d.sz ≤ j * d.sz := Nat.mul_le_mul_right _ h
    rw [Nat.succ_mul] at this
    omega
theorem RowQ.reads {n : Nat} (h : RowQ d e w wr base ok g cs xs n) (hn : xs.length = n) (hm : n ≤ 9223372036854775807) : d.C wr (some ⟨g, 0, none⟩) n xs := by
 refine ⟨hn, hm, fun _ => ⟨_, rfl, fun j x hj => ?_⟩⟩
 obtain ⟨c, h1, h2, h3, _⟩ := h.2 j x hj
 have hjl : j < xs.length := (List.getElem?_eq_some_iff.1 hj).1
 refine ⟨c, h1, d.K_of_M (h3 (by omega)), fun i u hi => ?_⟩
 rw [add_at, Nat.zero_add, blk_cell h.1]
 exact h2 i u hi
end
end Go.Proofs.YtikilglbhnplaaaGreatDoor
end
section
namespace Go.Proofs.YtikilglbhnplaaaGreatDoor
open Go.RowKit Go.Proofs.YtikilglbhnplaaaGreatDoorW.PrintWords Go.Proofs.YtikilglbhnplaaaGreatDoorW.PrintLast
open PX (T V)
def But (a b c d : Nat) (k : Nat) : Prop := k ≠ a ∧ k ≠ b ∧ k ≠ c ∧ k ≠ d
theorem but_R {α : Type} {d : Kd α} {e b a1 a2 a3 a4 t1 t2 t3 t4 : Nat} {W : World} {v : Value} {xs : List α} {c1 c2 c3 c4 : Array Value} (h : d.R e W b (fun _ => True) v xs)
  (h1 : W.heap[a1]? = some (.cells c1 t1 (0, 0))) (h2 : W.heap[a2]? = some (.cells c2 t2 (0, 0))) (h3 : W.heap[a3]? = some (.cells c3 t3 (0, 0))) (h4 : W.heap[a4]? = some (.cells c4 t4 (0, 0)))
  (hq : ∀ q, q ∈ e :: d.E → q ≠ t1 ∧ q ≠ t2 ∧ q ≠ t3 ∧ q ≠ t4) : d.R e W b (But a1 a2 a3 a4) v xs :=
 Kd.R_mono (Kd.R_types (Kd.R_types (Kd.R_types (Kd.R_types h h1 (fun q hx => (hq q hx).1)) h2 (fun q hx => (hq q hx).2.1)) h3 (fun q hx => (hq q hx).2.2.1)) h4 (fun q hx => (hq q hx).2.2.2)) (fun k hk => ⟨hk.1.1.1.2, hk.1.1.2, hk.1.2, hk.2⟩)
theorem but_int {t1 t2 t3 t4 : Nat} (h : 3 ≠ t1 ∧ 3 ≠ t2 ∧ 3 ≠ t3 ∧ 3 ≠ t4) : ∀ q, q ∈ 3 :: (Kd.int .i64).E → q ≠ t1 ∧ q ≠ t2 ∧ q ≠ t3 ∧ q ≠ t4 := by
 intro q hq
 rcases List.mem_cons.1 hq with rfl | hq
 ·exact h
 ·have hq' : q ∈ ([] : List Nat) := hq
  cases hq'
theorem but_act {t1 t2 t3 t4 : Nat} (h : 125 ≠ t1 ∧ 125 ≠ t2 ∧ 125 ≠ t3 ∧ 125 ≠ t4) : ∀ q, q ∈ 125 :: PAll.k125.E → q ≠ t1 ∧ q ≠ t2 ∧ q ≠ t3 ∧ q ≠ t4 := by
 intro q hq
 rcases List.mem_cons.1 hq with rfl | hq
 ·exact h
 ·have hq' : q ∈ ([] : List Nat) := hq
  cases hq'
theorem copied_own (v : Int) (A B : Option Addr) (ca cb : Nat) (st : List Sta) (tr : List Tra) (hst : 0 < st.length) (hs : st.length ≤ 1000) (ht : tr.length ≤ 1000) (hS : ∀ x ∈ st, x.f2.length ≤ 1000 ∧ x.f3.length ≤ 1000 ∧ x.f4.length ≤ 1000) (hT : ∀ x ∈ tr, x.f3.length ≤ 1000 ∧ x.f5.length ≤ 1000) (w : World) (hM : ChM w A ca st B cb tr) :
  Calls Tryz.prog 36 #[ckV v A B st.length tr.length ca cb] w fun e w' => ∃ A' ca' B' cb', e = .returned (ckV v A' B' st.length tr.length ca' cb') ∧ ChM w' A' ca' st B' cb' tr ∧ Below w.heap.size w w' ∧ (∃ gS csS ok, A' = some ⟨gS, 0, none⟩ ∧ w.heap.size ≤ gS ∧ RowQ PAll.k66 66 w w' w.heap.size ok gS csS st st.length) ∧ (0 < tr.length → ∃ gT csT ok, B' = some ⟨gT, 0, none⟩ ∧ w.heap.size ≤ gT ∧ RowQ PAll.k63 63 w w' w.heap.size ok gT csT tr tr.length) := by
 have hb0 : Below w.heap.size w ((w.alloc (.cells #[.int .i64 v, .slice A st.length ca, .slice B tr.length cb] 25)).alloc (.cells #[.int .i64 0, .slice none 0 0, .slice none 0 0] 25)) := ((Below.refl _ w).alloc (Nat.le_refl _) _).alloc (by simp) _
 obtain ⟨hk1, hk2, hlt0, _⟩ := boxed2 (Below.refl _ ((w.alloc (.cells #[.int .i64 v, .slice A st.length ca, .slice B tr.length cb] 25)).alloc (.cells #[.int .i64 0, .slice none 0 0, .slice none 0 0] 25)))
 have HB0 := Lib.hid hb0
 have HK1 := Lib.hid hk1
 have HK2 := Lib.hid hk2
 have HM := Lib.hid hM
 have HSl := Lib.hid hS
 have HTl := Lib.hid hT
 have y0 : ((w.alloc (.cells #[.int .i64 v, .slice A st.length ca, .slice B tr.length cb] 25)).alloc (.cells #[.int .i64 0, .slice none 0 0, .slice none 0 0] 25)).cell? ⟨w.heap.size, 0, none⟩ = some (.int .i64 v) := blk_cell hk1 0
 have y1 : ((w.alloc (.cells #[.int .i64 v, .slice A st.length ca, .slice B tr.length cb] 25)).alloc (.cells #[.int .i64 0, .slice none 0 0, .slice none 0 0] 25)).cell? ⟨w.heap.size, 1, none⟩ = some (.slice A st.length ca) := blk_cell hk1 1
 have y2 : ((w.alloc (.cells #[.int .i64 v, .slice A st.length ca, .slice B tr.length cb] 25)).alloc (.cells #[.int .i64 0, .slice none 0 0, .slice none 0 0] 25)).cell? ⟨w.heap.size, 2, none⟩ = some (.slice B tr.length cb) := blk_cell hk1 2
 clear hk1 hk2 hb0 hM hS hT
 go_enter Tryz.func36, Tryz.ntmps36
 go_wp2_with fail
 generalize (w.alloc (.cells #[.int .i64 v, .slice A st.length ca, .slice B tr.length cb] 25)).alloc (.cells #[.int .i64 0, .slice none 0 0, .slice none 0 0] 25) = w0 at HB0 HK1 HK2 y0 y1 y2 hlt0 ⊢
 have HB1 := Lib.hid (below_drew HB0.out)
 refine start_ (n := 10) (S := fun w' => w'.cell? ⟨w.heap.size, 1, none⟩ = some (.slice A st.length ca) ∧ w'.cell? ⟨w.heap.size, 2, none⟩ = some (.slice B tr.length cb)) (ds := [5, 7, 9]) (tf10 0) (by kernel_rfl) rfl (by kernel_rfl) ⟨y1, y2⟩ (fun hHeld => ?_)
 refine pxt_ (v := ?_) (a' := ?_) rfl rfl (by kernel_rfl) (fun _ _ _ h => h) (Or.inl ⟨by rfl, ?_⟩) ?_ ?_
 rotate_left
 ·intro w'
  go_simp
  first | done | with_reducible rfl
 rotate_left
 ·simp only [Act.put, List.setIfInBounds_toArray, List.set_cons_zero, List.set_cons_succ, i64_w, i32_w]
  first | done | rfl
 refine nxt_ (v := ?_) (a' := ?_) rfl rfl (by kernel_rfl) (fun _ _ _ h => h) (Or.inl ⟨by rfl, ?_⟩) hHeld ?_ ?_
 rotate_left
 ·rintro w' ⟨s0, s1⟩
  go_simp
  first | done | with_reducible rfl
 rotate_left
 ·simp only [Act.put, List.setIfInBounds_toArray, List.set_cons_zero, List.set_cons_succ, i64_w, i32_w]
  first | done | rfl
 refine pure_ (i := 3) (N := some 10) (v := ?_) (a' := ?_) (bm10 11) rfl rfl (by kernel_rfl) (fun _ _ _ h => h) (Or.inl ⟨by rfl, ?_⟩) ?_ ?_
 rotate_left
 ·intro w'
  go_simp
  with_reducible rfl
 rotate_left
 ·simp only [Act.put, List.setIfInBounds_toArray, List.set_cons_zero, List.set_cons_succ, i64_w, i32_w]
  rfl
 refine take_ (i := 4) (N := some 11) (v := ?_) (a' := ?_) (bm10 27) rfl rfl (by kernel_rfl) (fun _ _ _ h => h) (Or.inl ⟨by rfl, ?_⟩) hHeld ?_ ?_
 rotate_left
 ·rintro w' ⟨s0, s1⟩
  go_simp
  with_reducible rfl
 rotate_left
 ·simp only [Act.put, List.setIfInBounds_toArray, List.set_cons_zero, List.set_cons_succ, i64_w, i32_w]
  rfl
 refine one_ (i := 2) (N := some 9) (tf10 5) rfl rfl (by kernel_rfl) (by decide) (fun K hK => ?_)
 refine goes_ Tryz.func82 (by kernel_rfl) rfl #[.slice A st.length ca] (by rfl) rfl rfl (by first | rfl | (go_simp; done) | (go_simp; exact ⟨rfl, rfl⟩) | (go_simp; rfl)) ?_
 refine (cloneSt A ca st.length st rfl w _ HB1.out HM.out.sc HM.out.cs (by omega)).mono ?_
 rintro e3 w3 ⟨u, ys, rfl, hy, hR, hK', hb⟩
 have hk := ((hb.block _ (lt_of_block HK1.out)).trans HK1.out)
 refine ⟨_, rfl, hK.out _ _ ⟨blk_cell hk 1, blk_cell hk 2⟩ (fun _ => ?_)⟩
 clear hK K
 have HK13 := Lib.hid hk
 have HK23 := Lib.hid ((hb.block _ (lt_of_block HK2.out)).trans HK2.out)
 have HB3 := Lib.hid (HB1.out.trans (hb.mono HB1.out.size))
 have HR3 := Lib.hid hR
 have HKs := Lib.hid hK'
 have HY := Lib.hid hy
 clear hb hR hK' hy hk
 refine pure_ (i := 6) (N := some 13) (v := ?_) (a' := ?_) (bm10 95) rfl rfl (by kernel_rfl) (fun _ _ _ h => h) (Or.inl ⟨by rfl, ?_⟩) ?_ ?_
 rotate_left
 ·intro w'
  go_simp
  with_reducible rfl
 rotate_left
 ·simp only [Act.put, List.setIfInBounds_toArray, List.set_cons_zero, List.set_cons_succ, i64_w, i32_w]
  rfl
 refine last_ (i := 5) (N := some 12) (tf10 7) rfl rfl (by kernel_rfl) (by decide) (fun K hK => ?_)
 refine goes_ Tryz.func83 (by kernel_rfl) rfl #[.slice B tr.length cb] (by rfl) rfl rfl (by first | rfl | (go_simp; done) | (go_simp; exact ⟨rfl, rfl⟩) | (go_simp; rfl)) ?_
 refine (cloneTr B cb tr.length tr rfl w _ HB3.out HM.out.tc HM.out.ct (by omega)).mono ?_
 rintro e4 w4 ⟨u2, zs, rfl, hz, hR4, hK', hb⟩
 refine ⟨_, rfl, hK.out _ _ ?_⟩
 clear hK K
 have hk := ((hb.block _ (lt_of_block HK13.out)).trans HK13.out)
 have HK14 := Lib.hid hk
 have HK24 := Lib.hid ((hb.block _ (lt_of_block HK23.out)).trans HK23.out)
 have HB4 := Lib.hid (HB3.out.trans (hb.mono HB3.out.size))
 obtain ⟨gS, capS, csS, rfl, hcapS, hgS, hQS⟩ := RowQ.first (d := PAll.k66) (e := 66) (w := w) (wr := w3) rfl HY.out hst (Kd.R_lower HR3.out (by have := HB1.out.size; omega)) HKs.out (fun _ => True)
 have HQS := Lib.hid (hQS.below hb)
 obtain ⟨B2, capT, rfl⟩ := Kd.R_slice hR4
 rw [hz]
 have HRT := Lib.hid hR4
 have HKt := Lib.hid hK'
 have HZ := Lib.hid hz
 have s1 : w4.cell? ⟨w.heap.size, 1, none⟩ = some (.slice A st.length ca) := blk_cell hk 1
 have s2 : w4.cell? ⟨w.heap.size, 2, none⟩ = some (.slice B tr.length cb) := blk_cell hk 2
 have f1 : w4.frozen? ⟨w.heap.size, 1, none⟩ = false := blk_free hk 1
 have f2 : w4.frozen? ⟨w.heap.size, 2, none⟩ = false := blk_free hk 2
 clear hb hQS hR4 hK' hz hk
 refine last_ (i := 7) (N := none) (tf10 8) rfl rfl (by kernel_rfl) (by decide) (fun K hK => ?_)
 refine skip_ (w1 := ?_) (by rfl) rfl ?_ ?_
 rotate_left
 ·go_simp
  rfl
 refine hK.out _ _ ?_
 clear hK K
 refine pxt_ (v := ?_) (a' := ?_) rfl rfl (by kernel_rfl) (fun _ _ _ h => h) (Or.inl ⟨by rfl, ?_⟩) ?_ ?_
 rotate_left
 ·intro w'
  go_simp
  first | done | with_reducible rfl
 rotate_left
 ·simp only [Act.put, List.setIfInBounds_toArray, List.set_cons_zero, List.set_cons_succ, i64_w, i32_w]
  first | done | rfl
 refine last_ (i := 9) (N := none) (tf10 10) rfl rfl (by kernel_rfl) (by decide) (fun K hK => ?_)
 refine skip_ (w1 := ?_) (by rfl) rfl ?_ ?_
 rotate_left
 ·go_simp
  rfl
 refine hK.out _ _ ?_
 clear hK K
 refine done_ (by kernel_rfl) ?_
 obtain ⟨gT, hgT, htT, hQT⟩ : ∃ gT, w.heap.size ≤ gT ∧ (∃ cells t, w4.heap[gT]? = some (.cells cells t (0, 0)) ∧ 3 ≠ t ∧ 125 ≠ t ∧ 66 ≠ t) ∧ (0 < tr.length → B2 = some ⟨gT, 0, none⟩ ∧ tr.length ≤ capT ∧ ∃ csT, RowQ PAll.k63 63 w w4 w.heap.size (fun _ => True) gT csT tr 0) := by
  by_cases h : 0 < tr.length
  ·obtain ⟨gT, cap, csT, hv, hcap, hg, hQ⟩ := RowQ.first (d := PAll.k63) (e := 63) (w := w) (wr := w4) rfl HZ.out h (Kd.R_lower HRT.out (by have := HB3.out.size; omega)) HKt.out (fun _ => True)
   injection hv with e1 e2 e3
   rw [HZ.out] at *
   subst e1
   subst e3
   exact ⟨gT, hg, ⟨_, _, hQ.1, by decide, by decide, by decide⟩, fun _ => ⟨rfl, hcap, csT, hQ⟩⟩
  ·exact ⟨w.heap.size, Nat.le_refl _, ⟨_, _, HK14.out, by decide, by decide, by decide⟩, fun h' => absurd h' h⟩
 have hneS : gS ≠ w.heap.size := blk_ne HQS.out.1 HK14.out (by decide)
 have hneS2 : gS ≠ w.heap.size + 1 := blk_ne HQS.out.1 HK24.out (by decide)
 obtain ⟨cT, tT, hcT, hT1, hT2, hT3⟩ := htT
 have hneST : gS ≠ gT := blk_ne HQS.out.1 hcT (Ne.symm (Ne.symm hT3))
 have HK15 := Lib.hid (blk_set (blk_set HK14.out 1 (.slice (some ⟨gS, 0, none⟩) st.length capS)) 2 (.slice B2 tr.length capT))
 have HK25 := Lib.hid (blk_far (p := ⟨w.heap.size, 2, none⟩) (blk_far (p := ⟨w.heap.size, 1, none⟩) HK24.out (by simp) (.slice (some ⟨gS, 0, none⟩) st.length capS)) (by simp) (.slice B2 tr.length capT))
 have HB5 := Lib.hid ((HB4.out.setCell (p := ⟨w.heap.size, 1, none⟩) (Nat.le_refl _) (.slice (some ⟨gS, 0, none⟩) st.length capS)).setCell (p := ⟨w.heap.size, 2, none⟩) (Nat.le_refl _) (.slice B2 tr.length capT))
 have HQ5 : Hid (RowQ PAll.k66 66 w ((w4.setCell ⟨w.heap.size, 1, none⟩ (.slice (some ⟨gS, 0, none⟩) st.length capS)).setCell ⟨w.heap.size, 2, none⟩ (.slice B2 tr.length capT)) w.heap.size (But gS gT w.heap.size (w.heap.size + 1)) gS csS st 0) := Lib.hid (HQS.out.zero (blk_far (p := ⟨w.heap.size, 2, none⟩) (blk_far (p := ⟨w.heap.size, 1, none⟩) HQS.out.1 hneS _) hneS _))
 have HT5 : Hid (∃ cells t, ((w4.setCell ⟨w.heap.size, 1, none⟩ (.slice (some ⟨gS, 0, none⟩) st.length capS)).setCell ⟨w.heap.size, 2, none⟩ (.slice B2 tr.length capT)).heap[gT]? = some (.cells cells t (0, 0)) ∧ 3 ≠ t ∧ 125 ≠ t ∧ 66 ≠ t) := Lib.hid (by
  by_cases e : gT = w.heap.size
  ·exact ⟨_, _, by rw [e]; exact HK15.out, by decide, by decide, by decide⟩
  ·exact ⟨_, _, blk_far (p := ⟨w.heap.size, 2, none⟩) (blk_far (p := ⟨w.heap.size, 1, none⟩) hcT e _) e _, hT1, hT2, hT3⟩)
 have HQT5 : Hid (0 < tr.length → B2 = some ⟨gT, 0, none⟩ ∧ tr.length ≤ capT ∧ ∃ csT, RowQ PAll.k63 63 w ((w4.setCell ⟨w.heap.size, 1, none⟩ (.slice (some ⟨gS, 0, none⟩) st.length capS)).setCell ⟨w.heap.size, 2, none⟩ (.slice B2 tr.length capT)) w.heap.size (But gS gT w.heap.size (w.heap.size + 1)) gT csT tr 0) := Lib.hid (fun h => by
  obtain ⟨e1, e2, csT, hQ⟩ := hQT h
  have hneT : gT ≠ w.heap.size := blk_ne hQ.1 HK14.out (by decide)
  exact ⟨e1, e2, csT, hQ.zero (blk_far (p := ⟨w.heap.size, 2, none⟩) (blk_far (p := ⟨w.heap.size, 1, none⟩) hQ.1 hneT _) hneT _)⟩)
 clear hcT hT1 hT2 hT3 hQT s1 s2 f1 f2 HK14 HK24 HB4 HQS HRT HKt HZ HR3 HKs HY HK13 HK23 HB3 hHeld y0 y1 y2 HK1 HK2 HB0 HB1
 generalize (w4.setCell ⟨w.heap.size, 1, none⟩ (.slice (some ⟨gS, 0, none⟩) st.length capS)).setCell ⟨w.heap.size, 2, none⟩ (.slice B2 tr.length capT) = w5 at HK15 HK25 HB5 HQ5 HT5 HQT5 ⊢
 have z1 : w5.cell? ⟨w.heap.size, 1, none⟩ = some (.slice (some ⟨gS, 0, none⟩) st.length capS) := blk_cell HK15.out 1
 go_wp2_with fail
 go_loopw [18] (fun i wr => ∃ (q : Nat) (cs : Array Value), i = .int .i64 q ∧ q ≤ st.length ∧ Hid (wr.heap[w.heap.size]? = some (.cells #[.int .i64 v, (.slice (some ⟨gS, 0, none⟩) st.length capS), (.slice B2 tr.length capT)] 25 (0, 0))) ∧ Hid (wr.heap[w.heap.size + 1]? = some (.cells #[.int .i64 0, .slice none 0 0, .slice none 0 0] 25 (0, 0))) ∧ Hid (Below w.heap.size w wr) ∧ Hid (RowQ PAll.k66 66 w wr w.heap.size (But gS gT w.heap.size (w.heap.size + 1)) gS cs st q) ∧ Hid (∃ cells t, wr.heap[gT]? = some (.cells cells t (0, 0)) ∧ 3 ≠ t ∧ 125 ≠ t ∧ 66 ≠ t) ∧ Hid (0 < tr.length → B2 = some ⟨gT, 0, none⟩ ∧ tr.length ≤ capT ∧ ∃ csT, RowQ PAll.k63 63 w wr w.heap.size (But gS gT w.heap.size (w.heap.size + 1)) gT csT tr 0)) (fun i _ => st.length - (intOf i).toNat)
 case atStart => exact ⟨0, csS, rfl, Nat.zero_le _, HK15, HK25, HB5, HQ5, HT5, HQT5⟩
 case round =>
  clear HK15 HK25 HB5 HQ5 HT5 HQT5 z1
  obtain ⟨q, cs, rfl, hq, HK1, HK2, HB, HQ, HTy, HQT⟩ := hrel
  have z1 : wr.cell? ⟨w.heap.size, 1, none⟩ = some (.slice (some ⟨gS, 0, none⟩) st.length capS) := blk_cell HK1.out 1
  by_cases hlt : q < st.length
  ·have p1 : ((q : Int) < (st.length : Int)) = True := eq_true (by omega)
   have p0 : (0 ≤ (q : Int)) = True := eq_true (by omega)
   obtain ⟨c, hcl, hcs, _, hK0⟩ := HQ.out.2 q st[q] (List.getElem?_eq_getElem hlt)
   obtain ⟨A2, c2, A3, c3, A4, c4, rfl, l2, g2, l3, g3, l4, g4⟩ := PAll.k66_open (hK0 (Nat.le_refl _))
   have HL := Lib.hid (HSl.out st[q] (List.getElem_mem hlt))
   have HX := Lib.hid (List.getElem?_eq_getElem hlt)
   generalize st[q] = x at *
   obtain ⟨k, pp, f2, f3, f4⟩ := x
   simp only at l2 g2 l3 g3 l4 g4 hcs
   have b2 : wr.cell? ⟨gS, q * 5 + 2, none⟩ = some (.slice A2 f2.length c2) := by rw [blk_cell HQ.out.1]; exact hcs 2 _ rfl
   have b3 : wr.cell? ⟨gS, q * 5 + 3, none⟩ = some (.slice A3 f3.length c3) := by rw [blk_cell HQ.out.1]; exact hcs 3 _ rfl
   have b4 : wr.cell? ⟨gS, q * 5 + 4, none⟩ = some (.slice A4 f4.length c4) := by rw [blk_cell HQ.out.1]; exact hcs 4 _ rfl
   have HC := Lib.hid hcs
   have HBd := Lib.hid (below_drew HB.out)
   have HGd : Hid (wr.drew.heap[gS]? = some (.cells cs 66 (0, 0))) := Lib.hid HQ.out.1
   have G2 := Lib.hid g2
   have G3 := Lib.hid g3
   have G4 := Lib.hid g4
   clear hcl hcs hK0 g2 g3 g4
   go_wp2_with fail
   refine start_ (n := 27) (S := fun w' => w'.cell? ⟨gS, q * 5 + 2, none⟩ = some (.slice A2 f2.length c2) ∧ w'.cell? ⟨gS, q * 5 + 3, none⟩ = some (.slice A3 f3.length c3) ∧ w'.cell? ⟨gS, q * 5 + 4, none⟩ = some (.slice A4 f4.length c4)) (ds := [17, 20, 23, 26]) (tf27 0) (by kernel_rfl) rfl (by kernel_rfl) ⟨b2, b3, b4⟩ (fun hHeld => ?_)
   iterate 6
    refine pxt_ (v := ?_) (a' := ?_) rfl rfl (by kernel_rfl) (fun _ _ _ h => h) (Or.inl ⟨by rfl, ?_⟩) ?_ ?_
    rotate_left
    ·intro w'
     go_simp
     first | done | with_reducible rfl
    rotate_left
    ·simp only [Act.put, List.setIfInBounds_toArray, List.set_cons_zero, List.set_cons_succ, i64_w, i32_w]
     first | done | rfl
   refine nxt_ (v := ?_) (a' := ?_) rfl rfl (by kernel_rfl) (fun _ _ _ h => h) (Or.inl ⟨by rfl, ?_⟩) hHeld ?_ ?_
   rotate_left
   ·rintro w' ⟨s0, s1, s2⟩
    go_simp
    first | done | with_reducible rfl
   rotate_left
   ·simp only [Act.put, List.setIfInBounds_toArray, List.set_cons_zero, List.set_cons_succ, i64_w, i32_w]
    first | done | rfl
   refine pure_ (i := 8) (N := some 33) (v := ?_) (a' := ?_) (bm27 383) rfl rfl (by kernel_rfl) (fun _ _ _ h => h) (Or.inl ⟨by rfl, ?_⟩) ?_ ?_
   rotate_left
   ·intro w'
    go_simp
    with_reducible rfl
   rotate_left
   ·simp only [Act.put, List.setIfInBounds_toArray, List.set_cons_zero, List.set_cons_succ, i64_w, i32_w]
    rfl
   refine pure_ (i := 9) (N := some 34) (v := ?_) (a' := ?_) (bm27 895) rfl rfl (by kernel_rfl) (fun _ _ _ h => h) (Or.inl ⟨by rfl, ?_⟩) ?_ ?_
   rotate_left
   ·intro w'
    go_simp
    with_reducible rfl
   rotate_left
   ·simp only [Act.put, List.setIfInBounds_toArray, List.set_cons_zero, List.set_cons_succ, i64_w, i32_w]
    rfl
   refine pure_ (i := 10) (N := some 35) (v := ?_) (a' := ?_) (bm27 1919) rfl rfl (by kernel_rfl) (fun _ _ _ h => h) (Or.inl ⟨by rfl, ?_⟩) ?_ ?_
   rotate_left
   ·intro w'
    go_simp
    with_reducible rfl
   rotate_left
   ·simp only [Act.put, List.setIfInBounds_toArray, List.set_cons_zero, List.set_cons_succ, i64_w, i32_w]
    rfl
   refine take_ (i := 11) (N := some 36) (v := ?_) (a' := ?_) (bm27 3967) rfl rfl (by kernel_rfl) (fun _ _ _ h => h) (Or.inl ⟨by rfl, ?_⟩) hHeld ?_ ?_
   rotate_left
   ·rintro w' ⟨s0, s1, s2⟩
    go_simp
    with_reducible rfl
   rotate_left
   ·simp only [Act.put, List.setIfInBounds_toArray, List.set_cons_zero, List.set_cons_succ, i64_w, i32_w]
    rfl
   refine pure_ (i := 13) (N := some 38) (v := ?_) (a' := ?_) (bm27 12159) rfl rfl (by kernel_rfl) (fun _ _ _ h => h) (Or.inl ⟨by rfl, ?_⟩) ?_ ?_
   rotate_left
   ·intro w'
    go_simp
    with_reducible rfl
   rotate_left
   ·simp only [Act.put, List.setIfInBounds_toArray, List.set_cons_zero, List.set_cons_succ, i64_w, i32_w]
    rfl
   refine pure_ (i := 14) (N := some 39) (v := ?_) (a' := ?_) (bm27 28543) rfl rfl (by kernel_rfl) (fun _ _ _ h => h) (Or.inl ⟨by rfl, ?_⟩) ?_ ?_
   rotate_left
   ·intro w'
    go_simp
    with_reducible rfl
   rotate_left
   ·simp only [Act.put, List.setIfInBounds_toArray, List.set_cons_zero, List.set_cons_succ, i64_w, i32_w]
    rfl
   refine pure_ (i := 15) (N := some 40) (v := ?_) (a' := ?_) (bm27 61311) rfl rfl (by kernel_rfl) (fun _ _ _ h => h) (Or.inl ⟨by rfl, ?_⟩) ?_ ?_
   rotate_left
   ·intro w'
    go_simp
    with_reducible rfl
   rotate_left
   ·simp only [Act.put, List.setIfInBounds_toArray, List.set_cons_zero, List.set_cons_succ, i64_w, i32_w]
    rfl
   refine take_ (i := 16) (N := some 41) (v := ?_) (a' := ?_) (bm27 126847) rfl rfl (by kernel_rfl) (fun _ _ _ h => h) (Or.inl ⟨by rfl, ?_⟩) hHeld ?_ ?_
   rotate_left
   ·rintro w' ⟨s0, s1, s2⟩
    go_simp
    with_reducible rfl
   rotate_left
   ·simp only [Act.put, List.setIfInBounds_toArray, List.set_cons_zero, List.set_cons_succ, i64_w, i32_w]
    rfl
   refine one_ (i := 7) (N := some 32) (bm27 126975) rfl rfl (by kernel_rfl) (by decide) (fun K hK => ?_)
   refine goes_ Tryz.func75 (by kernel_rfl) rfl #[.slice A2 f2.length c2] (by rfl) rfl rfl (by first | rfl | (go_simp; done) | (go_simp; exact ⟨rfl, rfl⟩) | (go_simp; rfl)) ?_
   refine (cloneIn A2 c2 f2.length f2 rfl _ l2 (Kd.C_below G2.out HBd.out) (by have := HL.out; omega)).mono ?_
   rintro e6 w6 ⟨u, rfl, hR, hb⟩
   have hk := (hb.block gS (lt_of_block HGd.out)).trans HGd.out
   refine ⟨_, rfl, hK.out _ _ ⟨by rw [blk_cell hk]; exact HC.out 2 _ rfl, by rw [blk_cell hk]; exact HC.out 3 _ rfl, by rw [blk_cell hk]; exact HC.out 4 _ rfl⟩ (fun _ => ?_)⟩
   clear hK K
   obtain ⟨U2, n2, rfl⟩ := Kd.R_slice hR
   have HR2 := Lib.hid (Kd.R_lower hR HBd.out.size)
   have HB6 := Lib.hid (HBd.out.trans (hb.mono HBd.out.size))
   have HG6 := Lib.hid hk
   have HS6 := Lib.hid hb
   clear hb hR hk
   refine one_ (i := 12) (N := some 37) (tf27 17) rfl rfl (by kernel_rfl) (by decide) (fun K hK => ?_)
   refine goes_ Tryz.func84 (by kernel_rfl) rfl #[.slice A3 f3.length c3] (by rfl) rfl rfl (by first | rfl | (go_simp; done) | (go_simp; exact ⟨rfl, rfl⟩) | (go_simp; rfl)) ?_
   refine (cloneActs A3 c3 f3.length f3 rfl _ l3 (Kd.C_below G3.out HB6.out) (by have := HL.out; omega)).mono ?_
   rintro e7 w7 ⟨u, rfl, hR, hb⟩
   have hk := (hb.block gS (lt_of_block HG6.out)).trans HG6.out
   refine ⟨_, rfl, hK.out _ _ ⟨by rw [blk_cell hk]; exact HC.out 2 _ rfl, by rw [blk_cell hk]; exact HC.out 3 _ rfl, by rw [blk_cell hk]; exact HC.out 4 _ rfl⟩ (fun _ => ?_)⟩
   clear hK K
   obtain ⟨U3, n3, rfl⟩ := Kd.R_slice hR
   have HR3 := Lib.hid (Kd.R_lower hR HB6.out.size)
   have HB7 := Lib.hid (HB6.out.trans (hb.mono HB6.out.size))
   have HG7 := Lib.hid hk
   have HS7 := Lib.hid hb
   clear hb hR hk
   refine last_ (i := 17) (N := some 42) (tf27 18) rfl rfl (by kernel_rfl) (by decide) (fun K hK => ?_)
   refine goes_ Tryz.func84 (by kernel_rfl) rfl #[.slice A4 f4.length c4] (by rfl) rfl rfl (by first | rfl | (go_simp; done) | (go_simp; exact ⟨rfl, rfl⟩) | (go_simp; rfl)) ?_
   refine (cloneActs A4 c4 f4.length f4 rfl _ l4 (Kd.C_below G4.out HB7.out) (by have := HL.out; omega)).mono ?_
   rintro e8 w8 ⟨u, rfl, hR, hb⟩
   have hk := (hb.block gS (lt_of_block HG7.out)).trans HG7.out
   refine ⟨_, rfl, hK.out _ _ ?_⟩
   clear hK K
   obtain ⟨U4, n4, rfl⟩ := Kd.R_slice hR
   have HR4 := Lib.hid (Kd.R_lower hR HB7.out.size)
   have HB8 := Lib.hid (HB7.out.trans (hb.mono HB7.out.size))
   have HG8 := Lib.hid hk
   have HS8 := Lib.hid hb
   clear hb hR hk
   have t2 : w8.cell? ⟨gS, q * 5 + 2, none⟩ = some (.slice A2 f2.length c2) := by rw [blk_cell HG8.out]; exact HC.out 2 _ rfl
   have t3 : w8.cell? ⟨gS, q * 5 + 3, none⟩ = some (.slice A3 f3.length c3) := by rw [blk_cell HG8.out]; exact HC.out 3 _ rfl
   have t4 : w8.cell? ⟨gS, q * 5 + 4, none⟩ = some (.slice A4 f4.length c4) := by rw [blk_cell HG8.out]; exact HC.out 4 _ rfl
   have r2 : w8.frozen? ⟨gS, q * 5 + 2, none⟩ = false := blk_free HG8.out _
   have r3 : w8.frozen? ⟨gS, q * 5 + 3, none⟩ = false := blk_free HG8.out _
   have r4 : w8.frozen? ⟨gS, q * 5 + 4, none⟩ = false := blk_free HG8.out _
   iterate 2
    refine pxt_ (v := ?_) (a' := ?_) rfl rfl (by kernel_rfl) (fun _ _ _ h => h) (Or.inl ⟨by rfl, ?_⟩) ?_ ?_
    rotate_left
    ·intro w'
     go_simp
     first | done | with_reducible rfl
    rotate_left
    ·simp only [Act.put, List.setIfInBounds_toArray, List.set_cons_zero, List.set_cons_succ, i64_w, i32_w]
     first | done | rfl
   refine last_ (i := 20) (N := none) (tf27 21) rfl rfl (by kernel_rfl) (by decide) (fun K hK => ?_)
   refine skip_ (w1 := ?_) (by rfl) rfl ?_ ?_
   rotate_left
   ·go_simp
    rfl
   refine hK.out _ _ ?_
   clear hK K
   iterate 2
    refine pxt_ (v := ?_) (a' := ?_) rfl rfl (by kernel_rfl) (fun _ _ _ h => h) (Or.inl ⟨by rfl, ?_⟩) ?_ ?_
    rotate_left
    ·intro w'
     go_simp
     first | done | with_reducible rfl
    rotate_left
    ·simp only [Act.put, List.setIfInBounds_toArray, List.set_cons_zero, List.set_cons_succ, i64_w, i32_w]
     first | done | rfl
   refine last_ (i := 23) (N := none) (tf27 24) rfl rfl (by kernel_rfl) (by decide) (fun K hK => ?_)
   refine skip_ (w1 := ?_) (by rfl) rfl ?_ ?_
   rotate_left
   ·go_simp
    rfl
   refine hK.out _ _ ?_
   clear hK K
   iterate 2
    refine pxt_ (v := ?_) (a' := ?_) rfl rfl (by kernel_rfl) (fun _ _ _ h => h) (Or.inl ⟨by rfl, ?_⟩) ?_ ?_
    rotate_left
    ·intro w'
     go_simp
     first | done | with_reducible rfl
    rotate_left
    ·simp only [Act.put, List.setIfInBounds_toArray, List.set_cons_zero, List.set_cons_succ, i64_w, i32_w]
     first | done | rfl
   refine last_ (i := 26) (N := none) (tf27 27) rfl rfl (by kernel_rfl) (by decide) (fun K hK => ?_)
   refine skip_ (w1 := ?_) (by rfl) rfl ?_ ?_
   rotate_left
   ·go_simp
    rfl
   refine hK.out _ _ ?_
   clear hK K
   refine done_ (by kernel_rfl) ?_
   have hbk := fun (k : Nat) (hk : k < wr.heap.size) => ((HS8.out.block k (Nat.lt_of_lt_of_le hk (Nat.le_trans HS6.out.size HS7.out.size))).trans (HS7.out.block k (Nat.lt_of_lt_of_le hk HS6.out.size))).trans (HS6.out.block k hk)
   have K18 : w8.heap[w.heap.size]? = some (.cells #[.int .i64 v, (.slice (some ⟨gS, 0, none⟩) st.length capS), (.slice B2 tr.length capT)] 25 (0, 0)) := (hbk _ (lt_of_block HK1.out)).trans HK1.out
   have K28 : w8.heap[w.heap.size + 1]? = some (.cells #[.int .i64 0, .slice none 0 0, .slice none 0 0] 25 (0, 0)) := (hbk _ (lt_of_block HK2.out)).trans HK2.out
   obtain ⟨cT, tT, hcT, hT1, hT2, hT3⟩ := HTy.out
   have T8 : w8.heap[gT]? = some (.cells cT tT (0, 0)) := (hbk _ (lt_of_block hcT)).trans hcT
   have hneST : gT ≠ gS := fun e => blk_ne HG8.out T8 hT3 e.symm
   have hne1 : w.heap.size ≠ gS := fun e => hneS e.symm
   have hne2 : w.heap.size + 1 ≠ gS := fun e => hneS2 e.symm
   have R2 := but_R (Kd.R_below (Kd.R_below HR2.out HS7.out) HS8.out) HG8.out T8 K18 K28 (but_int ⟨by decide, hT1, by decide, by decide⟩)
   have R3 := but_R (Kd.R_below HR3.out HS8.out) HG8.out T8 K18 K28 (but_act ⟨by decide, hT2, by decide, by decide⟩)
   have R4 := but_R HR4.out HG8.out T8 K18 K28 (but_act ⟨by decide, hT2, by decide, by decide⟩)
   have hMq : PAll.k66.M (((w8.setCell ⟨gS, q * 5 + 2, none⟩ (.slice U2 f2.length n2)).setCell ⟨gS, q * 5 + 3, none⟩ (.slice U3 f3.length n3)).setCell ⟨gS, q * 5 + 4, none⟩ (.slice U4 f4.length n4)) w.heap.size (But gS gT w.heap.size (w.heap.size + 1)) (⟨k, pp, f2, f3, f4⟩ : Sta) [.int .i64 k, .int .i64 pp, .slice U2 f2.length n2, .slice U3 f3.length n3, .slice U4 f4.length n4] :=
    PAll.k66_mkM _ _ _ _ (Kd.R_far (p := ⟨gS, q * 5 + 4, none⟩) (Kd.R_far (p := ⟨gS, q * 5 + 3, none⟩) (Kd.R_far (p := ⟨gS, q * 5 + 2, none⟩) R2 (fun k hk => hk.1) _) (fun k hk => hk.1) _) (fun k hk => hk.1) _) (Kd.R_far (p := ⟨gS, q * 5 + 4, none⟩) (Kd.R_far (p := ⟨gS, q * 5 + 3, none⟩) (Kd.R_far (p := ⟨gS, q * 5 + 2, none⟩) R3 (fun k hk => hk.1) _) (fun k hk => hk.1) _) (fun k hk => hk.1) _) (Kd.R_far (p := ⟨gS, q * 5 + 4, none⟩) (Kd.R_far (p := ⟨gS, q * 5 + 3, none⟩) (Kd.R_far (p := ⟨gS, q * 5 + 2, none⟩) R4 (fun k hk => hk.1) _) (fun k hk => hk.1) _) (fun k hk => hk.1) _)
   have hm9 : ∀ j, But gS gT w.heap.size (w.heap.size + 1) j → j < wr.heap.size → (((w8.setCell ⟨gS, q * 5 + 2, none⟩ (.slice U2 f2.length n2)).setCell ⟨gS, q * 5 + 3, none⟩ (.slice U3 f3.length n3)).setCell ⟨gS, q * 5 + 4, none⟩ (.slice U4 f4.length n4)).heap[j]? = wr.heap[j]? := fun j hj hlt => ((Below.heap_setCell _ ⟨gS, q * 5 + 4, none⟩ _ j hj.1).trans ((Below.heap_setCell _ ⟨gS, q * 5 + 3, none⟩ _ j hj.1).trans (Below.heap_setCell _ ⟨gS, q * 5 + 2, none⟩ _ j hj.1))).trans (hbk j hlt)
   have hg9 : (((w8.setCell ⟨gS, q * 5 + 2, none⟩ (.slice U2 f2.length n2)).setCell ⟨gS, q * 5 + 3, none⟩ (.slice U3 f3.length n3)).setCell ⟨gS, q * 5 + 4, none⟩ (.slice U4 f4.length n4)).heap[gS]? = some (.cells ((((cs.setIfInBounds (q * 5 + 2) (.slice U2 f2.length n2)).setIfInBounds (q * 5 + 3) (.slice U3 f3.length n3)).setIfInBounds (q * 5 + 4) (.slice U4 f4.length n4))) 66 (0, 0)) := blk_set (blk_set (blk_set HG8.out _ _) _ _) _ _
   have i2 := (Array.getElem?_eq_some_iff.1 (HC.out 2 _ rfl)).1
   have i3 := (Array.getElem?_eq_some_iff.1 (HC.out 3 _ rfl)).1
   have i4 := (Array.getElem?_eq_some_iff.1 (HC.out 4 _ rfl)).1
   have hd5 : PAll.k66.sz = 5 := rfl
   rw [hd5] at i2 i3 i4
   have hc9 : ∀ (i : Nat) (u : Value), ([.int .i64 k, .int .i64 pp, .slice U2 f2.length n2, .slice U3 f3.length n3, .slice U4 f4.length n4] : List Value)[i]? = some u → ((((cs.setIfInBounds (q * 5 + 2) (.slice U2 f2.length n2)).setIfInBounds (q * 5 + 3) (.slice U3 f3.length n3)).setIfInBounds (q * 5 + 4) (.slice U4 f4.length n4)))[q * PAll.k66.sz + i]? = some u := by
    intro i u hu
    rw [hd5]
    match i, hu with
    | 0, hu => have := HC.out 0 _ rfl; rw [hd5] at this; simp only [Array.getElem?_setIfInBounds]; rw [if_neg (by omega), if_neg (by omega), if_neg (by omega)]; simp at hu; subst hu; exact this
    | 1, hu => have := HC.out 1 _ rfl; rw [hd5] at this; simp only [Array.getElem?_setIfInBounds]; rw [if_neg (by omega), if_neg (by omega), if_neg (by omega)]; simp at hu; subst hu; exact this
    | 2, hu => simp at hu; subst hu; simp [Array.getElem?_setIfInBounds, i2]
    | 3, hu => simp at hu; subst hu; simp [Array.getElem?_setIfInBounds, i3]
    | 4, hu => simp at hu; subst hu; simp [Array.getElem?_setIfInBounds, i4]
    | n + 5, hu => simp at hu
   have ho9 : ∀ p, p < q * PAll.k66.sz ∨ q * PAll.k66.sz + PAll.k66.sz ≤ p → ((((cs.setIfInBounds (q * 5 + 2) (.slice U2 f2.length n2)).setIfInBounds (q * 5 + 3) (.slice U3 f3.length n3)).setIfInBounds (q * 5 + 4) (.slice U4 f4.length n4)))[p]? = cs[p]? := by
    intro p hp
    rw [hd5] at hp
    simp only [Array.getElem?_setIfInBounds]
    rw [if_neg (by omega), if_neg (by omega), if_neg (by omega)]
   have HQ9 := Lib.hid (HQ.out.put HX.out hm9 hg9 rfl hc9 hMq ho9)
   have HK19 : Hid ((((w8.setCell ⟨gS, q * 5 + 2, none⟩ (.slice U2 f2.length n2)).setCell ⟨gS, q * 5 + 3, none⟩ (.slice U3 f3.length n3)).setCell ⟨gS, q * 5 + 4, none⟩ (.slice U4 f4.length n4)).heap[w.heap.size]? = some (.cells #[.int .i64 v, (.slice (some ⟨gS, 0, none⟩) st.length capS), (.slice B2 tr.length capT)] 25 (0, 0))) := Lib.hid (blk_far (p := ⟨gS, q * 5 + 4, none⟩) (blk_far (p := ⟨gS, q * 5 + 3, none⟩) (blk_far (p := ⟨gS, q * 5 + 2, none⟩) (K18) hne1 _) hne1 _) hne1 _)
   have HK29 : Hid ((((w8.setCell ⟨gS, q * 5 + 2, none⟩ (.slice U2 f2.length n2)).setCell ⟨gS, q * 5 + 3, none⟩ (.slice U3 f3.length n3)).setCell ⟨gS, q * 5 + 4, none⟩ (.slice U4 f4.length n4)).heap[w.heap.size + 1]? = some (.cells #[.int .i64 0, .slice none 0 0, .slice none 0 0] 25 (0, 0))) := Lib.hid (blk_far (p := ⟨gS, q * 5 + 4, none⟩) (blk_far (p := ⟨gS, q * 5 + 3, none⟩) (blk_far (p := ⟨gS, q * 5 + 2, none⟩) (K28) hne2 _) hne2 _) hne2 _)
   have HB9 := Lib.hid (((HB8.out.setCell (p := ⟨gS, q * 5 + 2, none⟩) hgS (.slice U2 f2.length n2)).setCell (p := ⟨gS, q * 5 + 3, none⟩) hgS (.slice U3 f3.length n3)).setCell (p := ⟨gS, q * 5 + 4, none⟩) hgS (.slice U4 f4.length n4))
   have HTy9 : Hid (∃ cells t, (((w8.setCell ⟨gS, q * 5 + 2, none⟩ (.slice U2 f2.length n2)).setCell ⟨gS, q * 5 + 3, none⟩ (.slice U3 f3.length n3)).setCell ⟨gS, q * 5 + 4, none⟩ (.slice U4 f4.length n4)).heap[gT]? = some (.cells cells t (0, 0)) ∧ 3 ≠ t ∧ 125 ≠ t ∧ 66 ≠ t) := Lib.hid ⟨_, _, blk_far (p := ⟨gS, q * 5 + 4, none⟩) (blk_far (p := ⟨gS, q * 5 + 3, none⟩) (blk_far (p := ⟨gS, q * 5 + 2, none⟩) (T8) hneST _) hneST _) hneST _, hT1, hT2, hT3⟩
   have HQT9 : Hid (0 < tr.length → B2 = some ⟨gT, 0, none⟩ ∧ tr.length ≤ capT ∧ ∃ csT, RowQ PAll.k63 63 w (((w8.setCell ⟨gS, q * 5 + 2, none⟩ (.slice U2 f2.length n2)).setCell ⟨gS, q * 5 + 3, none⟩ (.slice U3 f3.length n3)).setCell ⟨gS, q * 5 + 4, none⟩ (.slice U4 f4.length n4)) w.heap.size (But gS gT w.heap.size (w.heap.size + 1)) gT csT tr 0) := Lib.hid (fun h => by
    obtain ⟨e1, e2, csT, hQ⟩ := HQT.out h
    exact ⟨e1, e2, csT, hQ.zero (blk_far (p := ⟨gS, q * 5 + 4, none⟩) (blk_far (p := ⟨gS, q * 5 + 3, none⟩) (blk_far (p := ⟨gS, q * 5 + 2, none⟩) ((hbk _ (lt_of_block hQ.1)).trans hQ.1) hneST _) hneST _) hneST _)⟩)
   clear hbk K18 K28 hcT T8 R2 R3 R4 hMq hm9 hg9 i2 i3 i4 hd5 hc9 ho9 t2 t3 t4 r2 r3 r4 b2 b3 b4
   generalize (((w8.setCell ⟨gS, q * 5 + 2, none⟩ (.slice U2 f2.length n2)).setCell ⟨gS, q * 5 + 3, none⟩ (.slice U3 f3.length n3)).setCell ⟨gS, q * 5 + 4, none⟩ (.slice U4 f4.length n4)) = w9 at HQ9 HK19 HK29 HB9 HTy9 HQT9 ⊢
   go_wp2_with fail
   go_roundw
   case rel => exact ⟨q + 1, _, by go_num, by omega, HK19, HK29, HB9, HQ9, HTy9, HQT9⟩
   case measure => simp [intOf]; omega
  ·obtain rfl : q = st.length := by omega
   have p1 : ((st.length : Int) < (st.length : Int)) = False := eq_false (by omega)
   have z2 : wr.cell? ⟨w.heap.size, 2, none⟩ = some (.slice B2 tr.length capT) := blk_cell HK1.out 2
   have HQ1 := HQ
   have HQT1 : Hid (0 < tr.length → B2 = some ⟨gT, 0, none⟩ ∧ tr.length ≤ capT ∧ ∃ csT, RowQ PAll.k63 63 w wr w.heap.size (But gS gT w.heap.size (w.heap.size + 1)) gT csT tr 0) := HQT
   have HK11 := HK1
   have HK21 := HK2
   have HB1 := HB
   clear HK1 HK2 HB HQ HQT HTy hq hlt
   go_wp2_with fail
   go_loopw [53] (fun i wr => ∃ (q : Nat) (cs0 : Array Value), i = .int .i64 q ∧ q ≤ tr.length ∧ Hid (wr.heap[w.heap.size]? = some (.cells #[.int .i64 v, (.slice (some ⟨gS, 0, none⟩) st.length capS), (.slice B2 tr.length capT)] 25 (0, 0))) ∧ Hid (wr.heap[w.heap.size + 1]? = some (.cells #[.int .i64 0, .slice none 0 0, .slice none 0 0] 25 (0, 0))) ∧ Hid (Below w.heap.size w wr) ∧ Hid (RowQ PAll.k66 66 w wr w.heap.size (But gS gT w.heap.size (w.heap.size + 1)) gS cs0 st st.length) ∧ Hid (0 < tr.length → B2 = some ⟨gT, 0, none⟩ ∧ tr.length ≤ capT ∧ ∃ csT, RowQ PAll.k63 63 w wr w.heap.size (But gS gT w.heap.size (w.heap.size + 1)) gT csT tr q)) (fun i _ => tr.length - (intOf i).toNat)
   case atStart => exact ⟨0, cs, rfl, Nat.zero_le _, HK11, HK21, HB1, HQ1, HQT1⟩
   case round =>
    clear HK11 HK21 HB1 HQ1 HQT1 z1 z2 p1
    obtain ⟨q, cs0, rfl, hq, HK1, HK2, HB, HQ, HQT⟩ := hrel
    have z2 : wr.cell? ⟨w.heap.size, 2, none⟩ = some (.slice B2 tr.length capT) := blk_cell HK1.out 2
    by_cases hlt : q < tr.length
    ·obtain ⟨e1, hcapT, csT, HQt⟩ := HQT.out (by omega)
     subst e1
     have HQt := Lib.hid HQt
     have p1 : ((q : Int) < (tr.length : Int)) = True := eq_true (by omega)
     have p0 : (0 ≤ (q : Int)) = True := eq_true (by omega)
     obtain ⟨c, hcl, hcs, _, hK0⟩ := HQt.out.2 q tr[q] (List.getElem?_eq_getElem hlt)
     obtain ⟨A3, c3, A5, c5, rfl, l3, g3, l5, g5⟩ := PAll.k63_open (hK0 (Nat.le_refl _))
     have HL := Lib.hid (HTl.out tr[q] (List.getElem_mem hlt))
     have HX := Lib.hid (List.getElem?_eq_getElem hlt)
     generalize tr[q] = x at *
     obtain ⟨f0, f1, f2, f3, f4, f5⟩ := x
     simp only at l3 g3 l5 g5 hcs
     have b3 : wr.cell? ⟨gT, q * 6 + 3, none⟩ = some (.slice A3 f3.length c3) := by rw [blk_cell HQt.out.1]; exact hcs 3 _ rfl
     have b5 : wr.cell? ⟨gT, q * 6 + 5, none⟩ = some (.slice A5 f5.length c5) := by rw [blk_cell HQt.out.1]; exact hcs 5 _ rfl
     have HC := Lib.hid hcs
     have HBd := Lib.hid (below_drew HB.out)
     have HGd : Hid (wr.drew.heap[gT]? = some (.cells csT 63 (0, 0))) := Lib.hid HQt.out.1
     have G3 := Lib.hid g3
     have G5 := Lib.hid g5
     have hneT : gT ≠ w.heap.size := blk_ne HQt.out.1 HK1.out (by decide)
     have hneT2 : gT ≠ w.heap.size + 1 := blk_ne HQt.out.1 HK2.out (by decide)
     clear hcl hcs hK0 g3 g5
     go_wp2_with fail
     refine start_ (n := 18) (S := fun w' => w'.cell? ⟨gT, q * 6 + 3, none⟩ = some (.slice A3 f3.length c3) ∧ w'.cell? ⟨gT, q * 6 + 5, none⟩ = some (.slice A5 f5.length c5)) (ds := [11, 14, 17]) (tf18 0) (by kernel_rfl) rfl (by kernel_rfl) ⟨b3, b5⟩ (fun hHeld => ?_)
     iterate 5
      refine pxt_ (v := ?_) (a' := ?_) rfl rfl (by kernel_rfl) (fun _ _ _ h => h) (Or.inl ⟨by rfl, ?_⟩) ?_ ?_
      rotate_left
      ·intro w'
       go_simp
       first | done | with_reducible rfl
      rotate_left
      ·simp only [Act.put, List.setIfInBounds_toArray, List.set_cons_zero, List.set_cons_succ, i64_w, i32_w]
       first | done | rfl
     refine nxt_ (v := ?_) (a' := ?_) rfl rfl (by kernel_rfl) (fun _ _ _ h => h) (Or.inl ⟨by rfl, ?_⟩) hHeld ?_ ?_
     rotate_left
     ·rintro w' ⟨s0, s1⟩
      go_simp
      first | done | with_reducible rfl
     rotate_left
     ·simp only [Act.put, List.setIfInBounds_toArray, List.set_cons_zero, List.set_cons_succ, i64_w, i32_w]
      first | done | rfl
     refine pure_ (i := 7) (N := some 67) (v := ?_) (a' := ?_) (bm18 191) rfl rfl (by kernel_rfl) (fun _ _ _ h => h) (Or.inl ⟨by rfl, ?_⟩) ?_ ?_
     rotate_left
     ·intro w'
      go_simp
      with_reducible rfl
     rotate_left
     ·simp only [Act.put, List.setIfInBounds_toArray, List.set_cons_zero, List.set_cons_succ, i64_w, i32_w]
      rfl
     refine pure_ (i := 8) (N := some 68) (v := ?_) (a' := ?_) (bm18 447) rfl rfl (by kernel_rfl) (fun _ _ _ h => h) (Or.inl ⟨by rfl, ?_⟩) ?_ ?_
     rotate_left
     ·intro w'
      go_simp
      with_reducible rfl
     rotate_left
     ·simp only [Act.put, List.setIfInBounds_toArray, List.set_cons_zero, List.set_cons_succ, i64_w, i32_w]
      rfl
     refine pure_ (i := 9) (N := some 69) (v := ?_) (a' := ?_) (bm18 959) rfl rfl (by kernel_rfl) (fun _ _ _ h => h) (Or.inl ⟨by rfl, ?_⟩) ?_ ?_
     rotate_left
     ·intro w'
      go_simp
      with_reducible rfl
     rotate_left
     ·simp only [Act.put, List.setIfInBounds_toArray, List.set_cons_zero, List.set_cons_succ, i64_w, i32_w]
      rfl
     refine take_ (i := 10) (N := some 70) (v := ?_) (a' := ?_) (bm18 1983) rfl rfl (by kernel_rfl) (fun _ _ _ h => h) (Or.inl ⟨by rfl, ?_⟩) hHeld ?_ ?_
     rotate_left
     ·rintro w' ⟨s0, s1⟩
      go_simp
      with_reducible rfl
     rotate_left
     ·simp only [Act.put, List.setIfInBounds_toArray, List.set_cons_zero, List.set_cons_succ, i64_w, i32_w]
      rfl
     refine one_ (i := 6) (N := some 66) (tf18 11) rfl rfl (by kernel_rfl) (by decide) (fun K hK => ?_)
     refine goes_ Tryz.func75 (by kernel_rfl) rfl #[.slice A3 f3.length c3] (by rfl) rfl rfl (by first | rfl | (go_simp; done) | (go_simp; exact ⟨rfl, rfl⟩) | (go_simp; rfl)) ?_
     refine (cloneIn A3 c3 f3.length f3 rfl _ l3 (Kd.C_below G3.out HBd.out) (by have := HL.out; omega)).mono ?_
     rintro e6 w6 ⟨u, rfl, hR, hb⟩
     have hk := (hb.block gT (lt_of_block HGd.out)).trans HGd.out
     refine ⟨_, rfl, hK.out _ _ ⟨by rw [blk_cell hk]; exact HC.out 3 _ rfl, by rw [blk_cell hk]; exact HC.out 5 _ rfl⟩ (fun _ => ?_)⟩
     clear hK K
     obtain ⟨U3, n3, rfl⟩ := Kd.R_slice hR
     have HR3 := Lib.hid (Kd.R_lower hR HBd.out.size)
     have HB6 := Lib.hid (HBd.out.trans (hb.mono HBd.out.size))
     have HG6 := Lib.hid hk
     have HS6 := Lib.hid hb
     clear hb hR hk
     refine last_ (i := 11) (N := some 71) (tf18 12) rfl rfl (by kernel_rfl) (by decide) (fun K hK => ?_)
     refine goes_ Tryz.func84 (by kernel_rfl) rfl #[.slice A5 f5.length c5] (by rfl) rfl rfl (by first | rfl | (go_simp; done) | (go_simp; exact ⟨rfl, rfl⟩) | (go_simp; rfl)) ?_
     refine (cloneActs A5 c5 f5.length f5 rfl _ l5 (Kd.C_below G5.out HB6.out) (by have := HL.out; omega)).mono ?_
     rintro e7 w7 ⟨u, rfl, hR, hb⟩
     have hk := (hb.block gT (lt_of_block HG6.out)).trans HG6.out
     refine ⟨_, rfl, hK.out _ _ ?_⟩
     clear hK K
     obtain ⟨U5, n5, rfl⟩ := Kd.R_slice hR
     have HR5 := Lib.hid (Kd.R_lower hR HB6.out.size)
     have HB7 := Lib.hid (HB6.out.trans (hb.mono HB6.out.size))
     have HG7 := Lib.hid hk
     have HS7 := Lib.hid hb
     clear hb hR hk
     have t3 : w7.cell? ⟨gT, q * 6 + 3, none⟩ = some (.slice A3 f3.length c3) := by rw [blk_cell HG7.out]; exact HC.out 3 _ rfl
     have t5 : w7.cell? ⟨gT, q * 6 + 5, none⟩ = some (.slice A5 f5.length c5) := by rw [blk_cell HG7.out]; exact HC.out 5 _ rfl
     have r3 : w7.frozen? ⟨gT, q * 6 + 3, none⟩ = false := blk_free HG7.out _
     have r5 : w7.frozen? ⟨gT, q * 6 + 5, none⟩ = false := blk_free HG7.out _
     iterate 2
      refine pxt_ (v := ?_) (a' := ?_) rfl rfl (by kernel_rfl) (fun _ _ _ h => h) (Or.inl ⟨by rfl, ?_⟩) ?_ ?_
      rotate_left
      ·intro w'
       go_simp
       first | done | with_reducible rfl
      rotate_left
      ·simp only [Act.put, List.setIfInBounds_toArray, List.set_cons_zero, List.set_cons_succ, i64_w, i32_w]
       first | done | rfl
     refine last_ (i := 14) (N := none) (tf18 15) rfl rfl (by kernel_rfl) (by decide) (fun K hK => ?_)
     refine skip_ (w1 := ?_) (by rfl) rfl ?_ ?_
     rotate_left
     ·go_simp
      rfl
     refine hK.out _ _ ?_
     clear hK K
     iterate 2
      refine pxt_ (v := ?_) (a' := ?_) rfl rfl (by kernel_rfl) (fun _ _ _ h => h) (Or.inl ⟨by rfl, ?_⟩) ?_ ?_
      rotate_left
      ·intro w'
       go_simp
       first | done | with_reducible rfl
      rotate_left
      ·simp only [Act.put, List.setIfInBounds_toArray, List.set_cons_zero, List.set_cons_succ, i64_w, i32_w]
       first | done | rfl
     refine last_ (i := 17) (N := none) (tf18 18) rfl rfl (by kernel_rfl) (by decide) (fun K hK => ?_)
     refine skip_ (w1 := ?_) (by rfl) rfl ?_ ?_
     rotate_left
     ·go_simp
      rfl
     refine hK.out _ _ ?_
     clear hK K
     refine done_ (by kernel_rfl) ?_
     have hbk := fun (k : Nat) (hk : k < wr.heap.size) => (HS7.out.block k (Nat.lt_of_lt_of_le hk HS6.out.size)).trans (HS6.out.block k hk)
     have K18 : w7.heap[w.heap.size]? = some (.cells #[.int .i64 v, (.slice (some ⟨gS, 0, none⟩) st.length capS), (.slice (some ⟨gT, 0, none⟩) tr.length capT)] 25 (0, 0)) := (hbk _ (lt_of_block HK1.out)).trans HK1.out
     have K28 : w7.heap[w.heap.size + 1]? = some (.cells #[.int .i64 0, .slice none 0 0, .slice none 0 0] 25 (0, 0)) := (hbk _ (lt_of_block HK2.out)).trans HK2.out
     have S8 : w7.heap[gS]? = some (.cells cs0 66 (0, 0)) := (hbk _ (lt_of_block HQ.out.1)).trans HQ.out.1
     have hneST : gS ≠ gT := blk_ne HQ.out.1 HQt.out.1 (by decide)
     have hne1 : w.heap.size ≠ gT := fun e => hneT e.symm
     have hne2 : w.heap.size + 1 ≠ gT := fun e => hneT2 e.symm
     have R3 := but_R (Kd.R_below HR3.out HS7.out) S8 HG7.out K18 K28 (but_int ⟨by decide, by decide, by decide, by decide⟩)
     have R5 := but_R HR5.out S8 HG7.out K18 K28 (but_act ⟨by decide, by decide, by decide, by decide⟩)
     have hMq : PAll.k63.M ((w7.setCell ⟨gT, q * 6 + 3, none⟩ (.slice U3 f3.length n3)).setCell ⟨gT, q * 6 + 5, none⟩ (.slice U5 f5.length n5)) w.heap.size (But gS gT w.heap.size (w.heap.size + 1)) (⟨f0, f1, f2, f3, f4, f5⟩ : Tra) [.int .i64 f0, .int .i64 f1, .string f2, .slice U3 f3.length n3, .bool f4, .slice U5 f5.length n5] :=
      PAll.k63_mkM _ _ _ _ (Kd.R_far (p := ⟨gT, q * 6 + 5, none⟩) (Kd.R_far (p := ⟨gT, q * 6 + 3, none⟩) R3 (fun k hk => hk.2.1) _) (fun k hk => hk.2.1) _) (Kd.R_far (p := ⟨gT, q * 6 + 5, none⟩) (Kd.R_far (p := ⟨gT, q * 6 + 3, none⟩) R5 (fun k hk => hk.2.1) _) (fun k hk => hk.2.1) _)
     have hm9 : ∀ j, (But gS gT w.heap.size (w.heap.size + 1)) j → j < wr.heap.size → ((w7.setCell ⟨gT, q * 6 + 3, none⟩ (.slice U3 f3.length n3)).setCell ⟨gT, q * 6 + 5, none⟩ (.slice U5 f5.length n5)).heap[j]? = wr.heap[j]? := fun j hj hlt => ((Below.heap_setCell _ ⟨gT, q * 6 + 5, none⟩ _ j hj.2.1).trans (Below.heap_setCell _ ⟨gT, q * 6 + 3, none⟩ _ j hj.2.1)).trans (hbk j hlt)
     have hg9 : ((w7.setCell ⟨gT, q * 6 + 3, none⟩ (.slice U3 f3.length n3)).setCell ⟨gT, q * 6 + 5, none⟩ (.slice U5 f5.length n5)).heap[gT]? = some (.cells ((csT.setIfInBounds (q * 6 + 3) (.slice U3 f3.length n3)).setIfInBounds (q * 6 + 5) (.slice U5 f5.length n5)) 63 (0, 0)) := blk_set (blk_set HG7.out _ _) _ _
     have i3 := (Array.getElem?_eq_some_iff.1 (HC.out 3 _ rfl)).1
     have i5 := (Array.getElem?_eq_some_iff.1 (HC.out 5 _ rfl)).1
     have hd6 : PAll.k63.sz = 6 := rfl
     rw [hd6] at i3 i5
     have hc9 : ∀ (i : Nat) (u : Value), ([.int .i64 f0, .int .i64 f1, .string f2, .slice U3 f3.length n3, .bool f4, .slice U5 f5.length n5] : List Value)[i]? = some u → ((csT.setIfInBounds (q * 6 + 3) (.slice U3 f3.length n3)).setIfInBounds (q * 6 + 5) (.slice U5 f5.length n5))[q * PAll.k63.sz + i]? = some u := by
      intro i u hu
      rw [hd6]
      match i, hu with
      | 0, hu => have := HC.out 0 _ rfl; rw [hd6] at this; simp only [Array.getElem?_setIfInBounds]; rw [if_neg (by omega), if_neg (by omega)]; simp at hu; subst hu; exact this
      | 1, hu => have := HC.out 1 _ rfl; rw [hd6] at this; simp only [Array.getElem?_setIfInBounds]; rw [if_neg (by omega), if_neg (by omega)]; simp at hu; subst hu; exact this
      | 2, hu => have := HC.out 2 _ rfl; rw [hd6] at this; simp only [Array.getElem?_setIfInBounds]; rw [if_neg (by omega), if_neg (by omega)]; simp at hu; subst hu; exact this
      | 3, hu => simp at hu; subst hu; simp [Array.getElem?_setIfInBounds, i3]
      | 4, hu => have := HC.out 4 _ rfl; rw [hd6] at this; simp only [Array.getElem?_setIfInBounds]; rw [if_neg (by omega), if_neg (by omega)]; simp at hu; subst hu; exact this
      | 5, hu => simp at hu; subst hu; simp [Array.getElem?_setIfInBounds, i5]
      | n + 6, hu => simp at hu
     have ho9 : ∀ p, p < q * PAll.k63.sz ∨ q * PAll.k63.sz + PAll.k63.sz ≤ p → ((csT.setIfInBounds (q * 6 + 3) (.slice U3 f3.length n3)).setIfInBounds (q * 6 + 5) (.slice U5 f5.length n5))[p]? = csT[p]? := by
      intro p hp
      rw [hd6] at hp
      simp only [Array.getElem?_setIfInBounds]
      rw [if_neg (by omega), if_neg (by omega)]
     have HQ9 := Lib.hid (HQt.out.put HX.out hm9 hg9 rfl hc9 hMq ho9)
     have HQS9 : Hid (RowQ PAll.k66 66 w ((w7.setCell ⟨gT, q * 6 + 3, none⟩ (.slice U3 f3.length n3)).setCell ⟨gT, q * 6 + 5, none⟩ (.slice U5 f5.length n5)) w.heap.size (But gS gT w.heap.size (w.heap.size + 1)) gS cs0 st st.length) := Lib.hid (HQ.out.step (((Below.heap_setCell _ ⟨gT, q * 6 + 5, none⟩ _ gS hneST).trans (Below.heap_setCell _ ⟨gT, q * 6 + 3, none⟩ _ gS hneST)).trans (hbk gS (lt_of_block HQ.out.1))) hm9)
     have HK19 : Hid (((w7.setCell ⟨gT, q * 6 + 3, none⟩ (.slice U3 f3.length n3)).setCell ⟨gT, q * 6 + 5, none⟩ (.slice U5 f5.length n5)).heap[w.heap.size]? = some (.cells #[.int .i64 v, (.slice (some ⟨gS, 0, none⟩) st.length capS), (.slice (some ⟨gT, 0, none⟩) tr.length capT)] 25 (0, 0))) := Lib.hid (blk_far (p := ⟨gT, q * 6 + 5, none⟩) (blk_far (p := ⟨gT, q * 6 + 3, none⟩) (K18) hne1 _) hne1 _)
     have HK29 : Hid (((w7.setCell ⟨gT, q * 6 + 3, none⟩ (.slice U3 f3.length n3)).setCell ⟨gT, q * 6 + 5, none⟩ (.slice U5 f5.length n5)).heap[w.heap.size + 1]? = some (.cells #[.int .i64 0, .slice none 0 0, .slice none 0 0] 25 (0, 0))) := Lib.hid (blk_far (p := ⟨gT, q * 6 + 5, none⟩) (blk_far (p := ⟨gT, q * 6 + 3, none⟩) (K28) hne2 _) hne2 _)
     have HB9 := Lib.hid ((HB7.out.setCell (p := ⟨gT, q * 6 + 3, none⟩) hgT (.slice U3 f3.length n3)).setCell (p := ⟨gT, q * 6 + 5, none⟩) hgT (.slice U5 f5.length n5))
     clear hbk K18 K28 S8 R3 R5 hMq hm9 hg9 i3 i5 hd6 hc9 ho9 t3 t5 r3 r5 b3 b5 HQ HQT
     generalize ((w7.setCell ⟨gT, q * 6 + 3, none⟩ (.slice U3 f3.length n3)).setCell ⟨gT, q * 6 + 5, none⟩ (.slice U5 f5.length n5)) = w9 at HQ9 HQS9 HK19 HK29 HB9 ⊢
     go_wp2_with fail
     go_roundw
     case rel => exact ⟨q + 1, cs0, by go_num, by omega, HK19, HK29, HB9, HQS9, Lib.hid (fun _ => ⟨by trivial, hcapT, _, HQ9.out⟩)⟩
     case measure => simp [intOf]; omega
    ·obtain rfl : q = tr.length := by omega
     have p1 : ((tr.length : Int) < (tr.length : Int)) = False := eq_false (by omega)
     have x0 : wr.cell? ⟨w.heap.size, 0, none⟩ = some (.int .i64 v) := blk_cell HK1.out 0
     have x1 : wr.cell? ⟨w.heap.size, 1, none⟩ = some (.slice (some ⟨gS, 0, none⟩) st.length capS) := blk_cell HK1.out 1
     have u0 : wr.cell? ⟨w.heap.size + 1, 0, none⟩ = some (.int .i64 0) := blk_cell HK2.out 0
     have u1 : wr.cell? ⟨w.heap.size + 1, 1, none⟩ = some (.slice none 0 0) := blk_cell HK2.out 1
     have u2 : wr.cell? ⟨w.heap.size + 1, 2, none⟩ = some (.slice none 0 0) := blk_cell HK2.out 2
     have v0 : wr.frozen? ⟨w.heap.size + 1, 0, none⟩ = false := blk_free HK2.out _
     have v1 : wr.frozen? ⟨w.heap.size + 1, 1, none⟩ = false := blk_free HK2.out _
     have v2 : wr.frozen? ⟨w.heap.size + 1, 2, none⟩ = false := blk_free HK2.out _
     go_wp2_with fail
     have hst3 : ∀ j, j ≠ w.heap.size + 1 → (((wr.setCell ⟨w.heap.size + 1, 0, none⟩ (.int .i64 v)).setCell ⟨w.heap.size + 1, 1, none⟩ (.slice (some ⟨gS, 0, none⟩) st.length capS)).setCell ⟨w.heap.size + 1, 2, none⟩ (.slice B2 tr.length capT)).heap[j]? = wr.heap[j]? := fun j hj => (Below.heap_setCell _ ⟨w.heap.size + 1, 2, none⟩ _ j hj).trans ((Below.heap_setCell _ ⟨w.heap.size + 1, 1, none⟩ _ j hj).trans (Below.heap_setCell _ ⟨w.heap.size + 1, 0, none⟩ _ j hj))
     refine bodyPost_ret (results_cell_row rfl _ _ (w.heap.size + 1) 25 #[.int .i64 v, (.slice (some ⟨gS, 0, none⟩) st.length capS), (.slice B2 tr.length capT)] (0, 0) _ rfl (blk_set (blk_set (blk_set HK2.out 0 (.int .i64 v)) 1 (.slice (some ⟨gS, 0, none⟩) st.length capS)) 2 (.slice B2 tr.length capT)) Tryz.underlying25 rfl (by kernel_rfl)) rfl ?_
     refine ⟨some ⟨gS, 0, none⟩, capS, B2, capT, rfl, ⟨(HQ.out.step (hst3 gS hneS2) (fun k hk _ => hst3 k hk.2.2.2)).reads rfl (by omega), hcapS, ?_, ?_⟩, ((HB.out.setCell (p := ⟨w.heap.size + 1, 0, none⟩) (Nat.le_succ _) (.int .i64 v)).setCell (p := ⟨w.heap.size + 1, 1, none⟩) (Nat.le_succ _) (.slice (some ⟨gS, 0, none⟩) st.length capS)).setCell (p := ⟨w.heap.size + 1, 2, none⟩) (Nat.le_succ _) (.slice B2 tr.length capT), ⟨gS, _, _, rfl, hgS, HQ.out.step (hst3 gS hneS2) (fun k hk _ => hst3 k hk.2.2.2)⟩, ?_⟩
     rotate_right
     ·intro h
      obtain ⟨e1, _, csT, hQt⟩ := HQT.out h
      exact ⟨gT, _, _, e1, hgT, hQt.step (hst3 gT (blk_ne hQt.1 HK2.out (by decide))) (fun k hk _ => hst3 k hk.2.2.2)⟩
     ·by_cases h : 0 < tr.length
      ·obtain ⟨e1, _, csT, hQt⟩ := HQT.out h
       subst e1
       exact (hQt.step (hst3 gT (blk_ne hQt.1 HK2.out (by decide))) (fun k hk _ => hst3 k hk.2.2.2)).reads rfl (by omega)
      ·exact ⟨rfl, by omega, fun h' => absurd h' h⟩
     ·by_cases h : 0 < tr.length
      ·exact (HQT.out h).2.1
      ·omega
theorem copied_any (v : Int) (A B : Option Addr) (ca cb : Nat) (st : List Sta) (tr : List Tra) (hst : 0 < st.length) (hs : st.length ≤ 1000) (ht : tr.length ≤ 1000) (hS : ∀ x ∈ st, x.f2.length ≤ 1000 ∧ x.f3.length ≤ 1000 ∧ x.f4.length ≤ 1000) (hT : ∀ x ∈ tr, x.f3.length ≤ 1000 ∧ x.f5.length ≤ 1000) (w : World) (hM : ChM w A ca st B cb tr) :
  Calls Tryz.prog 36 #[ckV v A B st.length tr.length ca cb] w fun e w' => ∃ A' ca' B' cb', e = .returned (ckV v A' B' st.length tr.length ca' cb') ∧ ChM w' A' ca' st B' cb' tr ∧ Below w.heap.size w w' := by
 refine (copied_own v A B ca cb st tr hst hs ht hS hT w hM).mono ?_
 rintro e w' ⟨A', ca', B', cb', rfl, h1, h2, _⟩
 exact ⟨A', ca', B', cb', rfl, h1, h2⟩
end Go.Proofs.YtikilglbhnplaaaGreatDoor
end
section
namespace Go.Proofs.YtikilglbhnplaaaGreatDoor
open Go.RowKit Go.Proofs.YtikilglbhnplaaaGreatDoorW.PrintWords
open PX (T V)
section
variable {w : World} {A B : Option Addr} {ca cb : Nat} {st : List Sta} {tr : List Tra}
theorem parentw (h : ChM w A ca st B cb tr) (v i : Int) (h0 : 0 ≤ i) (h1 : i < (st.length : Int)) (hb : st.length ≤ 1000000) : Calls Tryz.prog 101 #[ckV v A B st.length tr.length ca cb, .int .i64 i] w fun e w' => e = .returned (.int .i64 (parP st i)) ∧ Below w.heap.size w w' := by
 obtain ⟨ad, _, _, _, _, _, _, eA, _⟩ := PAll.at_T66 h.cs i h0 h1
 subst eA
 have hb1 : Below w.heap.size w (w.alloc (.cells #[.int .i64 v, .slice (some ad) st.length ca, .slice B tr.length cb] 136)) := (Below.refl _ w).alloc (Nat.le_refl _) _
 have HM := Lib.hid (h.below hb1)
 obtain ⟨ad', A2, c2, A3, c3, A4, c4, eA, q0, q1, q2, q3, q4, _⟩ := PAll.at_T66 HM.out.cs i h0 h1
 obtain rfl := Option.some.inj eA
 have e1 : (w.alloc (.cells #[.int .i64 v, .slice (some ad) st.length ca, .slice B tr.length cb] 136)).heap.size = w.heap.size + 1 := by simp
 have k1 := blk_new w (.cells #[.int .i64 v, .slice (some ad) st.length ca, .slice B tr.length cb] 136)
 have hb2 : Below w.heap.size w ((w.alloc (.cells #[.int .i64 v, .slice (some ad) st.length ca, .slice B tr.length cb] 136)).alloc (.cells #[.int .i64 (PAll.rd_T66 st i).f0, .int .i64 (PAll.rd_T66 st i).f1, .slice A2 (PAll.rd_T66 st i).f2.length c2, .slice A3 (PAll.rd_T66 st i).f3.length c3, .slice A4 (PAll.rd_T66 st i).f4.length c4] 66)) := hb1.alloc (by rw [e1]; omega) _
 have k2 := blk_new (w.alloc (.cells #[.int .i64 v, .slice (some ad) st.length ca, .slice B tr.length cb] 136)) (.cells #[.int .i64 (PAll.rd_T66 st i).f0, .int .i64 (PAll.rd_T66 st i).f1, .slice A2 (PAll.rd_T66 st i).f2.length c2, .slice A3 (PAll.rd_T66 st i).f3.length c3, .slice A4 (PAll.rd_T66 st i).f4.length c4] 66)
 rw [e1] at k2
 have k3 := (Below.alloc (Below.refl (w.heap.size + 1) (w.alloc (.cells #[.int .i64 v, .slice (some ad) st.length ca, .slice B tr.length cb] 136))) (by rw [e1]; omega) (.cells #[.int .i64 (PAll.rd_T66 st i).f0, .int .i64 (PAll.rd_T66 st i).f1, .slice A2 (PAll.rd_T66 st i).f2.length c2, .slice A3 (PAll.rd_T66 st i).f3.length c3, .slice A4 (PAll.rd_T66 st i).f4.length c4] 66)).block w.heap.size (by omega) |>.trans k1
 have HB2 := Lib.hid hb2
 have HM2 := Lib.hid (h.below hb2)
 have HK2 := Lib.hid k2
 have HK3 := Lib.hid k3
 have y1 : (w.alloc (.cells #[.int .i64 v, .slice (some ad) st.length ca, .slice B tr.length cb] 136)).cell? ⟨w.heap.size, 1, none⟩ = some (.slice (some ad) st.length ca) := blk_cell k1 1
 obtain ⟨z0, z1, z2⟩ : ((w.alloc (.cells #[.int .i64 v, .slice (some ad) st.length ca, .slice B tr.length cb] 136)).alloc (.cells #[.int .i64 (PAll.rd_T66 st i).f0, .int .i64 (PAll.rd_T66 st i).f1, .slice A2 (PAll.rd_T66 st i).f2.length c2, .slice A3 (PAll.rd_T66 st i).f3.length c3, .slice A4 (PAll.rd_T66 st i).f4.length c4] 66)).cell? ⟨w.heap.size, 0, none⟩ = some (.int .i64 v) ∧ ((w.alloc (.cells #[.int .i64 v, .slice (some ad) st.length ca, .slice B tr.length cb] 136)).alloc (.cells #[.int .i64 (PAll.rd_T66 st i).f0, .int .i64 (PAll.rd_T66 st i).f1, .slice A2 (PAll.rd_T66 st i).f2.length c2, .slice A3 (PAll.rd_T66 st i).f3.length c3, .slice A4 (PAll.rd_T66 st i).f4.length c4] 66)).cell? ⟨w.heap.size, 1, none⟩ = some (.slice (some ad) st.length ca) ∧ ((w.alloc (.cells #[.int .i64 v, .slice (some ad) st.length ca, .slice B tr.length cb] 136)).alloc (.cells #[.int .i64 (PAll.rd_T66 st i).f0, .int .i64 (PAll.rd_T66 st i).f1, .slice A2 (PAll.rd_T66 st i).f2.length c2, .slice A3 (PAll.rd_T66 st i).f3.length c3, .slice A4 (PAll.rd_T66 st i).f4.length c4] 66)).cell? ⟨w.heap.size, 2, none⟩ = some (.slice B tr.length cb) := ⟨blk_cell k3 0, blk_cell k3 1, blk_cell k3 2⟩
 obtain ⟨b0, b1⟩ : ((w.alloc (.cells #[.int .i64 v, .slice (some ad) st.length ca, .slice B tr.length cb] 136)).alloc (.cells #[.int .i64 (PAll.rd_T66 st i).f0, .int .i64 (PAll.rd_T66 st i).f1, .slice A2 (PAll.rd_T66 st i).f2.length c2, .slice A3 (PAll.rd_T66 st i).f3.length c3, .slice A4 (PAll.rd_T66 st i).f4.length c4] 66)).cell? ⟨w.heap.size + 1, 0, none⟩ = some (.int .i64 (PAll.rd_T66 st i).f0) ∧ ((w.alloc (.cells #[.int .i64 v, .slice (some ad) st.length ca, .slice B tr.length cb] 136)).alloc (.cells #[.int .i64 (PAll.rd_T66 st i).f0, .int .i64 (PAll.rd_T66 st i).f1, .slice A2 (PAll.rd_T66 st i).f2.length c2, .slice A3 (PAll.rd_T66 st i).f3.length c3, .slice A4 (PAll.rd_T66 st i).f4.length c4] 66)).cell? ⟨w.heap.size + 1, 1, none⟩ = some (.int .i64 (PAll.rd_T66 st i).f1) := ⟨blk_cell k2 0, blk_cell k2 1⟩
 have p1 : (0 ≤ i) = True := eq_true h0
 have p2 : (i < (st.length : Int)) = True := eq_true h1
 generalize hG : parP st i = G
 have HG := Lib.hid hG
 have HP := hG
 unfold parP at HP
 have HP := Lib.hid HP
 have HF : Hid (PAll.rd_T66 st i = PAll.rd_T66 st i) := Lib.hid rfl
 generalize hf0 : (PAll.rd_T66 st i).f0 = f0 at *
 generalize hf1 : (PAll.rd_T66 st i).f1 = f1 at *
 clear h hb1 hb2 e1 k1 k2 k3 hG HF hf0 hf1 HG
 by_cases ci : i = 0
 ·have d1 : (i == 0) = true := beq_iff_eq.mpr ci
  by_cases cp : f1 = -1
  ·have d2 : (f1 != -1) = false := by rw [cp]; rfl
   have HR : Hid (G = 0) := Lib.hid (by rw [← HP.out, if_pos ci, if_pos cp])
   clear ci cp
   go_enter Tryz.func101, Tryz.ntmps101
   go_wp2_with fail
   go_ret
   exact ⟨by rw [HR.out]; rfl, HB2.out⟩
  ·have d2 : (f1 != -1) = true := bne_iff_ne.mpr cp
   have HR : Hid (G = 1) := Lib.hid (by rw [← HP.out, if_pos ci, if_neg cp])
   clear ci cp
   go_enter Tryz.func101, Tryz.ntmps101
   go_wp2_with fail
   go_ret
   exact ⟨by rw [HR.out]; rfl, HB2.out⟩
 have d1 : (i == 0) = false := beq_eq_false_iff_ne.mpr ci
 by_cases cn : f1 < 0
 ·have d2 : decide (f1 < 0) = true := decide_eq_true cn
  have HR : Hid (G = 1) := Lib.hid (by rw [← HP.out, if_neg ci, if_pos cn])
  clear ci cn
  go_enter Tryz.func101, Tryz.ntmps101
  go_wp2_with fail
  go_ret
  exact ⟨by rw [HR.out]; rfl, HB2.out⟩
 have d2 : decide (f1 < 0) = false := decide_eq_false cn
 have hi1 : 1 ≤ i := by omega
 have hcase : (f1 = i - 1) ∨ (f1 ≠ i - 1 ∧ inC st (i - 1) f1 = false) ∨ (f1 ≠ i - 1 ∧ inC st (i - 1) f1 = true) := by
  by_cases e : f1 = i - 1
  ·exact .inl e
  ·cases hh : inC st (i - 1) f1 with
   | false => exact .inr (.inl ⟨e, rfl⟩)
   | true => exact .inr (.inr ⟨e, rfl⟩)
 go_enter Tryz.func101, Tryz.ntmps101
 rcases hcase with e | ⟨e, hin⟩ | ⟨e, hin⟩
 case' inl =>
  have d3 : (f1 != i - 1) = false := by rw [e]; simp
  have HP2 : Hid ((if (PAll.rd_T66 st f1).f0 = 2 then (if f1 = 0 ∧ histP f0 = true then 10 else 0) else if (PAll.rd_T66 st f1).f0 = 3 then (if f0 = 4 then 10 else if f1 = 0 ∧ histP f0 = true then 10 else 0) else 10) = G) := Lib.hid (by have h := HP.out; rw [if_neg ci, if_neg cn, if_neg (fun h => h.1 e)] at h; exact h)
  obtain ⟨ad2, _, _, _, _, _, _, eA, r0, _⟩ := PAll.at_T66 HM2.out.cs f1 (by omega) (by omega)
  obtain rfl := Option.some.inj eA
  have p3 : (0 ≤ f1) = True := eq_true (by omega)
  have p4 : (f1 < (st.length : Int)) = True := eq_true (by omega)
  generalize hkp : (PAll.rd_T66 st f1).f0 = kp at *
  clear HP e ci cn hkp
 case' inr.inl =>
  have d3 : (f1 != i - 1) = true := bne_iff_ne.mpr e
  have HR : Hid (G = 1) := Lib.hid (by rw [← HP.out, if_neg ci, if_neg cn, if_pos ⟨e, hin⟩])
  have HI := Lib.hid hin
  clear HP e ci cn hin
  go_wp2_with fail
  refine (in_any HM2.out v (i - 1) f1).mono ?_
  rw [HI.out]
  rintro e w3 ⟨rfl, hb3⟩
  have HB3 := Lib.hid (below_then HB2.out HB2.out.size hb3)
  clear hb3
  go_wp2_with fail
  go_ret
  exact ⟨by rw [HR.out]; rfl, HB3.out⟩
 case' inr.inr =>
  have hlt := inC_lt hin
  have d3 : (f1 != i - 1) = true := bne_iff_ne.mpr e
  have HP2 : Hid ((if (PAll.rd_T66 st f1).f0 = 2 then (if f1 = 0 ∧ histP f0 = true then 10 else 0) else if (PAll.rd_T66 st f1).f0 = 3 then (if f0 = 4 then 10 else if f1 = 0 ∧ histP f0 = true then 10 else 0) else 10) = G) := Lib.hid (by have h := HP.out; rw [if_neg ci, if_neg cn, if_neg (fun h => by rw [hin] at h; cases h.2)] at h; exact h)
  have HI := Lib.hid hin
  have hc0 : 0 ≤ f1 := by omega
  clear HP e ci cn hin
  go_wp2_with fail
  refine (in_any HM2.out v (i - 1) f1).mono ?_
  rw [HI.out]
  rintro e w3 ⟨rfl, hb3⟩
  have HB3 := Lib.hid (below_then HB2.out HB2.out.size hb3)
  obtain ⟨ad2, _, _, _, _, _, _, eA, r0, _⟩ := PAll.at_T66 (HM2.out.below hb3).cs f1 (by omega) (by omega)
  obtain rfl := Option.some.inj eA
  have p3 : (0 ≤ f1) = True := eq_true (by omega)
  have p4 : (f1 < (st.length : Int)) = True := eq_true (by omega)
  have k2 := (hb3.block _ (lt_of_block HK2.out)).trans HK2.out
  have k3 := (hb3.block _ (lt_of_block HK3.out)).trans HK3.out
  have x1 : w3.cell? ⟨w.heap.size, 1, none⟩ = some (.slice (some ad) st.length ca) := blk_cell k3 1
  have a0 : w3.cell? ⟨w.heap.size + 1, 0, none⟩ = some (.int .i64 f0) := blk_cell k2 0
  have a1 : w3.cell? ⟨w.heap.size + 1, 1, none⟩ = some (.int .i64 f1) := blk_cell k2 1
  generalize hkp : (PAll.rd_T66 st f1).f0 = kp at *
  clear hb3 k2 k3 HB2 hkp hlt q0 q1 q2 q3 q4 b0 b1 z0 z1 z2 y1
  have HB2 := HB3
 all_goals
  by_cases k2 : kp = 2
  case' pos =>
   have d4 : (kp != 2) = false := by rw [k2]; rfl
   have HP3 : Hid ((if f1 = 0 ∧ histP f0 = true then 10 else 0) = G) := Lib.hid (by rw [← HP2.out, if_pos k2])
   clear HP2 k2
  case' neg =>
   have d4 : (kp != 2) = true := bne_iff_ne.mpr k2
   by_cases k3 : kp = 3
   case' neg =>
    have d5 : (kp != 3) = true := bne_iff_ne.mpr k3
    have HR : Hid (G = 10) := Lib.hid (by rw [← HP2.out, if_neg k2, if_neg k3])
    clear HP2 k2 k3
    go_wp2_with fail
    go_ret
    exact ⟨by rw [HR.out]; rfl, HB2.out⟩
   case' pos =>
    have d5 : (kp != 3) = false := by rw [k3]; rfl
    by_cases k4 : f0 = 4
    case' pos =>
     have d6 : (f0 == 4) = true := beq_iff_eq.mpr k4
     have HR : Hid (G = 10) := Lib.hid (by rw [← HP2.out, if_neg k2, if_pos k3, if_pos k4])
     clear HP2 k2 k3 k4
     go_wp2_with fail
     go_ret
     exact ⟨by rw [HR.out]; rfl, HB2.out⟩
    case' neg =>
     have d6 : (f0 == 4) = false := beq_eq_false_iff_ne.mpr k4
     have HP3 : Hid ((if f1 = 0 ∧ histP f0 = true then 10 else 0) = G) := Lib.hid (by rw [← HP2.out, if_neg k2, if_pos k3, if_neg k4])
     clear HP2 k2 k3 k4
  all_goals
   by_cases k5 : f1 = 0
   case' neg =>
    have d7 : (f1 == 0) = false := beq_eq_false_iff_ne.mpr k5
    have HR : Hid (G = 0) := Lib.hid (by rw [← HP3.out, if_neg (fun h => k5 h.1)])
    clear HP3 k5
    go_wp2_with fail
    go_ret
    exact ⟨by rw [HR.out]; rfl, HB2.out⟩
   case' pos =>
    have d7 : (f1 == 0) = true := beq_iff_eq.mpr k5
    have HP4 : Hid ((if histP f0 = true then 10 else 0) = G) := Lib.hid (by rw [← HP3.out]; simp [k5])
    clear HP3 k5
    go_wp2_with fail
    refine (hist_any f0 _).mono ?_
    cases hh : histP f0 with
    | true =>
     have HR : Hid (G = 10) := Lib.hid (by rw [← HP4.out, if_pos hh])
     clear HP4 hh
     rintro e w4 ⟨rfl, hb4⟩
     have HB4 := Lib.hid (below_then HB2.out HB2.out.size hb4)
     clear hb4
     go_wp2_with fail
     go_ret
     exact ⟨by rw [HR.out]; rfl, HB4.out⟩
    | false =>
     have HR : Hid (G = 0) := Lib.hid (by rw [← HP4.out, if_neg (by rw [hh]; simp)])
     clear HP4 hh
     rintro e w4 ⟨rfl, hb4⟩
     have HB4 := Lib.hid (below_then HB2.out HB2.out.size hb4)
     clear hb4
     go_wp2_with fail
     go_ret
     exact ⟨by rw [HR.out]; rfl, HB4.out⟩
end
end Go.Proofs.YtikilglbhnplaaaGreatDoor
end
