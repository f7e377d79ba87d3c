/- Texts of this claim, merged (Exprw2, Err, Exprun, Expre, Rdr, Pread). -/
import Derived.Test.YtikilglbhnplaaaGreatDoorZMacroIdle11
import Derived.Test.YtikilglbhnplaaaGreatDoorZMacroIdle1
set_option linter.unusedVariables false
set_option linter.unusedSimpArgs false
set_option maxRecDepth 100000
set_option maxHeartbeats 8000000
section
namespace Go.Proofs.YtikilglbhnplaaaGreatDoor
open Go.RowKit Go.Proofs.YtikilglbhnplaaaGreatDoorW.PrintWords
open PX (T V takes takes_cases)
theorem laid222 {w w2 : World} {x x' y y' : Value} {t : TypeId} {z : Value} {z' : Value}
  (hb : Below (((w.alloc (.cells #[x, x'] t)).alloc (.cells #[y, y'] t)).alloc (.cells #[z, z'] t)).heap.size (((w.alloc (.cells #[x, x'] t)).alloc (.cells #[y, y'] t)).alloc (.cells #[z, z'] t)) w2) :
  w2.heap[w.heap.size + 1 + 1]? = some (.cells #[z, z'] t (0, 0)) ∧ w2.cell? ⟨w.heap.size, 0, none⟩ = some x ∧ w2.cell? ⟨w.heap.size, 1, none⟩ = some x' ∧ w2.cell? ⟨w.heap.size + 1, 0, none⟩ = some y ∧ w2.cell? ⟨w.heap.size + 1, 1, none⟩ = some y' ∧ w2.cell? ⟨w.heap.size + 1 + 1, 0, none⟩ = some z ∧ w2.cell? ⟨w.heap.size + 1 + 1, 1, none⟩ = some z' ∧
   w2.frozen? ⟨w.heap.size + 1 + 1, 0, none⟩ = false ∧ w2.frozen? ⟨w.heap.size + 1 + 1, 1, none⟩ = false ∧ w.heap.size + 1 + 1 < w2.heap.size ∧ Below w.heap.size w w2 := by
 have hz := hb.size
 simp at hz
 have e1 : (w.alloc (.cells #[x, x'] t)).heap.size = w.heap.size + 1 := by simp
 have e2 : ((w.alloc (.cells #[x, x'] t)).alloc (.cells #[y, y'] t)).heap.size = w.heap.size + 1 + 1 := by simp
 have h2 := (hb.block (w.heap.size + 1 + 1) (by simp)).trans (e2 ▸ blk_new ((w.alloc (.cells #[x, x'] t)).alloc (.cells #[y, y'] t)) (.cells #[z, z'] t))
 have h1 := (hb.block (w.heap.size + 1) (by simp)).trans (blk_alloc _ (e1 ▸ blk_new (w.alloc (.cells #[x, x'] t)) (.cells #[y, y'] t)))
 have h0 := (hb.block w.heap.size (by simp; omega)).trans (blk_alloc _ (blk_alloc _ (blk_new w (.cells #[x, x'] t))))
 exact ⟨h2, blk_cell h0 0, blk_cell h0 1, blk_cell h1 0, blk_cell h1 1, blk_cell h2 0, blk_cell h2 1, blk_free h2 0, blk_free h2 1, by omega, ((((Below.refl _ _).alloc (Nat.le_refl _) _).alloc (by simp) _).alloc (by simp; omega) _).trans (hb.mono (by simp; omega))⟩
theorem both_any (k : Int) (a b : V) (w : World) : Calls Tryz.prog 144 #[.int .i64 k, agV a, agV b] w fun e w' => e = .returned (retE (bothE k a b)) ∧ Below w.heap.size w w' := by
 obtain ⟨hk, a0, a1, b0, b1, c0, c1, f0, f1, hlt, hbw⟩ := laid222 (Below.refl (((w.alloc (.cells #[.int .i64 a.1, .int .i64 a.2] 147)).alloc (.cells #[.int .i64 b.1, .int .i64 b.2] 147)).alloc (.cells #[.int .i64 0, .int .i64 0] 147)).heap.size (((w.alloc (.cells #[.int .i64 a.1, .int .i64 a.2] 147)).alloc (.cells #[.int .i64 b.1, .int .i64 b.2] 147)).alloc (.cells #[.int .i64 0, .int .i64 0] 147)))
 have HK := Lib.hid hk
 clear hk
 have hax : (.agg #[.int .i64 a.1, .int .i64 a.2] : Value) = agV a := rfl
 have hbx : (.agg #[.int .i64 b.1, .int .i64 b.2] : Value) = agV b := rfl
 have n01 : ((a.1 : Int) != b.1) = !(a.1 == b.1) := rfl
 by_cases hk : a.1 = b.1
 ·have n1 : (a.1 == b.1) = true := beq_iff_eq.mpr hk
  by_cases h10 : k = 10
  ·subst h10
   have hN : bothE 10 a b = .ok (truthV (a.2 == b.2)) := by simp [bothE, hk]
   rw [hN]
   clear hN hk
   rw [← hax, ← hbx]
   clear hax hbx
   go_enter Tryz.func144, Tryz.ntmps144
   go_wp2_with fail
   refine (truth_any _ _).mono ?_
   rintro e w1 ⟨rfl, hb1⟩
   obtain ⟨hk, _, _, _, _, c0, c1, f0, f1, hlt, hbw⟩ := laid222 hb1
   clear HK
   have HK := Lib.hid hk
   clear hk hb1 a0 a1 b0 b1
   simp only [agV]
   go_wp2_with fail
   refine bodyPost_ret (results_ct rfl _ _ (w.heap.size + 1 + 1) 147 #[.int .i64 _, .int .i64 _] (0, 0) _ rfl (blk_set2 HK.out _ _) Tryz.underlying147 rfl (by kernel_rfl)) rfl ?_
   exact ⟨rfl, below_set2 hbw (by omega) _ _⟩
  have n10 : (k == 10) = false := beq_eq_false_iff_ne.mpr h10
  by_cases h11 : k = 11
  ·subst h11
   have hN : bothE 11 a b = .ok (truthV (!(a.2 == b.2))) := by simp [bothE, hk]
   rw [hN]
   clear hN hk
   rw [← hax, ← hbx]
   clear hax hbx
   go_enter Tryz.func144, Tryz.ntmps144
   go_wp2_with fail
   refine (truth_any _ _).mono ?_
   rintro e w1 ⟨rfl, hb1⟩
   obtain ⟨hk, _, _, _, _, c0, c1, f0, f1, hlt, hbw⟩ := laid222 hb1
   clear HK
   have HK := Lib.hid hk
   clear hk hb1 a0 a1 b0 b1
   simp only [agV]
   go_wp2_with fail
   refine bodyPost_ret (results_ct rfl _ _ (w.heap.size + 1 + 1) 147 #[.int .i64 _, .int .i64 _] (0, 0) _ rfl (blk_set2 HK.out _ _) Tryz.underlying147 rfl (by kernel_rfl)) rfl ?_
   exact ⟨rfl, below_set2 hbw (by omega) _ _⟩
  have n11 : (k == 11) = false := beq_eq_false_iff_ne.mpr h11
  by_cases h1 : a.1 = 1
  ·have m1 : (a.1 == 1) = true := beq_iff_eq.mpr h1
   have hN : bothE k a b = numE k a.2 b.2 := by simp only [bothE]; rw [if_neg (by simp [hk]), if_neg h10, if_neg h11, if_pos h1]
   rw [hN]
   clear hN hk h1 h10 h11
   rw [← hax, ← hbx]
   clear hax hbx
   go_enter Tryz.func144, Tryz.ntmps144
   go_wp2_with fail
   refine (numbers_any k a.2 b.2 _).mono ?_
   rintro e w1 ⟨rfl, hb1⟩
   obtain ⟨hk, _, _, _, _, c0, c1, f0, f1, hlt, hbw⟩ := laid222 hb1
   clear HK
   have HK := Lib.hid hk
   clear hk hb1 a0 a1 b0 b1
   cases hN : numE k a.2 b.2 with
   | ok v =>
    have HN := Lib.hid hN
    clear hN
    simp only [retE, agV]
    go_wp2_with fail
    refine bodyPost_ret (results_ct rfl _ _ (w.heap.size + 1 + 1) 147 #[.int .i64 _, .int .i64 _] (0, 0) _ rfl (blk_set2 HK.out _ _) Tryz.underlying147 rfl (by kernel_rfl)) rfl ?_
    exact ⟨by rw [HN.out]; rfl, below_set2 hbw (by omega) _ _⟩
   | error x =>
    have HN := Lib.hid hN
    clear hN
    simp only [retE, agV]
    go_wp2_with fail
    refine bodyPost_ret (results_ct rfl _ _ (w.heap.size + 1 + 1) 147 #[.int .i64 _, .int .i64 _] (0, 0) _ rfl (blk_set2 HK.out _ _) Tryz.underlying147 rfl (by kernel_rfl)) rfl ?_
    exact ⟨by rw [HN.out]; rfl, below_set2 hbw (by omega) _ _⟩
  have m1 : (a.1 == 1) = false := beq_eq_false_iff_ne.mpr h1
  by_cases h12 : k = 12
  ·subst h12
   have hN : bothE 12 a b = .ok (truthV (decide (wrap64 (a.2 + b.2) > 1))) := by simp only [bothE]; rw [if_neg (by simp [hk]), if_neg h10, if_neg h11, if_neg h1]; rfl
   rw [hN]
   clear hN hk h1 h10 h11
   rw [← hax, ← hbx]
   clear hax hbx
   go_enter Tryz.func144, Tryz.ntmps144
   go_wp2_with fail
   refine (truth_any _ _).mono ?_
   rintro e w1 ⟨rfl, hb1⟩
   obtain ⟨hk, _, _, _, _, c0, c1, f0, f1, hlt, hbw⟩ := laid222 hb1
   clear HK
   have HK := Lib.hid hk
   clear hk hb1 a0 a1 b0 b1
   simp only [agV]
   go_wp2_with fail
   refine bodyPost_ret (results_ct rfl _ _ (w.heap.size + 1 + 1) 147 #[.int .i64 _, .int .i64 _] (0, 0) _ rfl (blk_set2 HK.out _ _) Tryz.underlying147 rfl (by kernel_rfl)) rfl ?_
   exact ⟨rfl, below_set2 hbw (by omega) _ _⟩
  have n12 : (k == 12) = false := beq_eq_false_iff_ne.mpr h12
  by_cases h13 : k = 13
  ·subst h13
   have hN : bothE 13 a b = .ok (truthV (decide (wrap64 (a.2 + b.2) > 0))) := by simp only [bothE]; rw [if_neg (by simp [hk]), if_neg h10, if_neg h11, if_neg h1]; rfl
   rw [hN]
   clear hN hk h1 h10 h11
   rw [← hax, ← hbx]
   clear hax hbx
   go_enter Tryz.func144, Tryz.ntmps144
   go_wp2_with fail
   refine (truth_any _ _).mono ?_
   rintro e w1 ⟨rfl, hb1⟩
   obtain ⟨hk, _, _, _, _, c0, c1, f0, f1, hlt, hbw⟩ := laid222 hb1
   clear HK
   have HK := Lib.hid hk
   clear hk hb1 a0 a1 b0 b1
   simp only [agV]
   go_wp2_with fail
   refine bodyPost_ret (results_ct rfl _ _ (w.heap.size + 1 + 1) 147 #[.int .i64 _, .int .i64 _] (0, 0) _ rfl (blk_set2 HK.out _ _) Tryz.underlying147 rfl (by kernel_rfl)) rfl ?_
   exact ⟨rfl, below_set2 hbw (by omega) _ _⟩
  have n13 : (k == 13) = false := beq_eq_false_iff_ne.mpr h13
  have hN : bothE k a b = .error 8 := by simp only [bothE]; rw [if_neg (by simp [hk]), if_neg h10, if_neg h11, if_neg h1, if_neg h12, if_neg h13]
  rw [hN]
  clear hN hk h1 h10 h11 h12 h13
  rw [← hax, ← hbx]
  clear hax hbx
  go_enter Tryz.func144, Tryz.ntmps144
  go_wp2_with fail
  refine bodyPost_ret (results_ct rfl _ _ (w.heap.size + 1 + 1) 147 #[.int .i64 _, .int .i64 _] (0, 0) _ rfl (HK.out) Tryz.underlying147 rfl (by kernel_rfl)) rfl ?_
  exact ⟨rfl, hbw⟩
 ·have n1 : (a.1 == b.1) = false := beq_eq_false_iff_ne.mpr hk
  have hN : bothE k a b = .error 8 := by simp only [bothE]; rw [if_pos hk]
  rw [hN]
  clear hN hk
  rw [← hax, ← hbx]
  clear hax hbx
  go_enter Tryz.func144, Tryz.ntmps144
  go_wp2_with fail
  refine bodyPost_ret (results_ct rfl _ _ (w.heap.size + 1 + 1) 147 #[.int .i64 _, .int .i64 _] (0, 0) _ rfl (HK.out) Tryz.underlying147 rfl (by kernel_rfl)) rfl ?_
  exact ⟨rfl, hbw⟩
def LookC (f : FuncId) (cp : Value) (look : Int → Option Int) (B : Nat) (w : World) : Prop :=
 ∀ w', Below B w w' → ∀ v : Int, 0 ≤ v → v ≤ 1000 → Calls Tryz.prog f #[.int .i64 v, cp] w' fun e w'' => e = .returned (.tuple #[.int .i64 ((look v).getD 0), .bool (look v).isSome]) ∧ ∃ n, w'' = w'.drewN n
theorem LookC.below {f : FuncId} {cp : Value} {look : Int → Option Int} {B : Nat} {w w1 : World} (h : LookC f cp look B w) (hb : Below B w w1) : LookC f cp look B w1 :=
 fun w' hw v h0 h1 => h w' (hb.trans hw) v h0 h1
def leafR (look : Int → Option Int) (t : T) : Value :=
 if takes t = 0 then (match leafE look t with | .ok v => .tuple #[agV v, .bool true, .nilIface] | .error c => .tuple #[agV (0, 0), .bool true, .iface 67 (.int .i64 c)])
 else .tuple #[agV (0, 0), .bool false, .nilIface]
theorem laid32 {w w2 : World} {x y z a b : Value} {t t' : TypeId} (hb : Below ((w.alloc (.cells #[x, y, z] t)).alloc (.cells #[a, b] t')).heap.size ((w.alloc (.cells #[x, y, z] t)).alloc (.cells #[a, b] t')) w2) :
  w2.heap[w.heap.size + 1]? = some (.cells #[a, b] t' (0, 0)) ∧ w2.cell? ⟨w.heap.size, 0, none⟩ = some x ∧ w2.cell? ⟨w.heap.size, 1, none⟩ = some y ∧ w2.cell? ⟨w.heap.size + 1, 0, none⟩ = some a ∧ w2.cell? ⟨w.heap.size + 1, 1, none⟩ = some b ∧
   w2.frozen? ⟨w.heap.size + 1, 0, none⟩ = false ∧ w2.frozen? ⟨w.heap.size + 1, 1, none⟩ = false ∧ w.heap.size + 1 < w2.heap.size ∧ Below w.heap.size w w2 := by
 have hz := hb.size
 simp at hz
 have e1 : (w.alloc (.cells #[x, y, z] t)).heap.size = w.heap.size + 1 := by simp
 have h1 := (hb.block (w.heap.size + 1) (by simp)).trans (e1 ▸ blk_new (w.alloc (.cells #[x, y, z] t)) (.cells #[a, b] t'))
 have h0 := (hb.block w.heap.size (by simp; omega)).trans (blk_alloc _ (blk_new w (.cells #[x, y, z] t)))
 exact ⟨h1, blk_cell h0 0, blk_cell h0 1, blk_cell h1 0, blk_cell h1 1, blk_free h1 0, blk_free h1 1, by omega, (((Below.refl _ _).alloc (Nat.le_refl _) _).alloc (by simp) _).trans (hb.mono (by simp; omega))⟩
theorem leaf_any (f : FuncId) (hrun : ∀ (args : Array Value) (w : World), (callFunc f args).run Tryz.prog w = .ok (.enter f args) w) (cp : Value) (look : Int → Option Int) (t : T) (h0 : 0 ≤ takes t) (B : Nat) (w : World) (hB : B ≤ w.heap.size) (hl : LookC f cp look B w) :
  Calls Tryz.prog 142 #[.agg #[.int .i64 t.f0, .int .i64 t.f1, .int .i64 t.f2], .func (.func f) #[] #[cp]] w fun e w' => e = .returned (leafR look t) ∧ Below w.heap.size w w' := by
 have HL := Lib.hid hl
 clear hl
 obtain ⟨hk, a0, a1, c0, c1, f0, f1, hlt, hbw⟩ := laid32 (Below.refl ((w.alloc (.cells #[.int .i64 t.f0, .int .i64 t.f1, .int .i64 t.f2] 131)).alloc (.cells #[.int .i64 0, .int .i64 0] 147)).heap.size ((w.alloc (.cells #[.int .i64 t.f0, .int .i64 t.f1, .int .i64 t.f2] 131)).alloc (.cells #[.int .i64 0, .int .i64 0] 147)))
 have HK := Lib.hid hk
 clear hk
 rcases takes_cases t with e | e | e | e
 ·omega
 ·obtain ⟨hk, hn0, hn2⟩ := takes0 e
  obtain ⟨k, n, c⟩ := t
  simp only at hk hn0 hn2 a0 a1 HK c0 c1 f0 f1 hbw
  rcases hk with rfl | rfl | rfl | rfl
  ·have HX : Hid (leafR look ⟨1, n, c⟩ = .tuple #[agV (wholeV n), .bool true, .nilIface]) := Lib.hid (by rw [leafR, if_pos e]; rfl)
   go_enter Tryz.func142, Tryz.ntmps142
   go_wp2_with fail
   refine (whole_any _ _).mono ?_
   rintro e w1 ⟨rfl, hb1⟩
   obtain ⟨hk, _, _, c0, c1, f0, f1, hlt, hbw⟩ := laid32 hb1
   clear HK
   have HK := Lib.hid hk
   clear hk hb1 a0 a1
   simp only [agV]
   go_wp2_with fail
   refine bodyPost_ret (results_ctt rfl _ _ (w.heap.size + 1) 147 #[.int .i64 _, .int .i64 _] (0, 0) _ rfl (blk_set2 HK.out _ _) Tryz.underlying147 rfl (by kernel_rfl)) rfl ?_
   exact ⟨by rw [HX.out]; rfl, below_set2 hbw (by omega) _ _⟩
  ·cases hlk : look n with
   | some m =>
    have HX : Hid (leafR look ⟨2, n, c⟩ = .tuple #[agV (wholeV m), .bool true, .nilIface]) := Lib.hid (by rw [leafR, if_pos e]; simp [leafE, hlk])
    go_enter Tryz.func142, Tryz.ntmps142
    go_wp2_with fail
    refine (HL.out _ ?lkw n hn0 (by have := hn2 trivial; omega)).mono ?_
    case lkw => exact (Below.mono (((Below.refl _ _).alloc (Nat.le_refl _) _).alloc (by simp) _) hB)
    rw [hlk]
    rintro e w1 ⟨rfl, n1, rfl⟩
    clear hlk
    simp only [Option.getD_some, Option.isSome_some]
    go_wp2_with fail
    refine (whole_any _ _).mono ?_
    rintro e w1 ⟨rfl, hb1⟩
    have hb1' := (below_drewN' (Below.refl ((w.alloc (.cells #[.int .i64 2, .int .i64 n, .int .i64 c] 131)).alloc (.cells #[.int .i64 0, .int .i64 0] 147)).heap.size ((w.alloc (.cells #[.int .i64 2, .int .i64 n, .int .i64 c] 131)).alloc (.cells #[.int .i64 0, .int .i64 0] 147))) n1).trans (hb1.mono (by simp))
    obtain ⟨hk, _, _, c0, c1, f0, f1, hlt, hbw⟩ := laid32 hb1'
    clear HK
    have HK := Lib.hid hk
    clear hk hb1 hb1' a0 a1
    simp only [agV]
    go_wp2_with fail
    refine bodyPost_ret (results_ctt rfl _ _ (w.heap.size + 1) 147 #[.int .i64 _, .int .i64 _] (0, 0) _ rfl (blk_set2 HK.out _ _) Tryz.underlying147 rfl (by kernel_rfl)) rfl ?_
    exact ⟨by rw [HX.out]; rfl, below_set2 hbw (by omega) _ _⟩
   | none =>
    have HX : Hid (leafR look ⟨2, n, c⟩ = .tuple #[agV (0, 0), .bool true, .iface 67 (.int .i64 4)]) := Lib.hid (by rw [leafR, if_pos e]; simp [leafE, hlk])
    go_enter Tryz.func142, Tryz.ntmps142
    go_wp2_with fail
    refine (HL.out _ ?lkw n hn0 (by have := hn2 trivial; omega)).mono ?_
    case lkw => exact (Below.mono (((Below.refl _ _).alloc (Nat.le_refl _) _).alloc (by simp) _) hB)
    rw [hlk]
    rintro e w1 ⟨rfl, n1, rfl⟩
    clear hlk
    simp only [Option.getD_none, Option.isSome_none]
    go_wp2_with fail
    refine bodyPost_ret (results_ctt rfl _ _ (w.heap.size + 1) 147 #[.int .i64 _, .int .i64 _] (0, 0) _ rfl (blk_set2 (blk_drewN n1 HK.out) _ _) Tryz.underlying147 rfl (by kernel_rfl)) rfl ?_
    exact ⟨by rw [HX.out]; rfl, below_set2 (below_drewN' hbw n1) (by omega) _ _⟩
  ·have HX : Hid (leafR look ⟨15, n, c⟩ = .tuple #[agV (truthV true), .bool true, .nilIface]) := Lib.hid (by rw [leafR, if_pos e]; rfl)
   go_enter Tryz.func142, Tryz.ntmps142
   go_wp2_with fail
   refine (truth_any _ _).mono ?_
   rintro e w1 ⟨rfl, hb1⟩
   obtain ⟨hk, _, _, c0, c1, f0, f1, hlt, hbw⟩ := laid32 hb1
   clear HK
   have HK := Lib.hid hk
   clear hk hb1 a0 a1
   simp only [agV]
   go_wp2_with fail
   refine bodyPost_ret (results_ctt rfl _ _ (w.heap.size + 1) 147 #[.int .i64 _, .int .i64 _] (0, 0) _ rfl (blk_set2 HK.out _ _) Tryz.underlying147 rfl (by kernel_rfl)) rfl ?_
   exact ⟨by rw [HX.out]; rfl, below_set2 hbw (by omega) _ _⟩
  ·have HX : Hid (leafR look ⟨16, n, c⟩ = .tuple #[agV (truthV false), .bool true, .nilIface]) := Lib.hid (by rw [leafR, if_pos e]; rfl)
   go_enter Tryz.func142, Tryz.ntmps142
   go_wp2_with fail
   refine (truth_any _ _).mono ?_
   rintro e w1 ⟨rfl, hb1⟩
   obtain ⟨hk, _, _, c0, c1, f0, f1, hlt, hbw⟩ := laid32 hb1
   clear HK
   have HK := Lib.hid hk
   clear hk hb1 a0 a1
   simp only [agV]
   go_wp2_with fail
   refine bodyPost_ret (results_ctt rfl _ _ (w.heap.size + 1) 147 #[.int .i64 _, .int .i64 _] (0, 0) _ rfl (blk_set2 HK.out _ _) Tryz.underlying147 rfl (by kernel_rfl)) rfl ?_
   exact ⟨by rw [HX.out]; rfl, below_set2 hbw (by omega) _ _⟩
 ·have hk := takes1 e
  have HX : Hid (leafR look t = .tuple #[agV (0, 0), .bool false, .nilIface]) := Lib.hid (by rw [leafR, if_neg (by omega)])
  have n1 : (t.f0 == 1) = false := beq_eq_false_iff_ne.mpr (by omega)
  have n2 : (t.f0 == 2) = false := beq_eq_false_iff_ne.mpr (by omega)
  have n15 : (t.f0 == 15) = false := beq_eq_false_iff_ne.mpr (by omega)
  have n16 : (t.f0 == 16) = false := beq_eq_false_iff_ne.mpr (by omega)
  go_enter Tryz.func142, Tryz.ntmps142
  go_wp2_with fail
  refine bodyPost_ret (results_ctt rfl _ _ (w.heap.size + 1) 147 #[.int .i64 _, .int .i64 _] (0, 0) _ rfl (HK.out) Tryz.underlying147 rfl (by kernel_rfl)) rfl ?_
  exact ⟨by rw [HX.out]; rfl, hbw⟩
 ·have hk := takes2 e
  have HX : Hid (leafR look t = .tuple #[agV (0, 0), .bool false, .nilIface]) := Lib.hid (by rw [leafR, if_neg (by omega)])
  have n1 : (t.f0 == 1) = false := beq_eq_false_iff_ne.mpr (by omega)
  have n2 : (t.f0 == 2) = false := beq_eq_false_iff_ne.mpr (by omega)
  have n15 : (t.f0 == 15) = false := beq_eq_false_iff_ne.mpr (by omega)
  have n16 : (t.f0 == 16) = false := beq_eq_false_iff_ne.mpr (by omega)
  go_enter Tryz.func142, Tryz.ntmps142
  go_wp2_with fail
  refine bodyPost_ret (results_ctt rfl _ _ (w.heap.size + 1) 147 #[.int .i64 _, .int .i64 _] (0, 0) _ rfl (HK.out) Tryz.underlying147 rfl (by kernel_rfl)) rfl ?_
  exact ⟨by rw [HX.out]; rfl, hbw⟩
end Go.Proofs.YtikilglbhnplaaaGreatDoor
end
section
namespace Go.Proofs.YtikilglbhnplaaaGreatDoor
open Go.RowKit
theorem code_info : (Tryz.prog.info? 67).map (·.comparable) = some true := by kernel_rfl
theorem eqErr (w : World) (a b : Int) : (binOp .eql 30 (.iface 67 (.int .i64 a)) (.iface 67 (.int .i64 b))).run Tryz.prog w = .ok (.bool (a == b)) w := by
 obtain ⟨i, h, hc⟩ := Option.map_eq_some_iff.1 code_info
 exact run_eql_iface_int w a b Tryz.underlying30 Tryz.underlying67 h hc
theorem neErrNil (w : World) (v : Value) : (binOp .neq 30 .nilIface (.iface 67 v)).run Tryz.prog w = .ok (.bool true) w :=
 run_neq_iface_nil_left w _ v Tryz.underlying30
end Go.Proofs.YtikilglbhnplaaaGreatDoor
end
section
namespace Go.Proofs.YtikilglbhnplaaaGreatDoor
open Go.RowKit Go.Proofs.YtikilglbhnplaaaGreatDoorW.PrintWords Go.Proofs.YtikilglbhnplaaaGreatDoorW.PrintLast
open PX (T V Tr takes takes_cases runs val value mayGo may runs_len may_at runs_snoc runs_fail step_leaf step_one step_two one_last two_last)
def StkV (w : World) (B : Nat) (v : Value) (xs : List V) : Prop := w.ownsRow B 147 2 v xs.length (xs.flatMap fun v => [.int .i64 v.1, .int .i64 v.2])
theorem flatV_len (xs : List V) : (xs.flatMap fun v => [(.int .i64 v.1 : Value), .int .i64 v.2]).length = xs.length * 2 := by
 induction xs with
 | nil => rfl
 | cons a l ih => simp [List.flatMap_cons, ih]; omega
theorem flatV_at (xs : List V) (i : Nat) (v : V) (h : xs[i]? = some v) : (xs.flatMap fun v => [(.int .i64 v.1 : Value), .int .i64 v.2])[i * 2]? = some (.int .i64 v.1) ∧ (xs.flatMap fun v => [(.int .i64 v.1 : Value), .int .i64 v.2])[i * 2 + 1]? = some (.int .i64 v.2) := by
 induction xs generalizing i with
 | nil => simp at h
 | cons a l ih =>
  cases i with
  | zero => simp at h; subst h; simp [List.flatMap_cons]
  | succ i =>
   have := ih i (by simpa using h)
   simp only [List.flatMap_cons, List.cons_append, List.nil_append]
   rw [show (i + 1) * 2 = i * 2 + 1 + 1 by omega]
   simpa using this
theorem StkV.below {w w' : World} {B : Nat} {v : Value} {xs : List V} (h : StkV w B v xs) (hb : Below w.heap.size w w') : StkV w' B v xs :=
 own_chg h (Chg.of_below hb : Chg (fun _ => False) w w') (fun _ _ e => e)
theorem StkV.cut {w : World} {B n c : Nat} {A : Option Addr} {xs ys : List V} (h : StkV w B (.slice A n c) (xs ++ ys)) : StkV w B (.slice A xs.length c) xs := by
 unfold StkV at h ⊢
 have hn : n = (xs ++ ys).length := by
  obtain ⟨_, ⟨hv, _⟩ | ⟨g, cap, cur, hv, _⟩⟩ := h
  ·injection hv with _ h1 _; omega
  ·injection hv
 subst hn
 have := own_take h (m := xs.length) (by simp)
 rw [List.flatMap_append, List.take_append_of_le_length (by rw [flatV_len]; omega), List.take_of_length_le (by rw [flatV_len]; omega)] at this
 exact this
theorem StkV.cell {w : World} {B : Nat} {v : Value} {xs : List V} (h : StkV w B v xs) (hp : 0 < xs.length) : ∃ g cap, v = .slice (some ⟨g, 0, none⟩) xs.length cap ∧ xs.length ≤ cap ∧ ∀ (i : Nat) x, xs[i]? = some x → w.cell? ⟨g, i * 2, none⟩ = some (.int .i64 x.1) ∧ w.cell? ⟨g, i * 2 + 1, none⟩ = some (.int .i64 x.2) := by
 obtain ⟨g, cap, hv, _, _, h1, _, h2, _⟩ := own_shape h hp
 exact ⟨g, cap, hv, h1, fun i x hx => ⟨h2 _ _ (flatV_at xs i x hx).1, h2 _ _ (flatV_at xs i x hx).2⟩⟩
theorem val_info : (Tryz.prog.info? 147).map (fun i => (i.zero, i.size, i.bytes)) = some (some (.agg #[.int .i64 0, .int .i64 0]), 2, 16) := by kernel_rfl
theorem run_eql_iface_nil_left {P : Program} (w : World) {ti : TypeId} {ms : Array (String × TypeId)} (tp : TypeId) (v : Value) (hi : P.underlying ti = some (.interface ms)) :
  (binOp .eql ti .nilIface (.iface tp v)).run P w = .ok (.bool false) w := by
 have h : ∀ d : Nat, (Op.equalIn (d + 1) ti .nilIface (.iface tp v)).run P w = .ok false w := fun d => by simp [Op.equalIn, run_underlying hi]
 simp only [binOp]
 simp [Op.equal, Op.maxDepth, h 9999]
theorem eqErrNil (w : World) (v : Value) : (binOp .eql 30 .nilIface (.iface 67 v)).run Tryz.prog w = .ok (.bool false) w :=
 run_eql_iface_nil_left w _ v Tryz.underlying30
def runR (look : Int → Option Int) (typed : Bool) (p : List T) : Except Int V := if may p then valueE look typed p else .error 2
theorem value_failE {look : Int → Option Int} {typed : Bool} (p : List T) (q : Nat) {t : T} {xs : List V} {e : Int} (h1 : runsE look typed (p.take (q + 1)) [] = stepE look typed t xs) (h2 : stepE look typed t xs = .error e) : valueE look typed p = .error e := by
 rw [h2] at h1
 have := runs_fail _ _ _ p (q + 1) h1
 unfold valueE value
 rw [this]
 rfl
theorem leafE_nine (look : Int → Option Int) (t : T) (typed : Bool) : zeroE typed (leafE look t) = leafE look t := by
 unfold leafE zeroE
 repeat' split
 all_goals first | rfl | simp_all
theorem oneE_nine (t : T) (a : V) (typed : Bool) : zeroE typed (oneE t a) = oneE t a := by
 unfold oneE zeroE
 repeat' split
 all_goals first | rfl | simp_all
theorem run_any (f : FuncId) (hrun : ∀ (args : Array Value) (w : World), (callFunc f args).run Tryz.prog w = .ok (.enter f args) w) (cp : Value) (look : Int → Option Int) (typed : Bool)
  (A : Option Addr) (cap : Nat) (p : List T) (w : World) (hc : p.length ≤ cap) (hC : ToksC w A p.length p) (hl : LookC f cp look w.heap.size w) :
  Calls Tryz.prog 132 #[.slice A p.length cap, .func (.func f) #[] #[cp], .bool typed] w fun e w' => e = .returned (retE (runR look typed p)) ∧ Below w.heap.size w w' := by
 have HC := Lib.hid hC
 have HL := Lib.hid hl
 clear hC hl
 have k6 := eqErr
 have k7 := neErrNil
 have k8 := eqErrNil
 cases hm : may p with
 | false =>
  have HX := Lib.hid (show runR look typed p = .error 2 by unfold runR; rw [if_neg (by simp [hm])])
  go_enter Tryz.func132, Tryz.ntmps132
  go_wp2_with fail
  refine (may_any A cap p _ (Kd.C_alloc HC.out _) hc).mono ?_
  rw [hm]
  rintro e w1 ⟨rfl, hb1⟩
  obtain ⟨hk, c0, c1, f0, f1, hlt, hbw⟩ := laid2 hb1
  have HK := Lib.hid hk
  clear hk hb1
  go_wp2_with fail
  refine bodyPost_ret (results_ct rfl _ _ w.heap.size 147 #[.int .i64 _, .int .i64 _] (0, 0) _ rfl (blk_set2 HK.out _ _) Tryz.underlying147 rfl (by kernel_rfl)) rfl ?_
  exact ⟨by rw [HX.out]; rfl, below_set2 hbw (Nat.le_refl _) _ _⟩
 | true =>
  have hmg : mayGo p 0 = some 1 := by unfold may at hm; simp at hm; exact hm.2
  have hl : p.length ≤ 100 := by unfold may at hm; simp at hm; exact hm.1
  have HX : Hid (runR look typed p = valueE look typed p) := Lib.hid (by unfold runR; rw [if_pos hm])
  have HM := Lib.hid hmg
  clear hmg
  go_enter Tryz.func132, Tryz.ntmps132
  go_wp2_with fail
  refine (may_any A cap p _ (Kd.C_alloc HC.out _) hc).mono ?_
  rw [hm]
  rintro e w1 ⟨rfl, hb1⟩
  obtain ⟨hk1, _, _, _, _, hlt1, hbw1⟩ := laid2 hb1
  have HK1 := Lib.hid hk1
  clear hm hb1 hk1
  go_wp2_with fail
  go_loopw [8, 22] (fun v i wr => ∃ (q : Nat) (xs : List V), i = .int .i64 q ∧ q ≤ p.length ∧ xs.length ≤ q ∧ (∃ A1 c1, v = .slice A1 xs.length c1) ∧ Hid (runsE look typed (p.take q) [] = .ok xs ∧ StkV wr w1.heap.size v xs ∧ Below w1.heap.size w1 wr))
   (fun _ i _ => p.length - (intOf i).toNat)
  case atStart => exact ⟨0, [], rfl, by omega, by simp, ⟨_, _, rfl⟩, Lib.hid ⟨rfl, ⟨by simp, .inl ⟨rfl, rfl⟩⟩, Below.refl _ _⟩⟩
  case round =>
   obtain ⟨q, xs, rfl, hq, hxq, ⟨A1, c1, rfl⟩, HI⟩ := hrel
   obtain ⟨hrun', hst, hbr⟩ := HI.out
   clear HI
   have hzr : w.heap.size < wr.heap.size := Nat.lt_of_lt_of_le hlt1 hbr.size
   have HKr := Lib.hid ((hbr.block w.heap.size (by omega)).trans HK1.out)
   have hbwr : Below w.heap.size w wr := hbw1.trans (hbr.mono hbw1.size)
   by_cases hlt : q < p.length
   ·have hmay := may_at _ _ _ HM.out q hlt hrun'
    have hnext : runsE look typed (p.take (q + 1)) [] = stepE look typed p[q] xs := runs_snoc _ _ _ p q hlt hrun'
    obtain ⟨ad, hA, x0, x1, x2⟩ := PAll.at_T131 (Kd.C_below HC.out hbwr) q (by omega) (by omega)
    subst hA
    have hti : PAll.rd_T131 p q = p[q] := by simp [PAll.rd_T131, List.getD_eq_getElem?_getD, List.getElem?_eq_getElem hlt]
    rw [hti] at x0 x1 x2
    simp only [Int.toNat_natCast] at x0 x1 x2
    generalize htk : p[q] = t at *
    have HN := Lib.hid hnext
    have HR := Lib.hid hrun'
    have HS := Lib.hid hst
    have HBR := Lib.hid hbr
    have HLr := Lib.hid ((HL.out.below hbwr).below (((Below.refl _ _).alloc (by omega) (.cells #[.int .i64 t.f0, .int .i64 t.f1, .int .i64 t.f2] 131)).mono (Nat.le_of_lt hzr)))
    clear hnext hrun' hst hbr hti hbwr
    have p1 : (0 ≤ (q : Int)) = True := eq_true (by omega)
    have p2 : ((q : Int) < (p.length : Int)) = True := eq_true (by omega)
    go_wp2_with fail
    refine (leaf_any f hrun cp look t hmay.1 w.heap.size _ (by simp; omega) HLr.out).mono ?_
    rintro e w2 ⟨rfl, hb2⟩
    obtain ⟨k0, k1, k2, f0, f1, f2, hz2, hbw2⟩ := laid3 hb2
    have HS2 := Lib.hid (HS.out.below hbw2)
    have HB2 := Lib.hid (HBR.out.trans (hbw2.mono HBR.out.size))
    have HK2 := Lib.hid ((hbw2.block w.heap.size hzr).trans HKr.out)
    have hlw : w1.heap.size ≤ w2.heap.size := HB2.out.size
    have hcap : xs.length ≤ c1 := by
     by_cases h0 : 0 < xs.length
     ·obtain ⟨g, cap, hv, h1, _⟩ := HS.out.cell h0
      injection hv with _ _ h2
      omega
     ·omega
    clear HS HBR hbw2 htk x0 x1 x2 hb2 HLr
    obtain ⟨k, n, c⟩ := t
    simp only at k0 k1 k2
    rcases takes_cases ⟨k, n, c⟩ with e | e | e | e
    ·omega
    ·obtain ⟨r, hr0⟩ : ∃ r, r = xs := ⟨xs, rfl⟩
     have hlr : xs.length = r.length := by rw [hr0]
     rw [← hr0] at HS2
     rw [hlr]
     cases hv : leafE look ⟨k, n, c⟩ with
     | ok v =>
      have HE : Hid (stepE look typed ⟨k, n, c⟩ xs = .ok (r ++ [v])) := Lib.hid (by rw [stepE, step_leaf _ _ _ e, hv, hr0]; rfl)
      have hlf : leafR look ⟨k, n, c⟩ = .tuple #[.agg #[.int .i64 v.1, .int .i64 v.2], .bool true, .nilIface] := by rw [leafR, if_pos e, hv]; rfl
      rw [hlf]
      clear hlf hv hr0
      have HSt : Hid (StkV (w2.alloc (.cells #[.int .i64 v.1, .int .i64 v.2] 147)) w1.heap.size (.slice A1 r.length c1) r) := Lib.hid (HS2.out.below ((Below.refl _ _).alloc (Nat.le_refl _) _))
      have HBt : Hid (Below w1.heap.size w1 (w2.alloc (.cells #[.int .i64 v.1, .int .i64 v.2] 147))) := Lib.hid (HB2.out.alloc (by omega) _)
      have HKt := Lib.hid (blk_alloc (.cells #[.int .i64 v.1, .int .i64 v.2] 147) HK2.out)
      clear HS2 HB2 HK2
      have HS4 := HSt
      have HB4 := HBt
      have HK4 := HKt
      have hlw4 := HB4.out.size
      clear HSt HBt HKt
      go_wp2_with (at_builtin; refine app_one rfl (.tmp 90) (.tmp 92) 191 147 (.agg #[.int .i64 0, .int .i64 0]) 2 16 rfl Tryz.underlying191 val_info rfl (by decide) (by decide) w1.heap.size (.slice A1 r.length c1) r.length (r.flatMap fun v => [.int .i64 v.1, .int .i64 v.2]) #[.int .i64 v.1, .int .i64 v.2] _ rfl rfl ?aN1 rfl ?aC1 ?aO1 ?aB1 ?aL1 ?_)
      try (case aN1 => first | rfl | simp)
      case aC1 => first | rfl | (intro u hu; simp at hu; rcases hu with rfl | rfl <;> rfl) | (exact ⟨rfl, rfl⟩) | simp
      case aO1 => exact HS4.out
      case aB1 => first | exact HB4.out.size | (have := HB4.out.size; simpa using this)
      case aL1 => omega
      intro v4 w4 hown hchg hat
      have HB5 : Hid (Below w1.heap.size w1 w4) := Lib.hid (HB4.out.trans (hchg.below HB4.out.size (fun k hk e => by have := own_lt HS4.out k e; omega)))
      have hS4 : StkV w4 w1.heap.size v4 (r ++ [v]) := by unfold StkV; simpa using hown
      obtain ⟨A4, c4, rfl⟩ := own_slice hown
      have HS5 := Lib.hid hS4
      clear hown hchg hat hS4 HS4 HK4
      go_wp2_with fail
      go_roundw
      case rel => exact ⟨q + 1, r ++ [v], by go_num, by omega, by simp; omega, ⟨A4, c4, by simp⟩, Lib.hid ⟨by rw [HN.out, HE.out], HS5.out, HB5.out⟩⟩
      case measure => simp [intOf]; omega
     | error x =>
      have HE : Hid (stepE look typed ⟨k, n, c⟩ xs = .error x) := Lib.hid (by rw [stepE, step_leaf _ _ _ e, hv]; rfl)
      have hx9 : (x == 9) = false := by
       have h9 := leafE_nine look ⟨k, n, c⟩ true
       rw [hv] at h9
       refine beq_eq_false_iff_ne.mpr (fun e9 => ?_)
       subst e9
       exact absurd h9 (by simp [zeroE])
      have hlf : leafR look ⟨k, n, c⟩ = .tuple #[.agg #[.int .i64 0, .int .i64 0], .bool true, .iface 67 (.int .i64 x)] := by rw [leafR, if_pos e, hv]; rfl
      rw [hlf]
      clear hlf hv hr0
      have HSt := HS2
      have HBt : Hid (Below w1.heap.size w1 (w2.alloc (.cells #[.int .i64 0, .int .i64 0] 147))) := Lib.hid (HB2.out.alloc (by omega) _)
      have HKt := Lib.hid (blk_alloc (.cells #[.int .i64 0, .int .i64 0] 147) HK2.out)
      clear HS2 HB2 HK2
      obtain ⟨c0, c1', f0', f1'⟩ : _ ∧ _ ∧ _ ∧ _ := ⟨blk_cell HKt.out 0, blk_cell HKt.out 1, blk_free HKt.out 0, blk_free HKt.out 1⟩
      have HB4 := HBt
      have HK4 := HKt
      have hlw4 := HB4.out.size
      clear HSt HBt HKt
      go_wp2_with fail
      refine bodyPost_ret (results_ct rfl _ _ w.heap.size 147 #[.int .i64 _, .int .i64 _] (0, 0) _ rfl (blk_set2 HK4.out _ _) Tryz.underlying147 rfl (by kernel_rfl)) rfl ?_
      exact ⟨by rw [HX.out, value_failE p q HN.out HE.out]; rfl, below_set2 (hbw1.trans (HB4.out.mono hbw1.size)) (Nat.le_refl _) _ _⟩
    ·have hk1 := takes1 e
     simp only at hk1
     rw [e] at hmay
     have hlf : leafR look ⟨k, n, c⟩ = .tuple #[.agg #[.int .i64 0, .int .i64 0], .bool false, .nilIface] := by rw [leafR, if_neg (by omega)]; rfl
     rw [hlf]
     clear hlf
     obtain ⟨r, a, hxa⟩ := one_last xs (by omega)
     obtain ⟨g1, cp1, hv1, _, hcell⟩ := HS2.out.cell (by omega)
     injection hv1 with hv1 _ hv2
     subst hv1 hv2
     have hlr : xs.length = r.length + 1 := by rw [hxa]; simp
     obtain ⟨ca0, ca1⟩ := hcell r.length a (by rw [hxa]; simp)
     have HXA := Lib.hid hxa
     have HR2 : Hid (StkV w2 w1.heap.size (.slice (some ⟨g1, 0, none⟩) r.length c1) r) := Lib.hid (by have h := HS2.out; rw [hxa] at h; exact h.cut)
     clear hxa hcell HS2
     have hal : Below w2.heap.size w2 (w2.alloc (.cells #[.int .i64 0, .int .i64 0] 147)) := (Below.refl _ _).alloc (Nat.le_refl _) _
     have k0' := (hal.cell (p := ⟨wr.heap.size, 0, none⟩) hz2).trans k0
     have ca0' := (hal.cell (p := ⟨g1, r.length * 2, none⟩) (World.block_lt_of_cell? _ _ ca0)).trans ca0
     have ca1' := (hal.cell (p := ⟨g1, r.length * 2 + 1, none⟩) (World.block_lt_of_cell? _ _ ca1)).trans ca1
     have HV : Hid ((w2.alloc (.cells #[.int .i64 0, .int .i64 0] 147)).heap[w2.heap.size]? = some (.cells #[.int .i64 0, .int .i64 0] 147 (0, 0))) := Lib.hid (blk_new _ _)
     have e8 : (xs.length : Int) - 1 = (r.length : Int) := by omega
     have q1 : (0 ≤ (r.length : Int)) = True := eq_true (by omega)
     have q2 : ((r.length : Int) < (xs.length : Int)) = True := eq_true (by omega)
     have q3 : ((r.length : Int) < (r.length : Int) + 1) = True := eq_true (by omega)
     rcases hk1 with rfl | rfl
     ·go_wp2_with fail
      refine start_ (n := 12) (S := fun w' => w'.cell? ⟨wr.heap.size, 0, none⟩ = some (.int .i64 14) ∧ w'.cell? ⟨g1, r.length * 2, none⟩ = some (.int .i64 a.1) ∧ w'.cell? ⟨g1, r.length * 2 + 1, none⟩ = some (.int .i64 a.2)) (ds := [6, 10]) (tf12 0) (by kernel_rfl) rfl (by kernel_rfl) ⟨k0', ca0', ca1'⟩ (fun hHeld => ?_)
      refine pxt_ (v := ?_) (a' := ?_) rfl rfl (by kernel_rfl) (fun _ _ _ h => h) (Or.inl ⟨by rfl, ?_⟩) ?_ ?_
      rotate_left
      ·intro w'
       go_simp
       first | done | with_reducible rfl
      rotate_left
      ·simp only [Act.put, List.setIfInBounds_toArray, List.set_cons_zero, List.set_cons_succ, i64_w, i32_w]
       first | done | rfl
      refine nxt_ (v := ?_) (a' := ?_) rfl rfl (by kernel_rfl) (fun _ _ _ h => h) (Or.inl ⟨by rfl, ?_⟩) hHeld ?_ ?_
      rotate_left
      ·rintro w' ⟨s0, s1, s2⟩
       go_simp
       first | done | with_reducible rfl
      rotate_left
      ·simp only [Act.put, List.setIfInBounds_toArray, List.set_cons_zero, List.set_cons_succ, i64_w, i32_w]
       first | done | rfl
      iterate 3
       refine pxt_ (v := ?_) (a' := ?_) rfl rfl (by kernel_rfl) (fun _ _ _ h => h) (Or.inl ⟨by rfl, ?_⟩) ?_ ?_
       rotate_left
       ·intro w'
        go_simp
        first | done | with_reducible rfl
       rotate_left
       ·simp only [Act.put, List.setIfInBounds_toArray, List.set_cons_zero, List.set_cons_succ, i64_w, i32_w]
        first | done | rfl
      refine nxt_ (v := ?_) (a' := ?_) rfl rfl (by kernel_rfl) (fun _ _ _ h => h) (Or.inl ⟨by rfl, ?_⟩) hHeld ?_ ?_
      rotate_left
      ·rintro w' ⟨s0, s1, s2⟩
       go_simp
       first | done | with_reducible rfl
      rotate_left
      ·simp only [Act.put, List.setIfInBounds_toArray, List.set_cons_zero, List.set_cons_succ, i64_w, i32_w]
       first | done | rfl
      refine last_ (i := 6) (N := some 73) (tf12 7) rfl rfl (by kernel_rfl) (by decide) (fun K hK => ?_)
      refine goes_ Tryz.func143 (by kernel_rfl) rfl #[.int .i64 14, agV a] (by rfl) rfl rfl (by first | rfl | (go_simp; done) | (go_simp; exact ⟨rfl, rfl⟩) | (go_simp; rfl)) ?_
      refine (alone_any 14 a _).mono ?_
      rintro e3 w3 ⟨rfl, hb3⟩
      refine ⟨_, rfl, hK.out _ _ ?_⟩
      clear hK K
      have hb3' : Below w2.heap.size w2 w3 := ((below_drewN' hal 1).trans (hb3.mono (by simp)))
      have HV3 := Lib.hid ((hb3.block w2.heap.size (by simp)).trans HV.out)
      have v0 : w3.cell? ⟨w2.heap.size, 0, none⟩ = some (.int .i64 0) := blk_cell HV3.out 0
      have v1 : w3.cell? ⟨w2.heap.size, 1, none⟩ = some (.int .i64 0) := blk_cell HV3.out 1
      have vf0 : w3.frozen? ⟨w2.heap.size, 0, none⟩ = false := blk_free HV3.out 0
      have vf1 : w3.frozen? ⟨w2.heap.size, 1, none⟩ = false := blk_free HV3.out 1
      clear ca0' ca1' k0' hal hHeld HV hb3
      cases hv : oneE ⟨14, 0, 0⟩ a with
      | ok v =>
       simp only [retE, agV]
       iterate 3
        refine pxt_ (v := ?_) (a' := ?_) rfl rfl (by kernel_rfl) (fun _ _ _ h => h) (Or.inl ⟨by rfl, ?_⟩) ?_ ?_
        rotate_left
        ·intro w'
         go_simp
         first | done | with_reducible rfl
        rotate_left
        ·simp only [Act.put, List.setIfInBounds_toArray, List.set_cons_zero, List.set_cons_succ, i64_w, i32_w]
         first | done | rfl
       refine last_ (i := 10) (N := none) (tf12 11) rfl rfl (by kernel_rfl) (by decide) (fun K hK => ?_)
       refine skip_ (w1 := ?_) (by rfl) rfl ?_ ?_
       rotate_left
       ·go_simp
        rfl
       refine hK.out _ _ ?_
       clear hK K
       refine pxt_ (v := ?_) (a' := ?_) rfl rfl (by kernel_rfl) (fun _ _ _ h => h) (Or.inl ⟨by rfl, ?_⟩) ?_ ?_
       rotate_left
       ·intro w'
        go_simp
        first | done | with_reducible rfl
       rotate_left
       ·simp only [Act.put, List.setIfInBounds_toArray, List.set_cons_zero, List.set_cons_succ, i64_w, i32_w]
        first | done | rfl
       refine done_ (by kernel_rfl) ?_
       have HE : Hid (stepE look typed ⟨14, n, c⟩ xs = .ok (r ++ [v])) := Lib.hid (by rw [HXA.out, stepE, step_one _ _ _ e, oneE_kind, hv]; rfl)
       clear hv
       have HSt : Hid (StkV ((w3.setCell ⟨w2.heap.size, 0, none⟩ (.int .i64 v.1)).setCell ⟨w2.heap.size, 1, none⟩ (.int .i64 v.2)) w1.heap.size (.slice (some ⟨g1, 0, none⟩) r.length c1) r) := Lib.hid (own_far (own_far (HR2.out.below hb3') (fun e => absurd (own_lt HR2.out _ e).2 (Nat.lt_irrefl _)) _) (fun e => absurd (own_lt HR2.out _ e).2 (Nat.lt_irrefl _)) _)
       have HBt : Hid (Below w1.heap.size w1 ((w3.setCell ⟨w2.heap.size, 0, none⟩ (.int .i64 v.1)).setCell ⟨w2.heap.size, 1, none⟩ (.int .i64 v.2))) := Lib.hid (below_set2 (HB2.out.trans (hb3'.mono HB2.out.size)) HB2.out.size _ _)
       have HKt : Hid (((w3.setCell ⟨w2.heap.size, 0, none⟩ (.int .i64 v.1)).setCell ⟨w2.heap.size, 1, none⟩ (.int .i64 v.2)).heap[w.heap.size]? = some (.cells #[.int .i64 0, .int .i64 0] 147 (0, 0))) := Lib.hid (blk_far (blk_far ((hb3'.block _ (by omega)).trans HK2.out) (by show w.heap.size ≠ w2.heap.size; omega) _) (by show w.heap.size ≠ w2.heap.size; omega) _)
       have vc0 : ((w3.setCell ⟨w2.heap.size, 0, none⟩ (.int .i64 v.1)).setCell ⟨w2.heap.size, 1, none⟩ (.int .i64 v.2)).cell? ⟨w2.heap.size, 0, none⟩ = some (.int .i64 v.1) := blk_cell (blk_set2 HV3.out _ _) 0
       have vc1 : ((w3.setCell ⟨w2.heap.size, 0, none⟩ (.int .i64 v.1)).setCell ⟨w2.heap.size, 1, none⟩ (.int .i64 v.2)).cell? ⟨w2.heap.size, 1, none⟩ = some (.int .i64 v.2) := blk_cell (blk_set2 HV3.out _ _) 1
       clear HR2 HB2 HK2 HV3 v0 v1 vf0 vf1 hb3'
       have HS4 := HSt
       have HB4 := HBt
       have HK4 := HKt
       have hlw4 := HB4.out.size
       clear HSt HBt HKt
       go_wp2_with (at_builtin; refine app_one rfl (.tmp 90) (.tmp 92) 191 147 (.agg #[.int .i64 0, .int .i64 0]) 2 16 rfl Tryz.underlying191 val_info rfl (by decide) (by decide) w1.heap.size (.slice (some ⟨g1, 0, none⟩) r.length c1) r.length (r.flatMap fun v => [.int .i64 v.1, .int .i64 v.2]) #[.int .i64 v.1, .int .i64 v.2] _ rfl rfl ?aN2 rfl ?aC2 ?aO2 ?aB2 ?aL2 ?_)
       try (case aN2 => first | rfl | simp)
       case aC2 => first | rfl | (intro u hu; simp at hu; rcases hu with rfl | rfl <;> rfl) | (exact ⟨rfl, rfl⟩) | simp
       case aO2 => exact HS4.out
       case aB2 => first | exact HB4.out.size | (have := HB4.out.size; simpa using this)
       case aL2 => omega
       intro v4 w4 hown hchg hat
       have HB5 : Hid (Below w1.heap.size w1 w4) := Lib.hid (HB4.out.trans (hchg.below HB4.out.size (fun k hk e => by have := own_lt HS4.out k e; omega)))
       have hS4 : StkV w4 w1.heap.size v4 (r ++ [v]) := by unfold StkV; simpa using hown
       obtain ⟨A4, c4, rfl⟩ := own_slice hown
       have HS5 := Lib.hid hS4
       clear hown hchg hat hS4 HS4 HK4
       go_wp2_with fail
       go_roundw
       case rel => exact ⟨q + 1, r ++ [v], by go_num, by omega, by simp; omega, ⟨A4, c4, by simp⟩, Lib.hid ⟨by rw [HN.out, HE.out], HS5.out, HB5.out⟩⟩
       case measure => simp [intOf]; omega
      | error x =>
       simp only [retE, agV]
       iterate 3
        refine pxt_ (v := ?_) (a' := ?_) rfl rfl (by kernel_rfl) (fun _ _ _ h => h) (Or.inl ⟨by rfl, ?_⟩) ?_ ?_
        rotate_left
        ·intro w'
         go_simp
         first | done | with_reducible rfl
        rotate_left
        ·simp only [Act.put, List.setIfInBounds_toArray, List.set_cons_zero, List.set_cons_succ, i64_w, i32_w]
         first | done | rfl
       refine last_ (i := 10) (N := none) (tf12 11) rfl rfl (by kernel_rfl) (by decide) (fun K hK => ?_)
       refine skip_ (w1 := ?_) (by rfl) rfl ?_ ?_
       rotate_left
       ·go_simp
        rfl
       refine hK.out _ _ ?_
       clear hK K
       refine pxt_ (v := ?_) (a' := ?_) rfl rfl (by kernel_rfl) (fun _ _ _ h => h) (Or.inl ⟨by rfl, ?_⟩) ?_ ?_
       rotate_left
       ·intro w'
        go_simp
        first | done | with_reducible rfl
       rotate_left
       ·simp only [Act.put, List.setIfInBounds_toArray, List.set_cons_zero, List.set_cons_succ, i64_w, i32_w]
        first | done | rfl
       refine done_ (by kernel_rfl) ?_
       have hx9 : (x == 9) = false := by
        have h9 := oneE_nine ⟨14, 0, 0⟩ a true
        rw [hv] at h9
        refine beq_eq_false_iff_ne.mpr (fun e9 => ?_)
        subst e9
        exact absurd h9 (by simp [zeroE])
       have HE : Hid (stepE look typed ⟨14, n, c⟩ xs = .error x) := Lib.hid (by rw [HXA.out, stepE, step_one _ _ _ e, oneE_kind, hv]; rfl)
       clear hv
       have HSt : Hid (StkV ((w3.setCell ⟨w2.heap.size, 0, none⟩ (.int .i64 0)).setCell ⟨w2.heap.size, 1, none⟩ (.int .i64 0)) w1.heap.size (.slice (some ⟨g1, 0, none⟩) r.length c1) r) := Lib.hid (own_far (own_far (HR2.out.below hb3') (fun e => absurd (own_lt HR2.out _ e).2 (Nat.lt_irrefl _)) _) (fun e => absurd (own_lt HR2.out _ e).2 (Nat.lt_irrefl _)) _)
       have HBt : Hid (Below w1.heap.size w1 ((w3.setCell ⟨w2.heap.size, 0, none⟩ (.int .i64 0)).setCell ⟨w2.heap.size, 1, none⟩ (.int .i64 0))) := Lib.hid (below_set2 (HB2.out.trans (hb3'.mono HB2.out.size)) HB2.out.size _ _)
       have HKt : Hid (((w3.setCell ⟨w2.heap.size, 0, none⟩ (.int .i64 0)).setCell ⟨w2.heap.size, 1, none⟩ (.int .i64 0)).heap[w.heap.size]? = some (.cells #[.int .i64 0, .int .i64 0] 147 (0, 0))) := Lib.hid (blk_far (blk_far ((hb3'.block _ (by omega)).trans HK2.out) (by show w.heap.size ≠ w2.heap.size; omega) _) (by show w.heap.size ≠ w2.heap.size; omega) _)
       have HSx := HSt
       have vc0 : ((w3.setCell ⟨w2.heap.size, 0, none⟩ (.int .i64 0)).setCell ⟨w2.heap.size, 1, none⟩ (.int .i64 0)).cell? ⟨w2.heap.size, 0, none⟩ = some (.int .i64 0) := blk_cell (blk_set2 HV3.out _ _) 0
       have vc1 : ((w3.setCell ⟨w2.heap.size, 0, none⟩ (.int .i64 0)).setCell ⟨w2.heap.size, 1, none⟩ (.int .i64 0)).cell? ⟨w2.heap.size, 1, none⟩ = some (.int .i64 0) := blk_cell (blk_set2 HV3.out _ _) 1
       clear HR2 HB2 HK2 HV3 v0 v1 vf0 vf1 hb3'
       obtain ⟨c0, c1', f0', f1'⟩ : _ ∧ _ ∧ _ ∧ _ := ⟨blk_cell HKt.out 0, blk_cell HKt.out 1, blk_free HKt.out 0, blk_free HKt.out 1⟩
       have HB4 := HBt
       have HK4 := HKt
       have hlw4 := HB4.out.size
       clear HSt HBt HKt
       go_wp2_with fail
       refine bodyPost_ret (results_ct rfl _ _ w.heap.size 147 #[.int .i64 _, .int .i64 _] (0, 0) _ rfl (blk_set2 HK4.out _ _) Tryz.underlying147 rfl (by kernel_rfl)) rfl ?_
       exact ⟨by rw [HX.out, value_failE p q HN.out HE.out]; rfl, below_set2 (hbw1.trans (HB4.out.mono hbw1.size)) (Nat.le_refl _) _ _⟩
     ·go_wp2_with fail
      refine start_ (n := 12) (S := fun w' => w'.cell? ⟨wr.heap.size, 0, none⟩ = some (.int .i64 19) ∧ w'.cell? ⟨g1, r.length * 2, none⟩ = some (.int .i64 a.1) ∧ w'.cell? ⟨g1, r.length * 2 + 1, none⟩ = some (.int .i64 a.2)) (ds := [6, 10]) (tf12 0) (by kernel_rfl) rfl (by kernel_rfl) ⟨k0', ca0', ca1'⟩ (fun hHeld => ?_)
      refine pxt_ (v := ?_) (a' := ?_) rfl rfl (by kernel_rfl) (fun _ _ _ h => h) (Or.inl ⟨by rfl, ?_⟩) ?_ ?_
      rotate_left
      ·intro w'
       go_simp
       first | done | with_reducible rfl
      rotate_left
      ·simp only [Act.put, List.setIfInBounds_toArray, List.set_cons_zero, List.set_cons_succ, i64_w, i32_w]
       first | done | rfl
      refine nxt_ (v := ?_) (a' := ?_) rfl rfl (by kernel_rfl) (fun _ _ _ h => h) (Or.inl ⟨by rfl, ?_⟩) hHeld ?_ ?_
      rotate_left
      ·rintro w' ⟨s0, s1, s2⟩
       go_simp
       first | done | with_reducible rfl
      rotate_left
      ·simp only [Act.put, List.setIfInBounds_toArray, List.set_cons_zero, List.set_cons_succ, i64_w, i32_w]
       first | done | rfl
      iterate 3
       refine pxt_ (v := ?_) (a' := ?_) rfl rfl (by kernel_rfl) (fun _ _ _ h => h) (Or.inl ⟨by rfl, ?_⟩) ?_ ?_
       rotate_left
       ·intro w'
        go_simp
        first | done | with_reducible rfl
       rotate_left
       ·simp only [Act.put, List.setIfInBounds_toArray, List.set_cons_zero, List.set_cons_succ, i64_w, i32_w]
        first | done | rfl
      refine nxt_ (v := ?_) (a' := ?_) rfl rfl (by kernel_rfl) (fun _ _ _ h => h) (Or.inl ⟨by rfl, ?_⟩) hHeld ?_ ?_
      rotate_left
      ·rintro w' ⟨s0, s1, s2⟩
       go_simp
       first | done | with_reducible rfl
      rotate_left
      ·simp only [Act.put, List.setIfInBounds_toArray, List.set_cons_zero, List.set_cons_succ, i64_w, i32_w]
       first | done | rfl
      refine last_ (i := 6) (N := some 73) (tf12 7) rfl rfl (by kernel_rfl) (by decide) (fun K hK => ?_)
      refine goes_ Tryz.func143 (by kernel_rfl) rfl #[.int .i64 19, agV a] (by rfl) rfl rfl (by first | rfl | (go_simp; done) | (go_simp; exact ⟨rfl, rfl⟩) | (go_simp; rfl)) ?_
      refine (alone_any 19 a _).mono ?_
      rintro e3 w3 ⟨rfl, hb3⟩
      refine ⟨_, rfl, hK.out _ _ ?_⟩
      clear hK K
      have hb3' : Below w2.heap.size w2 w3 := ((below_drewN' hal 1).trans (hb3.mono (by simp)))
      have HV3 := Lib.hid ((hb3.block w2.heap.size (by simp)).trans HV.out)
      have v0 : w3.cell? ⟨w2.heap.size, 0, none⟩ = some (.int .i64 0) := blk_cell HV3.out 0
      have v1 : w3.cell? ⟨w2.heap.size, 1, none⟩ = some (.int .i64 0) := blk_cell HV3.out 1
      have vf0 : w3.frozen? ⟨w2.heap.size, 0, none⟩ = false := blk_free HV3.out 0
      have vf1 : w3.frozen? ⟨w2.heap.size, 1, none⟩ = false := blk_free HV3.out 1
      clear ca0' ca1' k0' hal hHeld HV hb3
      cases hv : oneE ⟨19, 0, 0⟩ a with
      | ok v =>
       simp only [retE, agV]
       iterate 3
        refine pxt_ (v := ?_) (a' := ?_) rfl rfl (by kernel_rfl) (fun _ _ _ h => h) (Or.inl ⟨by rfl, ?_⟩) ?_ ?_
        rotate_left
        ·intro w'
         go_simp
         first | done | with_reducible rfl
        rotate_left
        ·simp only [Act.put, List.setIfInBounds_toArray, List.set_cons_zero, List.set_cons_succ, i64_w, i32_w]
         first | done | rfl
       refine last_ (i := 10) (N := none) (tf12 11) rfl rfl (by kernel_rfl) (by decide) (fun K hK => ?_)
       refine skip_ (w1 := ?_) (by rfl) rfl ?_ ?_
       rotate_left
       ·go_simp
        rfl
       refine hK.out _ _ ?_
       clear hK K
       refine pxt_ (v := ?_) (a' := ?_) rfl rfl (by kernel_rfl) (fun _ _ _ h => h) (Or.inl ⟨by rfl, ?_⟩) ?_ ?_
       rotate_left
       ·intro w'
        go_simp
        first | done | with_reducible rfl
       rotate_left
       ·simp only [Act.put, List.setIfInBounds_toArray, List.set_cons_zero, List.set_cons_succ, i64_w, i32_w]
        first | done | rfl
       refine done_ (by kernel_rfl) ?_
       have HE : Hid (stepE look typed ⟨19, n, c⟩ xs = .ok (r ++ [v])) := Lib.hid (by rw [HXA.out, stepE, step_one _ _ _ e, oneE_kind, hv]; rfl)
       clear hv
       have HSt : Hid (StkV ((w3.setCell ⟨w2.heap.size, 0, none⟩ (.int .i64 v.1)).setCell ⟨w2.heap.size, 1, none⟩ (.int .i64 v.2)) w1.heap.size (.slice (some ⟨g1, 0, none⟩) r.length c1) r) := Lib.hid (own_far (own_far (HR2.out.below hb3') (fun e => absurd (own_lt HR2.out _ e).2 (Nat.lt_irrefl _)) _) (fun e => absurd (own_lt HR2.out _ e).2 (Nat.lt_irrefl _)) _)
       have HBt : Hid (Below w1.heap.size w1 ((w3.setCell ⟨w2.heap.size, 0, none⟩ (.int .i64 v.1)).setCell ⟨w2.heap.size, 1, none⟩ (.int .i64 v.2))) := Lib.hid (below_set2 (HB2.out.trans (hb3'.mono HB2.out.size)) HB2.out.size _ _)
       have HKt : Hid (((w3.setCell ⟨w2.heap.size, 0, none⟩ (.int .i64 v.1)).setCell ⟨w2.heap.size, 1, none⟩ (.int .i64 v.2)).heap[w.heap.size]? = some (.cells #[.int .i64 0, .int .i64 0] 147 (0, 0))) := Lib.hid (blk_far (blk_far ((hb3'.block _ (by omega)).trans HK2.out) (by show w.heap.size ≠ w2.heap.size; omega) _) (by show w.heap.size ≠ w2.heap.size; omega) _)
       have vc0 : ((w3.setCell ⟨w2.heap.size, 0, none⟩ (.int .i64 v.1)).setCell ⟨w2.heap.size, 1, none⟩ (.int .i64 v.2)).cell? ⟨w2.heap.size, 0, none⟩ = some (.int .i64 v.1) := blk_cell (blk_set2 HV3.out _ _) 0
       have vc1 : ((w3.setCell ⟨w2.heap.size, 0, none⟩ (.int .i64 v.1)).setCell ⟨w2.heap.size, 1, none⟩ (.int .i64 v.2)).cell? ⟨w2.heap.size, 1, none⟩ = some (.int .i64 v.2) := blk_cell (blk_set2 HV3.out _ _) 1
       clear HR2 HB2 HK2 HV3 v0 v1 vf0 vf1 hb3'
       have HS4 := HSt
       have HB4 := HBt
       have HK4 := HKt
       have hlw4 := HB4.out.size
       clear HSt HBt HKt
       go_wp2_with (at_builtin; refine app_one rfl (.tmp 90) (.tmp 92) 191 147 (.agg #[.int .i64 0, .int .i64 0]) 2 16 rfl Tryz.underlying191 val_info rfl (by decide) (by decide) w1.heap.size (.slice (some ⟨g1, 0, none⟩) r.length c1) r.length (r.flatMap fun v => [.int .i64 v.1, .int .i64 v.2]) #[.int .i64 v.1, .int .i64 v.2] _ rfl rfl ?aN3 rfl ?aC3 ?aO3 ?aB3 ?aL3 ?_)
       try (case aN3 => first | rfl | simp)
       case aC3 => first | rfl | (intro u hu; simp at hu; rcases hu with rfl | rfl <;> rfl) | (exact ⟨rfl, rfl⟩) | simp
       case aO3 => exact HS4.out
       case aB3 => first | exact HB4.out.size | (have := HB4.out.size; simpa using this)
       case aL3 => omega
       intro v4 w4 hown hchg hat
       have HB5 : Hid (Below w1.heap.size w1 w4) := Lib.hid (HB4.out.trans (hchg.below HB4.out.size (fun k hk e => by have := own_lt HS4.out k e; omega)))
       have hS4 : StkV w4 w1.heap.size v4 (r ++ [v]) := by unfold StkV; simpa using hown
       obtain ⟨A4, c4, rfl⟩ := own_slice hown
       have HS5 := Lib.hid hS4
       clear hown hchg hat hS4 HS4 HK4
       go_wp2_with fail
       go_roundw
       case rel => exact ⟨q + 1, r ++ [v], by go_num, by omega, by simp; omega, ⟨A4, c4, by simp⟩, Lib.hid ⟨by rw [HN.out, HE.out], HS5.out, HB5.out⟩⟩
       case measure => simp [intOf]; omega
      | error x =>
       simp only [retE, agV]
       iterate 3
        refine pxt_ (v := ?_) (a' := ?_) rfl rfl (by kernel_rfl) (fun _ _ _ h => h) (Or.inl ⟨by rfl, ?_⟩) ?_ ?_
        rotate_left
        ·intro w'
         go_simp
         first | done | with_reducible rfl
        rotate_left
        ·simp only [Act.put, List.setIfInBounds_toArray, List.set_cons_zero, List.set_cons_succ, i64_w, i32_w]
         first | done | rfl
       refine last_ (i := 10) (N := none) (tf12 11) rfl rfl (by kernel_rfl) (by decide) (fun K hK => ?_)
       refine skip_ (w1 := ?_) (by rfl) rfl ?_ ?_
       rotate_left
       ·go_simp
        rfl
       refine hK.out _ _ ?_
       clear hK K
       refine pxt_ (v := ?_) (a' := ?_) rfl rfl (by kernel_rfl) (fun _ _ _ h => h) (Or.inl ⟨by rfl, ?_⟩) ?_ ?_
       rotate_left
       ·intro w'
        go_simp
        first | done | with_reducible rfl
       rotate_left
       ·simp only [Act.put, List.setIfInBounds_toArray, List.set_cons_zero, List.set_cons_succ, i64_w, i32_w]
        first | done | rfl
       refine done_ (by kernel_rfl) ?_
       have hx9 : (x == 9) = false := by
        have h9 := oneE_nine ⟨19, 0, 0⟩ a true
        rw [hv] at h9
        refine beq_eq_false_iff_ne.mpr (fun e9 => ?_)
        subst e9
        exact absurd h9 (by simp [zeroE])
       have HE : Hid (stepE look typed ⟨19, n, c⟩ xs = .error x) := Lib.hid (by rw [HXA.out, stepE, step_one _ _ _ e, oneE_kind, hv]; rfl)
       clear hv
       have HSt : Hid (StkV ((w3.setCell ⟨w2.heap.size, 0, none⟩ (.int .i64 0)).setCell ⟨w2.heap.size, 1, none⟩ (.int .i64 0)) w1.heap.size (.slice (some ⟨g1, 0, none⟩) r.length c1) r) := Lib.hid (own_far (own_far (HR2.out.below hb3') (fun e => absurd (own_lt HR2.out _ e).2 (Nat.lt_irrefl _)) _) (fun e => absurd (own_lt HR2.out _ e).2 (Nat.lt_irrefl _)) _)
       have HBt : Hid (Below w1.heap.size w1 ((w3.setCell ⟨w2.heap.size, 0, none⟩ (.int .i64 0)).setCell ⟨w2.heap.size, 1, none⟩ (.int .i64 0))) := Lib.hid (below_set2 (HB2.out.trans (hb3'.mono HB2.out.size)) HB2.out.size _ _)
       have HKt : Hid (((w3.setCell ⟨w2.heap.size, 0, none⟩ (.int .i64 0)).setCell ⟨w2.heap.size, 1, none⟩ (.int .i64 0)).heap[w.heap.size]? = some (.cells #[.int .i64 0, .int .i64 0] 147 (0, 0))) := Lib.hid (blk_far (blk_far ((hb3'.block _ (by omega)).trans HK2.out) (by show w.heap.size ≠ w2.heap.size; omega) _) (by show w.heap.size ≠ w2.heap.size; omega) _)
       have HSx := HSt
       have vc0 : ((w3.setCell ⟨w2.heap.size, 0, none⟩ (.int .i64 0)).setCell ⟨w2.heap.size, 1, none⟩ (.int .i64 0)).cell? ⟨w2.heap.size, 0, none⟩ = some (.int .i64 0) := blk_cell (blk_set2 HV3.out _ _) 0
       have vc1 : ((w3.setCell ⟨w2.heap.size, 0, none⟩ (.int .i64 0)).setCell ⟨w2.heap.size, 1, none⟩ (.int .i64 0)).cell? ⟨w2.heap.size, 1, none⟩ = some (.int .i64 0) := blk_cell (blk_set2 HV3.out _ _) 1
       clear HR2 HB2 HK2 HV3 v0 v1 vf0 vf1 hb3'
       obtain ⟨c0, c1', f0', f1'⟩ : _ ∧ _ ∧ _ ∧ _ := ⟨blk_cell HKt.out 0, blk_cell HKt.out 1, blk_free HKt.out 0, blk_free HKt.out 1⟩
       have HB4 := HBt
       have HK4 := HKt
       have hlw4 := HB4.out.size
       clear HSt HBt HKt
       go_wp2_with fail
       refine bodyPost_ret (results_ct rfl _ _ w.heap.size 147 #[.int .i64 _, .int .i64 _] (0, 0) _ rfl (blk_set2 HK4.out _ _) Tryz.underlying147 rfl (by kernel_rfl)) rfl ?_
       exact ⟨by rw [HX.out, value_failE p q HN.out HE.out]; rfl, below_set2 (hbw1.trans (HB4.out.mono hbw1.size)) (Nat.le_refl _) _ _⟩
    ·obtain ⟨hk3, hk13⟩ := takes2 e
     simp only at hk3 hk13
     rw [e] at hmay
     have hlf : leafR look ⟨k, n, c⟩ = .tuple #[.agg #[.int .i64 0, .int .i64 0], .bool false, .nilIface] := by rw [leafR, if_neg (by omega)]; rfl
     rw [hlf]
     clear hlf
     obtain ⟨r, a, b, hxa⟩ := two_last xs (by omega)
     obtain ⟨g1, cp1, hv1, _, hcell⟩ := HS2.out.cell (by omega)
     injection hv1 with hv1 _ hv2
     subst hv1 hv2
     have hlr : xs.length = r.length + 2 := by rw [hxa]; simp
     obtain ⟨ca0, ca1⟩ := hcell r.length a (by rw [hxa]; simp)
     obtain ⟨cb0, cb1⟩ := hcell (r.length + 1) b (by rw [hxa, List.getElem?_append_right (by omega)]; simp)
     have HXA := Lib.hid hxa
     have HR2 : Hid (StkV w2 w1.heap.size (.slice (some ⟨g1, 0, none⟩) r.length c1) r) := Lib.hid (by have h := HS2.out; rw [hxa] at h; exact h.cut)
     clear hxa hcell HS2
     have hal : Below w2.heap.size w2 (w2.alloc (.cells #[.int .i64 0, .int .i64 0] 147)) := (Below.refl _ _).alloc (Nat.le_refl _) _
     have k0' := (hal.cell (p := ⟨wr.heap.size, 0, none⟩) hz2).trans k0
     have ca0' := (hal.cell (p := ⟨g1, r.length * 2, none⟩) (World.block_lt_of_cell? _ _ ca0)).trans ca0
     have ca1' := (hal.cell (p := ⟨g1, r.length * 2 + 1, none⟩) (World.block_lt_of_cell? _ _ ca1)).trans ca1
     have cb0' := (hal.cell (p := ⟨g1, (r.length + 1) * 2, none⟩) (World.block_lt_of_cell? _ _ cb0)).trans cb0
     have cb1' := (hal.cell (p := ⟨g1, (r.length + 1) * 2 + 1, none⟩) (World.block_lt_of_cell? _ _ cb1)).trans cb1
     have HV : Hid ((w2.alloc (.cells #[.int .i64 0, .int .i64 0] 147)).heap[w2.heap.size]? = some (.cells #[.int .i64 0, .int .i64 0] 147 (0, 0))) := Lib.hid (blk_new _ _)
     have n19 : (k == 19) = false := beq_eq_false_iff_ne.mpr (by omega)
     have n14 : (k == 14) = false := beq_eq_false_iff_ne.mpr (by omega)
     have e8 : (xs.length : Int) - 1 = (r.length : Int) + 1 := by omega
     have e9 : (r.length : Int) + 2 - 1 = (r.length : Int) + 1 := by omega
     have e10 : (r.length : Int) + 1 - 1 = (r.length : Int) := by omega
     have q1 : (0 ≤ (r.length : Int)) = True := eq_true (by omega)
     have q2 : ((r.length : Int) < (r.length : Int) + 2) = True := eq_true (by omega)
     have q3 : (0 ≤ (r.length : Int) + 1) = True := eq_true (by omega)
     have q4 : ((r.length : Int) + 1 < (r.length : Int) + 2) = True := eq_true (by omega)
     have hrl : r.length ≤ 100 := by omega
     have hg1 : g1 < w2.heap.size := World.block_lt_of_cell? _ _ ca0
     have hng : g1 ≠ w2.heap.size := by omega
     have hnw : wr.heap.size ≠ w2.heap.size := by omega
     have e12 : wrap64 (r.length : Int) = (r.length : Int) := w64 (by omega) (by omega)
     have E12 := Lib.hid e12
     clear e12
     go_wp2_with fail
     refine start_ (n := 17) (S := fun w' => w'.cell? ⟨wr.heap.size, 0, none⟩ = some (.int .i64 k) ∧ w'.cell? ⟨g1, r.length * 2, none⟩ = some (.int .i64 a.1) ∧ w'.cell? ⟨g1, r.length * 2 + 1, none⟩ = some (.int .i64 a.2) ∧ w'.cell? ⟨g1, (r.length + 1) * 2, none⟩ = some (.int .i64 b.1) ∧ w'.cell? ⟨g1, (r.length + 1) * 2 + 1, none⟩ = some (.int .i64 b.2)) (ds := []) (tf17 0) (by kernel_rfl) rfl (by kernel_rfl) ⟨k0', ca0', ca1', cb0', cb1'⟩ (fun hHeld => ?_)
     iterate 4
      refine nxt_ (v := ?_) (a' := ?_) rfl rfl (by kernel_rfl) (fun _ _ _ h => h) (Or.inl ⟨by rfl, ?_⟩) hHeld ?_ ?_
      rotate_left
      ·rintro w' ⟨s0, s1, s2, s3, s4⟩
       go_simp
       first | done | with_reducible rfl
      rotate_left
      ·simp only [Act.put, List.setIfInBounds_toArray, List.set_cons_zero, List.set_cons_succ, i64_w, i32_w]
       first | done | rfl
     refine pure_ (i := 4) (N := some 41) (v := ?_) (a' := ?_) (tf17 5) rfl rfl (by kernel_rfl) (fun _ _ _ h => h) (Or.inl ⟨by rfl, ?_⟩) ?_ ?_
     rotate_left
     ·intro w'
      go_simp
      rw [i64_w, E12.out]
     rotate_left
     ·simp only [Act.put, List.setIfInBounds_toArray, List.set_cons_zero, List.set_cons_succ, i64_w, i32_w]
      rfl
     iterate 6
      refine nxt_ (v := ?_) (a' := ?_) rfl rfl (by kernel_rfl) (fun _ _ _ h => h) (Or.inl ⟨by rfl, ?_⟩) hHeld ?_ ?_
      rotate_left
      ·rintro w' ⟨s0, s1, s2, s3, s4⟩
       go_simp
       first | done | with_reducible rfl
      rotate_left
      ·simp only [Act.put, List.setIfInBounds_toArray, List.set_cons_zero, List.set_cons_succ, i64_w, i32_w]
       first | done | rfl
     refine one_ (i := 11) (N := some 48) (tf17 12) rfl rfl (by kernel_rfl) (by decide) (fun K hK => ?_)
     refine goes_ Tryz.func144 (by kernel_rfl) rfl #[.int .i64 k, agV a, agV b] (by rfl) rfl rfl (by first | rfl | (go_simp; done) | (go_simp; exact ⟨rfl, rfl⟩) | (go_simp; rfl)) ?_
     refine (both_any k a b _).mono ?_
     rintro e3 w3 ⟨rfl, hb3⟩
     have hS3 : (fun w' : World => w'.cell? ⟨wr.heap.size, 0, none⟩ = some (.int .i64 k) ∧ w'.cell? ⟨g1, r.length * 2, none⟩ = some (.int .i64 a.1) ∧ w'.cell? ⟨g1, r.length * 2 + 1, none⟩ = some (.int .i64 a.2) ∧ w'.cell? ⟨g1, (r.length + 1) * 2, none⟩ = some (.int .i64 b.1) ∧ w'.cell? ⟨g1, (r.length + 1) * 2 + 1, none⟩ = some (.int .i64 b.2)) w3 := ⟨(hb3.cell (p := ⟨wr.heap.size, 0, none⟩) (by simp; omega)).trans k0', (hb3.cell (p := ⟨g1, r.length * 2, none⟩) (by simp; omega)).trans ca0', (hb3.cell (p := ⟨g1, r.length * 2 + 1, none⟩) (by simp; omega)).trans ca1', (hb3.cell (p := ⟨g1, (r.length + 1) * 2, none⟩) (by simp; omega)).trans cb0', (hb3.cell (p := ⟨g1, (r.length + 1) * 2 + 1, none⟩) (by simp; omega)).trans cb1'⟩
     have HS3 := Lib.hid hS3
     refine ⟨_, rfl, hK.out _ _ hS3 (fun _ => ?_)⟩
     clear hK K hS3
     have hb3' : Below w2.heap.size w2 w3 := ((below_drewN' hal 1).trans (hb3.mono (by simp)))
     have HV3 := Lib.hid ((hb3.block w2.heap.size (by simp)).trans HV.out)
     have v0 : w3.cell? ⟨w2.heap.size, 0, none⟩ = some (.int .i64 0) := blk_cell HV3.out 0
     have v1 : w3.cell? ⟨w2.heap.size, 1, none⟩ = some (.int .i64 0) := blk_cell HV3.out 1
     have vf0 : w3.frozen? ⟨w2.heap.size, 0, none⟩ = false := blk_free HV3.out 0
     have vf1 : w3.frozen? ⟨w2.heap.size, 1, none⟩ = false := blk_free HV3.out 1
     clear ca0' ca1' cb0' cb1' k0' hal hHeld HV hb3
     cases hv : bothE k a b with
     | ok v =>
      simp only [retE, agV]
      iterate 3
       refine pxt_ (v := ?_) (a' := ?_) rfl rfl (by kernel_rfl) (fun _ _ _ h => h) (Or.inl ⟨by rfl, ?_⟩) ?_ ?_
       rotate_left
       ·intro w'
        go_simp
        first | done | with_reducible rfl
       rotate_left
       ·simp only [Act.put, List.setIfInBounds_toArray, List.set_cons_zero, List.set_cons_succ, i64_w, i32_w]
        first | done | rfl
      refine one_ (i := 15) (N := none) (tf17 16) rfl rfl (by kernel_rfl) (by decide) (fun K hK => ?_)
      refine skip_ (w1 := ?_) (by rfl) rfl ?_ ?_
      rotate_left
      ·go_simp
       rfl
      refine hK.out _ _ ⟨(cell_far (p := ⟨w2.heap.size, _, none⟩) hnw _).trans ((cell_far (p := ⟨w2.heap.size, _, none⟩) hnw _).trans HS3.out.1), (cell_far (p := ⟨w2.heap.size, _, none⟩) hng _).trans ((cell_far (p := ⟨w2.heap.size, _, none⟩) hng _).trans HS3.out.2.1), (cell_far (p := ⟨w2.heap.size, _, none⟩) hng _).trans ((cell_far (p := ⟨w2.heap.size, _, none⟩) hng _).trans HS3.out.2.2.1), (cell_far (p := ⟨w2.heap.size, _, none⟩) hng _).trans ((cell_far (p := ⟨w2.heap.size, _, none⟩) hng _).trans HS3.out.2.2.2.1), (cell_far (p := ⟨w2.heap.size, _, none⟩) hng _).trans ((cell_far (p := ⟨w2.heap.size, _, none⟩) hng _).trans HS3.out.2.2.2.2)⟩ (fun _ => ?_)
      clear hK K
      refine pxt_ (v := ?_) (a' := ?_) rfl rfl (by kernel_rfl) (fun _ _ _ h => h) (Or.inl ⟨by rfl, ?_⟩) ?_ ?_
      rotate_left
      ·intro w'
       go_simp
       first | done | with_reducible rfl
      rotate_left
      ·simp only [Act.put, List.setIfInBounds_toArray, List.set_cons_zero, List.set_cons_succ, i64_w, i32_w]
       first | done | rfl
      refine done_ (by kernel_rfl) ?_
      have HE : Hid (stepE look typed ⟨k, n, c⟩ xs = .ok (r ++ [v])) := Lib.hid (by rw [HXA.out, stepE, step_two _ _ _ e, twoE]; simp only; rw [hv]; rfl)
      clear hv
      have HSt : Hid (StkV ((w3.setCell ⟨w2.heap.size, 0, none⟩ (.int .i64 v.1)).setCell ⟨w2.heap.size, 1, none⟩ (.int .i64 v.2)) w1.heap.size (.slice (some ⟨g1, 0, none⟩) r.length c1) r) := Lib.hid (own_far (own_far (HR2.out.below hb3') (fun e => absurd (own_lt HR2.out _ e).2 (Nat.lt_irrefl _)) _) (fun e => absurd (own_lt HR2.out _ e).2 (Nat.lt_irrefl _)) _)
      have HBt : Hid (Below w1.heap.size w1 ((w3.setCell ⟨w2.heap.size, 0, none⟩ (.int .i64 v.1)).setCell ⟨w2.heap.size, 1, none⟩ (.int .i64 v.2))) := Lib.hid (below_set2 (HB2.out.trans (hb3'.mono HB2.out.size)) HB2.out.size _ _)
      have HKt : Hid (((w3.setCell ⟨w2.heap.size, 0, none⟩ (.int .i64 v.1)).setCell ⟨w2.heap.size, 1, none⟩ (.int .i64 v.2)).heap[w.heap.size]? = some (.cells #[.int .i64 0, .int .i64 0] 147 (0, 0))) := Lib.hid (blk_far (blk_far ((hb3'.block _ (by omega)).trans HK2.out) (by show w.heap.size ≠ w2.heap.size; omega) _) (by show w.heap.size ≠ w2.heap.size; omega) _)
      have HVt : Hid (((w3.setCell ⟨w2.heap.size, 0, none⟩ (.int .i64 v.1)).setCell ⟨w2.heap.size, 1, none⟩ (.int .i64 v.2)).heap[w2.heap.size]? = some (.cells #[.int .i64 v.1, .int .i64 v.2] 147 (0, 0))) := Lib.hid (blk_set2 HV3.out _ _)
      have vc0 : ((w3.setCell ⟨w2.heap.size, 0, none⟩ (.int .i64 v.1)).setCell ⟨w2.heap.size, 1, none⟩ (.int .i64 v.2)).cell? ⟨w2.heap.size, 0, none⟩ = some (.int .i64 v.1) := blk_cell HVt.out 0
      have vc1 : ((w3.setCell ⟨w2.heap.size, 0, none⟩ (.int .i64 v.1)).setCell ⟨w2.heap.size, 1, none⟩ (.int .i64 v.2)).cell? ⟨w2.heap.size, 1, none⟩ = some (.int .i64 v.2) := blk_cell HVt.out 1
      clear HR2 HB2 HK2 HV3 v0 v1 vf0 vf1 hb3'
      have HS4 := HSt
      have HB4 := HBt
      have HK4 := HKt
      have hlw4 := HB4.out.size
      clear HSt HBt HKt
      go_wp2_with (at_builtin; refine app_one rfl (.tmp 90) (.tmp 92) 191 147 (.agg #[.int .i64 0, .int .i64 0]) 2 16 rfl Tryz.underlying191 val_info rfl (by decide) (by decide) w1.heap.size (.slice (some ⟨g1, 0, none⟩) r.length c1) r.length (r.flatMap fun v => [.int .i64 v.1, .int .i64 v.2]) #[.int .i64 v.1, .int .i64 v.2] _ rfl rfl ?aN4 rfl ?aC4 ?aO4 ?aB4 ?aL4 ?_)
      try (case aN4 => first | rfl | simp)
      case aC4 => first | rfl | (intro u hu; simp at hu; rcases hu with rfl | rfl <;> rfl) | (exact ⟨rfl, rfl⟩) | simp
      case aO4 => exact HS4.out
      case aB4 => first | exact HB4.out.size | (have := HB4.out.size; simpa using this)
      case aL4 => omega
      intro v4 w4 hown hchg hat
      have HB5 : Hid (Below w1.heap.size w1 w4) := Lib.hid (HB4.out.trans (hchg.below HB4.out.size (fun k hk e => by have := own_lt HS4.out k e; omega)))
      have hS4 : StkV w4 w1.heap.size v4 (r ++ [v]) := by unfold StkV; simpa using hown
      obtain ⟨A4, c4, rfl⟩ := own_slice hown
      have HS5 := Lib.hid hS4
      clear hown hchg hat hS4 HS4 HK4
      go_wp2_with fail
      go_roundw
      case rel => exact ⟨q + 1, r ++ [v], by go_num, by omega, by simp; omega, ⟨A4, c4, by simp⟩, Lib.hid ⟨by rw [HN.out, HE.out], HS5.out, HB5.out⟩⟩
      case measure => simp [intOf]; omega
     | error x =>
      simp only [retE, agV]
      iterate 3
       refine pxt_ (v := ?_) (a' := ?_) rfl rfl (by kernel_rfl) (fun _ _ _ h => h) (Or.inl ⟨by rfl, ?_⟩) ?_ ?_
       rotate_left
       ·intro w'
        go_simp
        first | done | with_reducible rfl
       rotate_left
       ·simp only [Act.put, List.setIfInBounds_toArray, List.set_cons_zero, List.set_cons_succ, i64_w, i32_w]
        first | done | rfl
      refine one_ (i := 15) (N := none) (tf17 16) rfl rfl (by kernel_rfl) (by decide) (fun K hK => ?_)
      refine skip_ (w1 := ?_) (by rfl) rfl ?_ ?_
      rotate_left
      ·go_simp
       rfl
      refine hK.out _ _ ⟨(cell_far (p := ⟨w2.heap.size, _, none⟩) hnw _).trans ((cell_far (p := ⟨w2.heap.size, _, none⟩) hnw _).trans HS3.out.1), (cell_far (p := ⟨w2.heap.size, _, none⟩) hng _).trans ((cell_far (p := ⟨w2.heap.size, _, none⟩) hng _).trans HS3.out.2.1), (cell_far (p := ⟨w2.heap.size, _, none⟩) hng _).trans ((cell_far (p := ⟨w2.heap.size, _, none⟩) hng _).trans HS3.out.2.2.1), (cell_far (p := ⟨w2.heap.size, _, none⟩) hng _).trans ((cell_far (p := ⟨w2.heap.size, _, none⟩) hng _).trans HS3.out.2.2.2.1), (cell_far (p := ⟨w2.heap.size, _, none⟩) hng _).trans ((cell_far (p := ⟨w2.heap.size, _, none⟩) hng _).trans HS3.out.2.2.2.2)⟩ (fun _ => ?_)
      clear hK K
      refine pxt_ (v := ?_) (a' := ?_) rfl rfl (by kernel_rfl) (fun _ _ _ h => h) (Or.inl ⟨by rfl, ?_⟩) ?_ ?_
      rotate_left
      ·intro w'
       go_simp
       first | done | with_reducible rfl
      rotate_left
      ·simp only [Act.put, List.setIfInBounds_toArray, List.set_cons_zero, List.set_cons_succ, i64_w, i32_w]
       first | done | rfl
      refine done_ (by kernel_rfl) ?_
      by_cases h9 : x = 9
      ·subst h9
       cases typed with
       | false =>
        have HE : Hid (stepE look false ⟨k, n, c⟩ xs = .error 9) := Lib.hid (by rw [HXA.out, stepE, step_two _ _ _ e, twoE]; simp only; rw [hv]; rfl)
        clear hv
        have HSt : Hid (StkV ((w3.setCell ⟨w2.heap.size, 0, none⟩ (.int .i64 0)).setCell ⟨w2.heap.size, 1, none⟩ (.int .i64 0)) w1.heap.size (.slice (some ⟨g1, 0, none⟩) r.length c1) r) := Lib.hid (own_far (own_far (HR2.out.below hb3') (fun e => absurd (own_lt HR2.out _ e).2 (Nat.lt_irrefl _)) _) (fun e => absurd (own_lt HR2.out _ e).2 (Nat.lt_irrefl _)) _)
        have HBt : Hid (Below w1.heap.size w1 ((w3.setCell ⟨w2.heap.size, 0, none⟩ (.int .i64 0)).setCell ⟨w2.heap.size, 1, none⟩ (.int .i64 0))) := Lib.hid (below_set2 (HB2.out.trans (hb3'.mono HB2.out.size)) HB2.out.size _ _)
        have HKt : Hid (((w3.setCell ⟨w2.heap.size, 0, none⟩ (.int .i64 0)).setCell ⟨w2.heap.size, 1, none⟩ (.int .i64 0)).heap[w.heap.size]? = some (.cells #[.int .i64 0, .int .i64 0] 147 (0, 0))) := Lib.hid (blk_far (blk_far ((hb3'.block _ (by omega)).trans HK2.out) (by show w.heap.size ≠ w2.heap.size; omega) _) (by show w.heap.size ≠ w2.heap.size; omega) _)
        have HVt : Hid (((w3.setCell ⟨w2.heap.size, 0, none⟩ (.int .i64 0)).setCell ⟨w2.heap.size, 1, none⟩ (.int .i64 0)).heap[w2.heap.size]? = some (.cells #[.int .i64 0, .int .i64 0] 147 (0, 0))) := Lib.hid (blk_set2 HV3.out _ _)
        have vc0 : ((w3.setCell ⟨w2.heap.size, 0, none⟩ (.int .i64 0)).setCell ⟨w2.heap.size, 1, none⟩ (.int .i64 0)).cell? ⟨w2.heap.size, 0, none⟩ = some (.int .i64 0) := blk_cell HVt.out 0
        have vc1 : ((w3.setCell ⟨w2.heap.size, 0, none⟩ (.int .i64 0)).setCell ⟨w2.heap.size, 1, none⟩ (.int .i64 0)).cell? ⟨w2.heap.size, 1, none⟩ = some (.int .i64 0) := blk_cell HVt.out 1
        clear HR2 HB2 HK2 HV3 v0 v1 vf0 vf1 hb3'
        obtain ⟨c0, c1', f0', f1'⟩ : _ ∧ _ ∧ _ ∧ _ := ⟨blk_cell HKt.out 0, blk_cell HKt.out 1, blk_free HKt.out 0, blk_free HKt.out 1⟩
        have HB4 := HBt
        have HK4 := HKt
        have hlw4 := HB4.out.size
        clear HSt HBt HKt
        go_wp2_with fail
        refine bodyPost_ret (results_ct rfl _ _ w.heap.size 147 #[.int .i64 _, .int .i64 _] (0, 0) _ rfl (blk_set2 HK4.out _ _) Tryz.underlying147 rfl (by kernel_rfl)) rfl ?_
        exact ⟨by rw [HX.out, value_failE p q HN.out HE.out]; rfl, below_set2 (hbw1.trans (HB4.out.mono hbw1.size)) (Nat.le_refl _) _ _⟩
       | true =>
        have HE : Hid (stepE look true ⟨k, n, c⟩ xs = .ok (r ++ [((1, 0) : V)])) := Lib.hid (by rw [HXA.out, stepE, step_two _ _ _ e, twoE]; simp only; rw [hv]; rfl)
        clear hv
        have hown2 := fun k hk => (own_lt HR2.out k hk).2
        have HSt : Hid (StkV ((w3.setCell ⟨w2.heap.size, 0, none⟩ (.int .i64 0)).setCell ⟨w2.heap.size, 1, none⟩ (.int .i64 0)) w1.heap.size (.slice (some ⟨g1, 0, none⟩) r.length c1) r) := Lib.hid (own_far (own_far (HR2.out.below hb3') (fun e => absurd (own_lt HR2.out _ e).2 (Nat.lt_irrefl _)) _) (fun e => absurd (own_lt HR2.out _ e).2 (Nat.lt_irrefl _)) _)
        have HBt : Hid (Below w1.heap.size w1 ((w3.setCell ⟨w2.heap.size, 0, none⟩ (.int .i64 0)).setCell ⟨w2.heap.size, 1, none⟩ (.int .i64 0))) := Lib.hid (below_set2 (HB2.out.trans (hb3'.mono HB2.out.size)) HB2.out.size _ _)
        have HKt : Hid (((w3.setCell ⟨w2.heap.size, 0, none⟩ (.int .i64 0)).setCell ⟨w2.heap.size, 1, none⟩ (.int .i64 0)).heap[w.heap.size]? = some (.cells #[.int .i64 0, .int .i64 0] 147 (0, 0))) := Lib.hid (blk_far (blk_far ((hb3'.block _ (by omega)).trans HK2.out) (by show w.heap.size ≠ w2.heap.size; omega) _) (by show w.heap.size ≠ w2.heap.size; omega) _)
        have HVt : Hid (((w3.setCell ⟨w2.heap.size, 0, none⟩ (.int .i64 0)).setCell ⟨w2.heap.size, 1, none⟩ (.int .i64 0)).heap[w2.heap.size]? = some (.cells #[.int .i64 0, .int .i64 0] 147 (0, 0))) := Lib.hid (blk_set2 HV3.out _ _)
        have vc0 : ((w3.setCell ⟨w2.heap.size, 0, none⟩ (.int .i64 0)).setCell ⟨w2.heap.size, 1, none⟩ (.int .i64 0)).cell? ⟨w2.heap.size, 0, none⟩ = some (.int .i64 0) := blk_cell HVt.out 0
        have vc1 : ((w3.setCell ⟨w2.heap.size, 0, none⟩ (.int .i64 0)).setCell ⟨w2.heap.size, 1, none⟩ (.int .i64 0)).cell? ⟨w2.heap.size, 1, none⟩ = some (.int .i64 0) := blk_cell HVt.out 1
        clear HR2 HB2 HK2 HV3 v0 v1 vf0 vf1 hb3'
        go_wp2_with fail
        refine (whole_any 0 _).mono ?_
        rintro e5 w5 ⟨rfl, hb5⟩
        have HV5 := Lib.hid ((hb5.block w2.heap.size (lt_of_block HVt.out)).trans HVt.out)
        have z0 : w5.cell? ⟨w2.heap.size, 0, none⟩ = some (.int .i64 0) := blk_cell HV5.out 0
        have z1 : w5.cell? ⟨w2.heap.size, 1, none⟩ = some (.int .i64 0) := blk_cell HV5.out 1
        have zf0 : w5.frozen? ⟨w2.heap.size, 0, none⟩ = false := blk_free HV5.out 0
        have zf1 : w5.frozen? ⟨w2.heap.size, 1, none⟩ = false := blk_free HV5.out 1
        have HSt5 := Lib.hid (HSt.out.below hb5)
        have HBt5 := Lib.hid (HBt.out.trans (hb5.mono HBt.out.size))
        have HKt5 := Lib.hid ((hb5.block _ (lt_of_block HKt.out)).trans HKt.out)
        have hnb : ∀ k, (Value.slice (some ⟨g1, 0, none⟩) r.length c1).ownBlock = some k → k < w2.heap.size := hown2
        have HNB := Lib.hid hnb
        clear HSt HBt HKt HVt vc0 vc1 hb5 hown2 hnb
        have HSt : Hid (StkV ((w5.setCell ⟨w2.heap.size, 0, none⟩ (.int .i64 1)).setCell ⟨w2.heap.size, 1, none⟩ (.int .i64 0)) w1.heap.size (.slice (some ⟨g1, 0, none⟩) r.length c1) r) := Lib.hid (own_far (own_far HSt5.out (fun e => absurd (HNB.out _ e) (Nat.lt_irrefl _)) _) (fun e => absurd (HNB.out _ e) (Nat.lt_irrefl _)) _)
        have HBt : Hid (Below w1.heap.size w1 ((w5.setCell ⟨w2.heap.size, 0, none⟩ (.int .i64 1)).setCell ⟨w2.heap.size, 1, none⟩ (.int .i64 0))) := Lib.hid (below_set2 HBt5.out hlw _ _)
        have HKt : Hid (((w5.setCell ⟨w2.heap.size, 0, none⟩ (.int .i64 1)).setCell ⟨w2.heap.size, 1, none⟩ (.int .i64 0)).heap[w.heap.size]? = some (.cells #[.int .i64 0, .int .i64 0] 147 (0, 0))) := Lib.hid (blk_far (blk_far HKt5.out (by show w.heap.size ≠ w2.heap.size; omega) _) (by show w.heap.size ≠ w2.heap.size; omega) _)
        have vc0 : ((w5.setCell ⟨w2.heap.size, 0, none⟩ (.int .i64 1)).setCell ⟨w2.heap.size, 1, none⟩ (.int .i64 0)).cell? ⟨w2.heap.size, 0, none⟩ = some (.int .i64 1) := blk_cell (blk_set2 HV5.out _ _) 0
        have vc1 : ((w5.setCell ⟨w2.heap.size, 0, none⟩ (.int .i64 1)).setCell ⟨w2.heap.size, 1, none⟩ (.int .i64 0)).cell? ⟨w2.heap.size, 1, none⟩ = some (.int .i64 0) := blk_cell (blk_set2 HV5.out _ _) 1
        clear HSt5 HBt5 HKt5 HV5 HNB
        simp only [agV, wholeV]
        have HS4 := HSt
        have HB4 := HBt
        have HK4 := HKt
        have hlw4 := HB4.out.size
        clear HSt HBt HKt
        go_wp2_with (at_builtin; refine app_one rfl (.tmp 90) (.tmp 92) 191 147 (.agg #[.int .i64 0, .int .i64 0]) 2 16 rfl Tryz.underlying191 val_info rfl (by decide) (by decide) w1.heap.size (.slice (some ⟨g1, 0, none⟩) r.length c1) r.length (r.flatMap fun v => [.int .i64 v.1, .int .i64 v.2]) #[.int .i64 1, .int .i64 0] _ rfl rfl ?aN5 rfl ?aC5 ?aO5 ?aB5 ?aL5 ?_)
        try (case aN5 => first | rfl | simp)
        case aC5 => first | rfl | (intro u hu; simp at hu; rcases hu with rfl | rfl <;> rfl) | (exact ⟨rfl, rfl⟩) | simp
        case aO5 => exact HS4.out
        case aB5 => first | exact HB4.out.size | (have := HB4.out.size; simpa using this)
        case aL5 => omega
        intro v4 w4 hown hchg hat
        have HB5 : Hid (Below w1.heap.size w1 w4) := Lib.hid (HB4.out.trans (hchg.below HB4.out.size (fun k hk e => by have := own_lt HS4.out k e; omega)))
        have hS4 : StkV w4 w1.heap.size v4 (r ++ [((1, 0) : V)]) := by unfold StkV; simpa using hown
        obtain ⟨A4, c4, rfl⟩ := own_slice hown
        have HS5 := Lib.hid hS4
        clear hown hchg hat hS4 HS4 HK4
        go_wp2_with fail
        go_roundw
        case rel => exact ⟨q + 1, r ++ [((1, 0) : V)], by go_num, by omega, by simp; omega, ⟨A4, c4, by simp⟩, Lib.hid ⟨by rw [HN.out, HE.out], HS5.out, HB5.out⟩⟩
        case measure => simp [intOf]; omega
      ·have hx9 : (x == 9) = false := beq_eq_false_iff_ne.mpr h9
       have HE : Hid (stepE look typed ⟨k, n, c⟩ xs = .error x) := Lib.hid (by rw [HXA.out, stepE, step_two _ _ _ e, twoE]; simp only; rw [hv]; simp only [zeroE]; rw [if_neg (by simp [h9])]; rfl)
       clear hv
       have HSt : Hid (StkV ((w3.setCell ⟨w2.heap.size, 0, none⟩ (.int .i64 0)).setCell ⟨w2.heap.size, 1, none⟩ (.int .i64 0)) w1.heap.size (.slice (some ⟨g1, 0, none⟩) r.length c1) r) := Lib.hid (own_far (own_far (HR2.out.below hb3') (fun e => absurd (own_lt HR2.out _ e).2 (Nat.lt_irrefl _)) _) (fun e => absurd (own_lt HR2.out _ e).2 (Nat.lt_irrefl _)) _)
       have HBt : Hid (Below w1.heap.size w1 ((w3.setCell ⟨w2.heap.size, 0, none⟩ (.int .i64 0)).setCell ⟨w2.heap.size, 1, none⟩ (.int .i64 0))) := Lib.hid (below_set2 (HB2.out.trans (hb3'.mono HB2.out.size)) HB2.out.size _ _)
       have HKt : Hid (((w3.setCell ⟨w2.heap.size, 0, none⟩ (.int .i64 0)).setCell ⟨w2.heap.size, 1, none⟩ (.int .i64 0)).heap[w.heap.size]? = some (.cells #[.int .i64 0, .int .i64 0] 147 (0, 0))) := Lib.hid (blk_far (blk_far ((hb3'.block _ (by omega)).trans HK2.out) (by show w.heap.size ≠ w2.heap.size; omega) _) (by show w.heap.size ≠ w2.heap.size; omega) _)
       have HVt : Hid (((w3.setCell ⟨w2.heap.size, 0, none⟩ (.int .i64 0)).setCell ⟨w2.heap.size, 1, none⟩ (.int .i64 0)).heap[w2.heap.size]? = some (.cells #[.int .i64 0, .int .i64 0] 147 (0, 0))) := Lib.hid (blk_set2 HV3.out _ _)
       have vc0 : ((w3.setCell ⟨w2.heap.size, 0, none⟩ (.int .i64 0)).setCell ⟨w2.heap.size, 1, none⟩ (.int .i64 0)).cell? ⟨w2.heap.size, 0, none⟩ = some (.int .i64 0) := blk_cell HVt.out 0
       have vc1 : ((w3.setCell ⟨w2.heap.size, 0, none⟩ (.int .i64 0)).setCell ⟨w2.heap.size, 1, none⟩ (.int .i64 0)).cell? ⟨w2.heap.size, 1, none⟩ = some (.int .i64 0) := blk_cell HVt.out 1
       clear HR2 HB2 HK2 HV3 v0 v1 vf0 vf1 hb3'
       obtain ⟨c0, c1', f0', f1'⟩ : _ ∧ _ ∧ _ ∧ _ := ⟨blk_cell HKt.out 0, blk_cell HKt.out 1, blk_free HKt.out 0, blk_free HKt.out 1⟩
       have HB4 := HBt
       have HK4 := HKt
       have hlw4 := HB4.out.size
       clear HSt HBt HKt
       go_wp2_with fail
       refine bodyPost_ret (results_ct rfl _ _ w.heap.size 147 #[.int .i64 _, .int .i64 _] (0, 0) _ rfl (blk_set2 HK4.out _ _) Tryz.underlying147 rfl (by kernel_rfl)) rfl ?_
       exact ⟨by rw [HX.out, value_failE p q HN.out HE.out]; rfl, below_set2 (hbw1.trans (HB4.out.mono hbw1.size)) (Nat.le_refl _) _ _⟩
   ·obtain rfl : q = p.length := by omega
    rw [List.take_length] at hrun'
    have h1 := runs_len _ _ _ p [] xs 1 hrun' (by simpa using HM.out)
    obtain ⟨v, rfl⟩ : ∃ v, xs = [v] := by
     match xs, h1 with
     | [v], _ => exact ⟨v, rfl⟩
     | [], h => simp at h
     | _ :: _ :: _, h => simp at h; omega
    obtain ⟨g1, cp1, hv1, _, hcell⟩ := hst.cell (by simp)
    injection hv1 with hv1 _ hv2
    subst hv1 hv2
    obtain ⟨d0, d1⟩ := hcell 0 v rfl
    simp only [Nat.zero_mul, Nat.zero_add] at d0 d1
    have hv : runR look typed p = .ok v := by
     rw [HX.out]
     unfold valueE value
     rw [show runs (leafE look) oneE (twoE typed) p [] = .ok [v] from hrun']
     rfl
    have HV := Lib.hid hv
    have HBR := Lib.hid hbwr
    obtain ⟨c0, c1', f0', f1'⟩ : _ ∧ _ ∧ _ ∧ _ := ⟨blk_cell HKr.out 0, blk_cell HKr.out 1, blk_free HKr.out 0, blk_free HKr.out 1⟩
    clear hrun' hst hcell hv HX hbr hbwr
    have p1 : ((p.length : Int) < (p.length : Int)) = False := eq_false (by omega)
    go_wp2_with fail
    refine bodyPost_ret (results_ct rfl _ _ w.heap.size 147 #[.int .i64 _, .int .i64 _] (0, 0) _ rfl (blk_set2 HKr.out _ _) Tryz.underlying147 rfl (by kernel_rfl)) rfl ?_
    exact ⟨by rw [HV.out]; rfl, below_set2 HBR.out (Nat.le_refl _) _ _⟩
end Go.Proofs.YtikilglbhnplaaaGreatDoor
end
section
namespace Go.Proofs.YtikilglbhnplaaaGreatDoor
open Go.RowKit Go.Proofs.YtikilglbhnplaaaGreatDoorW.PrintWords
open PX (T V Tr takes may)
abbrev NumsC (w : World) (A : Option Addr) (n : Nat) (l : List Int) : Prop := Kd.C (Kd.int .i64) w A n l
theorem nums_at {w : World} {A : Option Addr} {l : List Int} (h : NumsC w A l.length l) (j : Nat) (hj : j < l.length) : ∃ ad, A = some ad ∧ w.cell? (ad.add j) = some (.int .i64 l[j]) := by
 obtain ⟨ad, hA, hc⟩ := h.2.2 (by omega)
 obtain ⟨c, h1, h2, h3⟩ := hc j l[j] (List.getElem?_eq_getElem hj)
 refine ⟨ad, hA, ?_⟩
 obtain rfl : c = [.int .i64 l[j]] := h2
 have := h3 0 _ rfl
 simpa [Kd.int, Kd.scalar] using this
theorem run_type1 (args : Array Value) (w : World) : (callFunc 140 args).run Tryz.prog w = .ok (.enter 140 args) w := by
 simp [callFunc, Tryz.func140]; rfl
theorem run_eval1 (args : Array Value) (w : World) : (callFunc 133 args).run Tryz.prog w = .ok (.enter 133 args) w := by
 simp [callFunc, Tryz.func133]; rfl
theorem look_type (g : Nat) (vars : Int) (w : World) (hg : w.cell? ⟨g, 0, none⟩ = some (.int .i64 vars)) : LookC 140 (.pointer (some ⟨g, 0, none⟩)) (lookV true vars []) w.heap.size w := by
 intro w' hw v h0 h1
 have hc := (hw.cell (p := ⟨g, 0, none⟩) (World.block_lt_of_cell? _ _ hg)).trans hg
 have e1 : (lookV true vars [] v).getD 0 = 0 := by unfold lookV; rw [if_pos rfl]; split <;> rfl
 have e2 : (lookV true vars [] v).isSome = decide (v < vars) := by
  unfold lookV; rw [if_pos rfl]
  by_cases h : v < vars
  ·rw [if_pos h]; simp [h]
  ·rw [if_neg h]; simp [h]
 rw [e1, e2]
 clear hw hg e1 e2
 go_enter Tryz.func140, Tryz.ntmps140
 go_wp2_with fail
 repeat (go_quiet (fail); try go_wp2)
 go_ret2
 exact ⟨rfl, _, rfl⟩
theorem look_eval (g : Nat) (A : Option Addr) (cap : Nat) (env : List Int) (w : World) (hg : w.cell? ⟨g, 0, none⟩ = some (.slice A env.length cap)) (hC : NumsC w A env.length env) : LookC 133 (.pointer (some ⟨g, 0, none⟩)) (lookV false 0 env) w.heap.size w := by
 intro w' hw v h0 h1
 have hc := (hw.cell (p := ⟨g, 0, none⟩) (World.block_lt_of_cell? _ _ hg)).trans hg
 have HC := Lib.hid (Kd.C_below hC hw)
 obtain ⟨n, rfl⟩ := Int.eq_ofNat_of_zero_le h0
 by_cases hlt : n < env.length
 ·have e1 : lookV false 0 env n = some env[n] := by
   unfold lookV
   rw [if_neg (by simp), if_pos (by omega)]
   simp [rd, List.getD_eq_getElem?_getD, List.getElem?_eq_getElem hlt]
  rw [e1]
  obtain ⟨ad, hA, hx⟩ := nums_at HC.out n hlt
  subst hA
  have HX := Lib.hid e1
  clear hw hg e1 hC
  generalize env[n] = x at *
  have p1 : ((n : Int) ≥ (env.length : Int)) = False := eq_false (by omega)
  have p2 : ((env.length : Int) ≤ (n : Int)) = False := eq_false (by omega)
  have p3 : (0 ≤ (n : Int)) = True := eq_true (by omega)
  have p4 : ((n : Int) < (env.length : Int)) = True := eq_true (by omega)
  simp only [Option.getD_some, Option.isSome_some]
  go_enter Tryz.func133, Tryz.ntmps133
  go_wp2_with fail
  repeat (go_quiet (fail); try go_wp2)
  go_ret2
  exact ⟨rfl, 0, rfl⟩
 ·have e1 : lookV false 0 env n = none := by
   unfold lookV
   rw [if_neg (by simp), if_neg (by omega)]
  rw [e1]
  clear hw hg e1 hC
  have p1 : ((n : Int) ≥ (env.length : Int)) = True := eq_true (by omega)
  have p2 : ((env.length : Int) ≤ (n : Int)) = True := eq_true (by omega)
  simp only [Option.getD_none, Option.isSome_none]
  go_enter Tryz.func133, Tryz.ntmps133
  go_wp2_with fail
  repeat (go_quiet (fail); try go_wp2)
  go_ret2
  exact ⟨rfl, 0, rfl⟩
def kindR (e : Except Int V) : Int := match e with | .ok v => v.1 | .error _ => 0
def errR (e : Except Int V) : Value := match e with | .ok _ => .nilIface | .error c => .iface 67 (.int .i64 c)
theorem type_any (A : Option Addr) (cap : Nat) (p : List T) (vars : Int) (w : World) (hc : p.length ≤ cap) (hC : ToksC w A p.length p) :
  Calls Tryz.prog 131 #[.slice A p.length cap, .int .i64 vars] w fun e w' => e = .returned (.tuple #[.int .i64 (kindR (runR (lookV true vars []) true p)), errR (runR (lookV true vars []) true p)]) ∧ Below w.heap.size w w' := by
 have hmf : ∀ (fn : Fn) (first cap : Array Value) (w : World), (Instr.makeFunc fn first cap).run Tryz.prog w = .ok (.func fn first cap) w := fun _ _ _ _ => rfl
 have HC := Lib.hid (Kd.C_alloc hC (.cells #[.int .i64 vars] 3))
 have HL := Lib.hid (look_type w.heap.size vars (w.alloc (.cells #[.int .i64 vars] 3)) (blk_cell (blk_new _ _) 0))
 clear hC
 go_enter Tryz.func131, Tryz.ntmps131
 go_wp2_with fail
 refine (run_any 140 run_type1 _ (lookV true vars []) true A cap p _ hc HC.out HL.out).mono ?_
 rintro e w1 ⟨rfl, hb1⟩
 have hbw : Below w.heap.size w w1 := ((Below.refl _ _).alloc (Nat.le_refl _) _).trans (hb1.mono (by simp))
 cases hr : runR (lookV true vars []) true p with
 | ok v =>
  have HR := Lib.hid hr
  clear hr
  simp only [retE, agV]
  go_wp2_with fail
  go_ret2
  exact ⟨by rw [HR.out]; rfl, hbw.alloc hbw.size _⟩
 | error c =>
  have HR := Lib.hid hr
  clear hr
  simp only [retE, agV]
  go_wp2_with fail
  go_ret2
  exact ⟨by rw [HR.out]; rfl, hbw.alloc hbw.size _⟩
theorem eval_any (A : Option Addr) (cap : Nat) (p : List T) (E : Option Addr) (ecap : Nat) (env : List Int) (w : World) (hc : p.length ≤ cap) (hC : ToksC w A p.length p) (hE : NumsC w E env.length env) :
  Calls Tryz.prog 112 #[.slice A p.length cap, .slice E env.length ecap] w fun e w' => e = .returned (retE (runR (lookV false 0 env) false p)) ∧ Below w.heap.size w w' := by
 have hmf : ∀ (fn : Fn) (first cap : Array Value) (w : World), (Instr.makeFunc fn first cap).run Tryz.prog w = .ok (.func fn first cap) w := fun _ _ _ _ => rfl
 have HC := Lib.hid (Kd.C_alloc (Kd.C_alloc hC (.cells #[.slice E env.length ecap] 44)) (.cells #[.int .i64 0, .int .i64 0] 147))
 have hcell : ((w.alloc (.cells #[.slice E env.length ecap] 44)).alloc (.cells #[.int .i64 0, .int .i64 0] 147)).cell? ⟨w.heap.size, 0, none⟩ = some (.slice E env.length ecap) := blk_cell (blk_alloc _ (blk_new _ _)) 0
 have HL := Lib.hid (look_eval w.heap.size E ecap env ((w.alloc (.cells #[.slice E env.length ecap] 44)).alloc (.cells #[.int .i64 0, .int .i64 0] 147)) hcell (Kd.C_alloc (Kd.C_alloc hE _) _))
 clear hC hE hcell
 go_enter Tryz.func112, Tryz.ntmps112
 go_wp2_with fail
 refine (run_any 133 run_eval1 _ (lookV false 0 env) false A cap p _ hc HC.out HL.out).mono ?_
 rintro e w1 ⟨rfl, hb1⟩
 have e1 : (w.alloc (.cells #[.slice E env.length ecap] 44)).heap.size = w.heap.size + 1 := by simp
 have hk : w1.heap[w.heap.size + 1]? = some (.cells #[.int .i64 0, .int .i64 0] 147 (0, 0)) := (hb1.block (w.heap.size + 1) (by simp)).trans (e1 ▸ blk_new (w.alloc (.cells #[.slice E env.length ecap] 44)) (.cells #[.int .i64 0, .int .i64 0] 147))
 have HK := Lib.hid hk
 have hbw : Below w.heap.size w w1 := (((Below.refl _ _).alloc (Nat.le_refl _) _).alloc (by simp) _).trans (hb1.mono (by simp; omega))
 have c0 : w1.cell? ⟨w.heap.size + 1, 0, none⟩ = some (.int .i64 0) := blk_cell hk 0
 have c1 : w1.cell? ⟨w.heap.size + 1, 1, none⟩ = some (.int .i64 0) := blk_cell hk 1
 have f0 : w1.frozen? ⟨w.heap.size + 1, 0, none⟩ = false := blk_free hk 0
 have f1 : w1.frozen? ⟨w.heap.size + 1, 1, none⟩ = false := blk_free hk 1
 clear hk hb1 e1
 cases hr : runR (lookV false 0 env) false p with
 | ok v =>
  have HR := Lib.hid hr
  clear hr
  simp only [retE, agV]
  go_wp2_with fail
  refine bodyPost_ret (results_ct rfl _ _ (w.heap.size + 1) 147 #[.int .i64 _, .int .i64 _] (0, 0) _ rfl (blk_set2 HK.out _ _) Tryz.underlying147 rfl (by kernel_rfl)) rfl ?_
  exact ⟨by rw [HR.out]; rfl, below_set2 hbw (by omega) _ _⟩
 | error c =>
  have HR := Lib.hid hr
  clear hr
  simp only [retE, agV]
  go_wp2_with fail
  refine bodyPost_ret (results_ct rfl _ _ (w.heap.size + 1) 147 #[.int .i64 _, .int .i64 _] (0, 0) _ rfl (blk_set2 HK.out _ _) Tryz.underlying147 rfl (by kernel_rfl)) rfl ?_
  exact ⟨by rw [HR.out]; rfl, below_set2 hbw (by omega) _ _⟩
end Go.Proofs.YtikilglbhnplaaaGreatDoor
end
section
namespace Go.Proofs.YtikilglbhnplaaaGreatDoor
open Go.RowKit PX Go.Proofs.YtikilglbhnplaaaGreatDoorW.PrintWords
structure Rdr (tb g : Nat) (A : Option Addr) (cap : Nat) (l : List T) (B : Nat) (w : World) (s : St) (v : Value) : Prop where
 blk : w.heap[g]? = some (.cells #[.slice A l.length cap, .int .i64 s.at_, v, .bool s.bad] tb (0, 0))
 out : Toks w B v s.out
 row : ToksC w A l.length l
 rowB : ∀ ad, A = some ad → ad.block < B ∧ ad.block ≠ g ∧ ad.block < w.heap.size
 lt : g < B
 le : B ≤ w.heap.size
 cap_ : l.length ≤ cap
abbrev ChgR (g : Nat) (v : Value) (w w' : World) : Prop := Chg (fun b => b = g ∨ some b = v.ownBlock) w w'
def Own (w : World) (v v' : Value) : Prop := v'.ownBlock = v.ownBlock ∨ ∃ b, v'.ownBlock = some b ∧ w.heap.size ≤ b
theorem Own.refl (w : World) (v : Value) : Own w v v := .inl rfl
theorem Own.trans {w w1 : World} {v v1 v2 : Value} (h : Own w v v1) (hs : w.heap.size ≤ w1.heap.size) (k : Own w1 v1 v2) : Own w v v2 := by
 rcases k with k | ⟨b, k, hb⟩
 ·rcases h with h | ⟨c, h, hc⟩
  ·exact .inl (k.trans h)
  ·exact .inr ⟨c, k.trans h, hc⟩
 ·exact .inr ⟨b, k, Nat.le_trans hs hb⟩
theorem ChgR.then {g : Nat} {v v1 : Value} {w w1 w2 : World} (h : ChgR g v w w1) (o : Own w v v1) (k : ChgR g v1 w1 w2) : ChgR g v w w2 := by
 refine h.trans' k ?_
 rintro i hi (e | e)
 ·exact .inl e
 ·rcases o with o | ⟨b, o, hb⟩
  ·exact .inr (by rw [e, o])
  ·exfalso
   rw [o] at e
   injection e with e
   omega
theorem toksC_same {w w' : World} {A : Option Addr} {n : Nat} {l : List T} (h : ToksC w A n l) (hs : ∀ ad, A = some ad → w'.heap[ad.block]? = w.heap[ad.block]?) : ToksC w' A n l := by
 refine ⟨h.1, h.2.1, fun hn => ?_⟩
 obtain ⟨ad, hA, hc⟩ := h.2.2 hn
 refine ⟨ad, hA, fun j p hj => ?_⟩
 obtain ⟨c, h1, h2, h3⟩ := hc j p hj
 have e := PAll.k131_open h2
 refine ⟨c, h1, by rw [e]; exact PAll.k131_mk w' p, fun i u hi => ?_⟩
 have hcell := h3 i u hi
 have hb : ∀ n, (ad.add n).block = ad.block := fun n => by unfold Addr.add; split <;> rfl
 rw [← hcell]
 exact World.cell?_of_block (by rw [hb]; exact hs ad hA)
theorem tok_types {tb : Nat} (ht : 131 ≠ tb) : ∀ q, q ∈ 131 :: PAll.k131.E → q ≠ tb := by
 intro q hq
 rcases List.mem_cons.1 hq with rfl | hq
 ·exact ht
 ·have hq' : q ∈ ([] : List Nat) := hq
  cases hq'
section
variable {tb g : Nat} {A : Option Addr} {cap : Nat} {l : List T} {B : Nat} {w w' : World} {s : St} {v : Value}
theorem Rdr.other (h : Rdr tb g A cap l B w s v) {S : Nat → Prop} (hc : Chg S w w') (hS : ∀ k, S k → k ≠ g ∧ some k ≠ v.ownBlock ∧ ∀ ad, A = some ad → k ≠ ad.block) : Rdr tb g A cap l B w' s v := by
 refine ⟨hc.blk h.blk (fun e => (hS _ e).1 rfl), ?_, toksC_same h.row (fun ad hA => hc.block _ (h.rowB ad hA).2.2 (fun e => (hS _ e).2.2 ad hA rfl)), fun ad hA => ⟨(h.rowB ad hA).1, (h.rowB ad hA).2.1, Nat.lt_of_lt_of_le (h.rowB ad hA).2.2 hc.size⟩, h.lt, Nat.le_trans h.le hc.size, h.cap_⟩
 exact Kd.R_mono (Kd.R_step (Kd.R_tight rfl h.out) (fun k hk hlt => hc.block k hlt (fun e => (hS k e).2.1 hk))) (fun _ _ => trivial)
theorem Rdr.setAt (h : Rdr tb g A cap l B w s v) (ht : 131 ≠ tb) (n : Nat) : Rdr tb g A cap l B (w.setCell ⟨g, 1, none⟩ (.int .i64 n)) { s with at_ := n } v :=
 ⟨blk_set h.blk 1 _, Kd.R_set h.out h.blk (tok_types ht) 1 _, toksC_same h.row (fun ad hA => Below.heap_setCell _ _ _ _ (h.rowB ad hA).2.1), fun ad hA => ⟨(h.rowB ad hA).1, (h.rowB ad hA).2.1, by simpa [World.setCell] using (h.rowB ad hA).2.2⟩, h.lt, by simpa [World.setCell] using h.le, h.cap_⟩
theorem Rdr.setBad (h : Rdr tb g A cap l B w s v) (ht : 131 ≠ tb) (b : Bool) : Rdr tb g A cap l B (w.setCell ⟨g, 3, none⟩ (.bool b)) { s with bad := b } v :=
 ⟨blk_set h.blk 3 _, Kd.R_set h.out h.blk (tok_types ht) 3 _, toksC_same h.row (fun ad hA => Below.heap_setCell _ _ _ _ (h.rowB ad hA).2.1), fun ad hA => ⟨(h.rowB ad hA).1, (h.rowB ad hA).2.1, by simpa [World.setCell] using (h.rowB ad hA).2.2⟩, h.lt, by simpa [World.setCell] using h.le, h.cap_⟩
theorem chg_setG (v : Value) (w : World) (j : Nat) (u : Value) : ChgR g v w (w.setCell ⟨g, j, none⟩ u) := (Chg.refl _ _).setCell (fun _ => .inl rfl) u
theorem Rdr.below (h : Rdr tb g A cap l B w s v) (hb : Below w.heap.size w w') : Rdr tb g A cap l B w' s v :=
 h.other (S := fun _ => False) (Chg.of_below hb) (fun _ e => e.elim)
theorem Rdr.put (h : Rdr tb g A cap l B w s v) (ht : 131 ≠ tb) {w1 : World} {v1 : Value} {x : T} (hg : w.grownBy w1 v.ownBlock) (hT : Toks w1 B v1 (s.out ++ [x])) :
  Rdr tb g A cap l B (w1.setCell ⟨g, 2, none⟩ v1) { s with out := s.out ++ [x] } v1 := by
 have hne : some g ≠ v.ownBlock := fun e => by have := Kd.R_base h.out g e.symm; have := h.lt; omega
 have hblk : w1.heap[g]? = some (.cells #[.slice A l.length cap, .int .i64 s.at_, v, .bool s.bad] tb (0, 0)) := (hg.block g (lt_of_block h.blk) hne).trans h.blk
 have hrow : ∀ ad, A = some ad → w1.heap[ad.block]? = w.heap[ad.block]? := fun ad hA => hg.block _ (h.rowB ad hA).2.2 (fun e => by have := Kd.R_base h.out _ e.symm; have := (h.rowB ad hA).1; omega)
 refine ⟨blk_set hblk 2 _, Kd.R_set hT hblk (tok_types ht) 2 _, toksC_same (toksC_same h.row hrow) (fun ad hA => Below.heap_setCell _ _ _ _ (h.rowB ad hA).2.1), fun ad hA => ⟨(h.rowB ad hA).1, (h.rowB ad hA).2.1, ?_⟩, h.lt, ?_, h.cap_⟩
 ·have := (h.rowB ad hA).2.2; have := hg.size; simp [World.setCell]; omega
 ·have := h.le; have := hg.size; simp [World.setCell]; omega
end
end Go.Proofs.YtikilglbhnplaaaGreatDoor
end
section
namespace Go.Proofs.YtikilglbhnplaaaGreatDoor
open Go.RowKit PX Go.Proofs.YtikilglbhnplaaaGreatDoorW.PrintWords
def Kinds (w : World) (kb : Nat) (K : List Int) : Prop := ∀ j (h : j < K.length), w.cell? ⟨kb, j, none⟩ = some (.int .i64 K[j])
theorem Kinds.chg {S : Nat → Prop} {w w' : World} {kb : Nat} {K : List Int} (h : Kinds w kb K) (hc : Chg S w w') (hk : kb < w.heap.size) (hS : ¬ S kb) : Kinds w' kb K :=
 fun j hj => (hc.cell (p := ⟨kb, j, none⟩) hk hS).trans (h j hj)
section
variable {g : Nat} {A : Option Addr} {cap : Nat} {l : List T} {B : Nat} {w : World} {s : St} {v : Value}
abbrev RdrP (g : Nat) (A : Option Addr) (cap : Nat) (l : List T) (B : Nat) (w : World) (s : St) (v : Value) : Prop := Rdr 129 g A cap l B w s v
theorem Rdr.drewN {tb : Nat} (h : Rdr tb g A cap l B w s v) (n : Nat) : Rdr tb g A cap l B (w.drewN n) s v :=
 ⟨h.blk, Kd.R_drewN h.out n, Kd.C_drewN h.row n, h.rowB, h.lt, h.le, h.cap_⟩
theorem Rdr.cells {tb : Nat} (h : Rdr tb g A cap l B w s v) : w.cell? ⟨g, 0, none⟩ = some (.slice A l.length cap) ∧ w.cell? ⟨g, 1, none⟩ = some (.int .i64 s.at_) ∧ w.cell? ⟨g, 2, none⟩ = some v ∧ w.cell? ⟨g, 3, none⟩ = some (.bool s.bad) ∧
  w.frozen? ⟨g, 1, none⟩ = false ∧ w.frozen? ⟨g, 2, none⟩ = false ∧ w.frozen? ⟨g, 3, none⟩ = false :=
 ⟨blk_cell h.blk 0, blk_cell h.blk 1, blk_cell h.blk 2, blk_cell h.blk 3, blk_free h.blk 1, blk_free h.blk 2, blk_free h.blk 3⟩
theorem pis_miss (hR : RdrP g A cap l B w s v) (kb : Nat) (K : List Int) (hK : Kinds w kb K) (hl : l.length ≤ 1000000) (hat : s.at_ ≤ l.length) (hKl : K.length ≤ 100) (h : s.see l ∉ K) :
  Calls Tryz.prog 122 #[.pointer (some ⟨g, 0, none⟩), .slice (some ⟨kb, 0, none⟩) K.length K.length] w fun e w' => e = .returned (.tuple #[.int .i64 0, .bool false]) ∧ ∃ n, w' = w.drewN n := by
 obtain ⟨c0, c1, c2, c3, f1, f2, f3⟩ := hR.cells
 have HR := Lib.hid hR
 have HK := Lib.hid hK
 clear hR hK
 cases hb : s.bad with
 | true =>
  rw [hb] at c3
  go_enter Tryz.func122, Tryz.ntmps122
  go_wp2_with fail
  repeat (go_quiet (fail); try go_wp2)
  go_ret2
  exact ⟨rfl, _, rfl⟩
 | false =>
  rw [hb] at c3
  by_cases hlt : s.at_ < l.length
  ·have hsee : s.see l = (PAll.rd_T131 l s.at_).f0 := by
    unfold St.see
    rw [if_neg (by rw [hb]; simp; omega)]
    simp [PAll.rd_T131, List.getD_eq_getElem?_getD]
    rfl
   obtain ⟨ad, hA, x0, x1, x2⟩ := PAll.at_T131 HR.out.row s.at_ (by omega) (by omega)
   subst hA
   rw [← hsee] at x0
   have HS := Lib.hid hsee
   have HX := Lib.hid x0
   clear hsee x0 x1 x2
   have d1 : ((s.at_ : Int) ≥ (l.length : Int)) = False := eq_false (by omega)
   have d2 : ((l.length : Int) ≤ (s.at_ : Int)) = False := eq_false (by omega)
   have p1 : (0 ≤ (s.at_ : Int)) = True := eq_true (by omega)
   have p2 : ((s.at_ : Int) < (l.length : Int)) = True := eq_true (by omega)
   go_enter Tryz.func122, Tryz.ntmps122
   go_wp2_with fail
   repeat (go_quiet (fail); try go_wp2)
   go_loopw [26] (fun i wr => ∃ q : Nat, i = .int .i64 q ∧ q ≤ K.length ∧ Hid (∃ nq, wr = w.drewN nq)) (fun i _ => K.length - (intOf i).toNat)
   case atStart => exact ⟨0, rfl, by omega, Lib.hid ⟨_, rfl⟩⟩
   case round =>
    obtain ⟨q, rfl, hq, HN⟩ := hrel
    have hk0 : wr.cell? ⟨g, 0, none⟩ = some (.slice (some ad) l.length cap) := by obtain ⟨_, e⟩ := HN.out; rw [e]; exact c0
    have hk1 : wr.cell? ⟨g, 1, none⟩ = some (.int .i64 s.at_) := by obtain ⟨_, e⟩ := HN.out; rw [e]; exact c1
    have hkx : wr.cell? (ad.add ((s.at_ : Int).toNat * 3)) = some (.int .i64 (s.see l)) := by obtain ⟨_, e⟩ := HN.out; rw [e]; exact HX.out
    simp only [Int.toNat_natCast] at hkx
    by_cases hqlt : q < K.length
    ·have hkc : wr.cell? ⟨kb, q, none⟩ = some (.int .i64 K[q]) := by obtain ⟨_, e⟩ := HN.out; rw [e]; exact HK.out q hqlt
     have hne : (s.see l == K[q]) = false := beq_eq_false_iff_ne.mpr (fun e => h (by rw [e]; exact List.getElem_mem hqlt))
     have q1 : (0 ≤ (q : Int)) = True := eq_true (by omega)
     have q2 : ((q : Int) < (K.length : Int)) = True := eq_true (by omega)
     generalize K[q] = kq at *
     go_wp2_with fail
     repeat (go_quiet (fail); try go_wp2)
     go_roundw
     case rel => exact ⟨q + 1, by go_num, by omega, Lib.hid (by obtain ⟨nq, e⟩ := HN.out; rw [e]; exact ⟨_, by first | rfl | rw [World.drewN_drewN] | (simp; rfl)⟩)⟩
     case measure => simp [intOf]; omega
    ·obtain rfl : q = K.length := by omega
     go_wp2_with fail
     repeat (go_quiet (fail); try go_wp2)
     go_ret2
     exact ⟨rfl, by obtain ⟨nq, e⟩ := HN.out; rw [e]; exact ⟨_, by first | rfl | rw [World.drewN_drewN] | (simp; rfl)⟩⟩
  ·go_enter Tryz.func122, Tryz.ntmps122
   have d1 : ((s.at_ : Int) ≥ (l.length : Int)) = True := eq_true (by omega)
   have d2 : ((l.length : Int) ≤ (s.at_ : Int)) = True := eq_true (by omega)
   go_wp2_with fail
   repeat (go_quiet (fail); try go_wp2)
   go_ret2
   exact ⟨rfl, _, rfl⟩
theorem pis_hit (hR : RdrP g A cap l B w s v) (kb : Nat) (K : List Int) (hK : Kinds w kb K) (hl : l.length ≤ 1000000) (hKl : K.length ≤ 100) (h : s.see l ∈ K) (h0 : (0 : Int) ∉ K) :
  Calls Tryz.prog 122 #[.pointer (some ⟨g, 0, none⟩), .slice (some ⟨kb, 0, none⟩) K.length K.length] w fun e w' => e = .returned (.tuple #[.int .i64 (s.see l), .bool true]) ∧ RdrP g A cap l B w' s.adv v ∧ ChgR g v w w' := by
 obtain ⟨c0, c1, c2, c3, f1, f2, f3⟩ := hR.cells
 have hnz : s.see l ≠ 0 := fun e => h0 (by rw [← e]; exact h)
 have hlt := see_lt hnz
 have hb : s.bad = false := by
  cases hb : s.bad with
  | false => rfl
  | true => exact absurd (by unfold St.see; rw [if_pos (.inl hb)]) hnz
 obtain ⟨j0, hj0, hkj, hbefore⟩ : ∃ j0, ∃ hj : j0 < K.length, K[j0] = s.see l ∧ ∀ j (hj : j < K.length), j < j0 → K[j] ≠ s.see l := by
  have h1 : K.findIdx (· == s.see l) < K.length := List.findIdx_lt_length_of_exists ⟨_, h, by simp⟩
  refine ⟨_, h1, by simpa using List.findIdx_getElem (w := h1), fun j hj hlt e => ?_⟩
  have := List.not_of_lt_findIdx hlt
  simp [e] at this
 have HR := Lib.hid hR
 have HK := Lib.hid hK
 clear hR hK
 rw [hb] at c3
 have hsee : s.see l = (PAll.rd_T131 l s.at_).f0 := by
  unfold St.see
  rw [if_neg (by rw [hb]; simp; omega)]
  simp [PAll.rd_T131, List.getD_eq_getElem?_getD]
  rfl
 obtain ⟨ad, hA, x0, x1, x2⟩ := PAll.at_T131 HR.out.row s.at_ (by omega) (by omega)
 subst hA
 rw [← hsee] at x0
 have HX := Lib.hid x0
 have HB := Lib.hid hbefore
 have HKJ := Lib.hid hkj
 clear hsee x0 x1 x2 hbefore hkj
 have d1 : ((s.at_ : Int) ≥ (l.length : Int)) = False := eq_false (by omega)
 have d2 : ((l.length : Int) ≤ (s.at_ : Int)) = False := eq_false (by omega)
 have p1 : (0 ≤ (s.at_ : Int)) = True := eq_true (by omega)
 have p2 : ((s.at_ : Int) < (l.length : Int)) = True := eq_true (by omega)
 go_enter Tryz.func122, Tryz.ntmps122
 go_wp2_with fail
 repeat (go_quiet (fail); try go_wp2)
 go_loopw [26] (fun i wr => ∃ q : Nat, i = .int .i64 q ∧ q ≤ j0 ∧ Hid (∃ nq, wr = w.drewN nq)) (fun i _ => K.length - (intOf i).toNat)
 case atStart => exact ⟨0, rfl, by omega, Lib.hid ⟨_, rfl⟩⟩
 case round =>
  obtain ⟨q, rfl, hq, HN⟩ := hrel
  have hk0 : wr.cell? ⟨g, 0, none⟩ = some (.slice (some ad) l.length cap) := by obtain ⟨_, e⟩ := HN.out; rw [e]; exact c0
  have hk1 : wr.cell? ⟨g, 1, none⟩ = some (.int .i64 s.at_) := by obtain ⟨_, e⟩ := HN.out; rw [e]; exact c1
  have hkf : wr.frozen? ⟨g, 1, none⟩ = false := by obtain ⟨_, e⟩ := HN.out; rw [e]; exact f1
  have hkx : wr.cell? (ad.add ((s.at_ : Int).toNat * 3)) = some (.int .i64 (s.see l)) := by obtain ⟨_, e⟩ := HN.out; rw [e]; exact HX.out
  simp only [Int.toNat_natCast] at hkx
  have hqlt : q < K.length := by omega
  have hkc : wr.cell? ⟨kb, q, none⟩ = some (.int .i64 K[q]) := by obtain ⟨_, e⟩ := HN.out; rw [e]; exact HK.out q hqlt
  have q1 : (0 ≤ (q : Int)) = True := eq_true (by omega)
  have q2 : ((q : Int) < (K.length : Int)) = True := eq_true (by omega)
  by_cases hqj : q < j0
  ·have hne : (s.see l == K[q]) = false := beq_eq_false_iff_ne.mpr (fun e => HB.out q hqlt hqj e.symm)
   generalize K[q] = kq at *
   go_wp2_with fail
   repeat (go_quiet (fail); try go_wp2)
   go_roundw
   case rel => exact ⟨q + 1, by go_num, by omega, Lib.hid (by obtain ⟨nq, e⟩ := HN.out; rw [e]; exact ⟨_, by first | rfl | rw [World.drewN_drewN] | (simp; rfl)⟩)⟩
   case measure => simp [intOf]; omega
  ·obtain rfl : q = j0 := by omega
   rw [HKJ.out] at hkc
   have hne : (s.see l == s.see l) = true := beq_self_eq_true _
   generalize hsx : s.see l = sx at *
   have HSX := Lib.hid hsx
   clear hsx
   go_wp2_with fail
   repeat (go_quiet (fail); try go_wp2)
   go_ret2
   refine ⟨by rw [HSX.out]; rfl, ?_⟩
   obtain ⟨nw, e⟩ := HN.out
   rw [e]
   have e1 : ((s.at_ : Int) + 1) = ((s.at_ + 1 : Nat) : Int) := by omega
   rw [e1]
   exact ⟨((HR.out.drewN nw).drewN nq).setAt (by decide) (s.at_ + 1), (((Chg.refl _ w).drewN nw).drewN nq).trans (chg_setG v _ 1 _)⟩
theorem put_any (hR : RdrP g A cap l B w s v) (k n : Int) (hl : s.out.length < 1000000) :
  Calls Tryz.prog 123 #[.pointer (some ⟨g, 0, none⟩), .int .i64 k, .int .i64 n] w fun e w' => (∃ u, e = .returned u) ∧ ∃ v', RdrP g A cap l B w' (s.put k n) v' ∧ ChgR g v w w' ∧ Own w v v' := by
 obtain ⟨c0, c1, c2, c3, f1, f2, f3⟩ := hR.cells
 have HR := Lib.hid hR
 clear hR
 go_enter Tryz.func123, Tryz.ntmps123
 go_wp2_with (at_builtin; refine tok_append rfl (.tmp 10) (.tmp 14) rfl B _ s.out k n 0 rfl _ rfl ?aN HR.out.out ?aB ?aL ?_)
 case aN => rfl
 case aB => exact HR.out.le
 case aL => omega
 intro v1 w1 hT hg hown
 have hne : some g ≠ v.ownBlock := fun e => by have := Kd.R_base HR.out.out g e.symm; have := HR.out.lt; omega
 have hblk : w1.heap[g]? = some (.cells #[.slice A l.length cap, .int .i64 s.at_, v, .bool s.bad] 129 (0, 0)) := (hg.block g (lt_of_block HR.out.blk) hne).trans HR.out.blk
 have f2' : w1.frozen? ⟨g, 2, none⟩ = false := blk_free hblk 2
 have c2' : w1.cell? ⟨g, 2, none⟩ = some v := blk_cell hblk 2
 have HT := Lib.hid hT
 have HG := Lib.hid hg
 have HO := Lib.hid hown
 have HB := Lib.hid hblk
 obtain ⟨A1, cap1, rfl⟩ := Kd.R_slice hT
 clear hT hg hown hblk hne
 go_wp2_with fail
 go_end0
 have hp := HR.out.put (by decide) HG.out HT.out
 have hc : ChgR g v w (w1.setCell ⟨g, 2, none⟩ (.slice A1 (s.out.length + 1) cap1)) :=
  (Chg.of_grown (S := fun b => b = g ∨ some b = v.ownBlock) HG.out (fun j hj _ => .inr hj.symm)).setCell (fun _ => .inl rfl) _
 have ho := HO.out
 rw [List.length_append, List.length_singleton] at hp ho
 exact ⟨⟨_, rfl⟩, _, hp, hc, ho⟩
end
end Go.Proofs.YtikilglbhnplaaaGreatDoor
end
