/- What the functions of one token do: both, leaf. -/
import Derived.Test.YtldcplgfkcionaaDoorExprw
import Derived.Test.YtldcplgfkcionaaDoorTail
set_option linter.unusedVariables false
set_option linter.unusedSimpArgs false
namespace Go.Proofs.YtldcplgfkcionaaDoor
open Go.RowKit Go.Proofs.YtldcplgfkcionaaDoorW.PrintWords
open PX (T V takes takes_cases)
/-- Blocks laid ahead of a call: two of two cells, and a result. -/
theorem laid222 {w w2 : World} {x x' y y' : Value} {t : TypeId} {z : Value} {z' : Value}
    (hb : Below (((w.alloc (.cells #[x, x'] t)).alloc (.cells #[y, y'] t)).alloc (.cells #[z, z'] t)).heap.size (((w.alloc (.cells #[x, x'] t)).alloc (.cells #[y, y'] t)).alloc (.cells #[z, z'] t)) w2) :
    w2.heap[w.heap.size + 1 + 1]? = some (.cells #[z, z'] t (0, 0)) ∧ w2.cell? ⟨w.heap.size, 0, none⟩ = some x ∧ w2.cell? ⟨w.heap.size, 1, none⟩ = some x' ∧ w2.cell? ⟨w.heap.size + 1, 0, none⟩ = some y ∧ w2.cell? ⟨w.heap.size + 1, 1, none⟩ = some y' ∧ w2.cell? ⟨w.heap.size + 1 + 1, 0, none⟩ = some z ∧ w2.cell? ⟨w.heap.size + 1 + 1, 1, none⟩ = some z' ∧
      w2.frozen? ⟨w.heap.size + 1 + 1, 0, none⟩ = false ∧ w2.frozen? ⟨w.heap.size + 1 + 1, 1, none⟩ = false ∧ w.heap.size + 1 + 1 < w2.heap.size ∧ Below w.heap.size w w2 := by
  have hz := hb.size
  simp at hz
  have e1 : (w.alloc (.cells #[x, x'] t)).heap.size = w.heap.size + 1 := by simp
  have e2 : ((w.alloc (.cells #[x, x'] t)).alloc (.cells #[y, y'] t)).heap.size = w.heap.size + 1 + 1 := by simp
  have h2 := (hb.block (w.heap.size + 1 + 1) (by simp)).trans (e2 ▸ blk_new ((w.alloc (.cells #[x, x'] t)).alloc (.cells #[y, y'] t)) (.cells #[z, z'] t))
  have h1 := (hb.block (w.heap.size + 1) (by simp)).trans (blk_alloc _ (e1 ▸ blk_new (w.alloc (.cells #[x, x'] t)) (.cells #[y, y'] t)))
  have h0 := (hb.block w.heap.size (by simp; omega)).trans (blk_alloc _ (blk_alloc _ (blk_new w (.cells #[x, x'] t))))
  exact ⟨h2, blk_cell h0 0, blk_cell h0 1, blk_cell h1 0, blk_cell h1 1, blk_cell h2 0, blk_cell h2 1, blk_free h2 0, blk_free h2 1, by omega, ((((Below.refl _ _).alloc (Nat.le_refl _) _).alloc (by simp) _).alloc (by simp; omega) _).trans (hb.mono (by simp; omega))⟩
set_option maxHeartbeats 8000000 in
set_option maxRecDepth 100000 in
theorem both_any (k : Int) (a b : V) (w : World) : Calls Tryd.prog 87 #[.int .i64 k, agV a, agV b] w fun e w' => e = .returned (retE (bothE k a b)) ∧ Below w.heap.size w w' := by
  obtain ⟨hk, a0, a1, b0, b1, c0, c1, f0, f1, hlt, hbw⟩ := laid222 (Below.refl (((w.alloc (.cells #[.int .i64 a.1, .int .i64 a.2] 54)).alloc (.cells #[.int .i64 b.1, .int .i64 b.2] 54)).alloc (.cells #[.int .i64 0, .int .i64 0] 54)).heap.size (((w.alloc (.cells #[.int .i64 a.1, .int .i64 a.2] 54)).alloc (.cells #[.int .i64 b.1, .int .i64 b.2] 54)).alloc (.cells #[.int .i64 0, .int .i64 0] 54)))
  have HK := Lib.hid hk
  clear hk
  have hax : (.agg #[.int .i64 a.1, .int .i64 a.2] : Value) = agV a := rfl
  have hbx : (.agg #[.int .i64 b.1, .int .i64 b.2] : Value) = agV b := rfl
  have n01 : ((a.1 : Int) != b.1) = !(a.1 == b.1) := rfl
  by_cases hk : a.1 = b.1
  · have n1 : (a.1 == b.1) = true := beq_iff_eq.mpr hk
    by_cases h10 : k = 10
    · subst h10
      have hN : bothE 10 a b = .ok (truthV (a.2 == b.2)) := by simp [bothE, hk]
      rw [hN]
      clear hN hk
      rw [← hax, ← hbx]
      clear hax hbx
      go_enter Tryd.func87, Tryd.ntmps87
      go_wp2_with fail
      refine (truth_any _ _).mono ?_
      rintro e w1 ⟨rfl, hb1⟩
      obtain ⟨hk, _, _, _, _, c0, c1, f0, f1, hlt, hbw⟩ := laid222 hb1
      clear HK
      have HK := Lib.hid hk
      clear hk hb1 a0 a1 b0 b1
      simp only [agV]
      go_wp2_with fail
      refine bodyPost_ret (results_ct rfl _ _ (w.heap.size + 1 + 1) 54 #[.int .i64 _, .int .i64 _] (0, 0) _ rfl (blk_set2 HK.out _ _) Tryd.underlying54 rfl (by kernel_rfl)) rfl ?_
      exact ⟨rfl, below_set2 hbw (by omega) _ _⟩
    have n10 : (k == 10) = false := beq_eq_false_iff_ne.mpr h10
    by_cases h11 : k = 11
    · subst h11
      have hN : bothE 11 a b = .ok (truthV (!(a.2 == b.2))) := by simp [bothE, hk]
      rw [hN]
      clear hN hk
      rw [← hax, ← hbx]
      clear hax hbx
      go_enter Tryd.func87, Tryd.ntmps87
      go_wp2_with fail
      refine (truth_any _ _).mono ?_
      rintro e w1 ⟨rfl, hb1⟩
      obtain ⟨hk, _, _, _, _, c0, c1, f0, f1, hlt, hbw⟩ := laid222 hb1
      clear HK
      have HK := Lib.hid hk
      clear hk hb1 a0 a1 b0 b1
      simp only [agV]
      go_wp2_with fail
      refine bodyPost_ret (results_ct rfl _ _ (w.heap.size + 1 + 1) 54 #[.int .i64 _, .int .i64 _] (0, 0) _ rfl (blk_set2 HK.out _ _) Tryd.underlying54 rfl (by kernel_rfl)) rfl ?_
      exact ⟨rfl, below_set2 hbw (by omega) _ _⟩
    have n11 : (k == 11) = false := beq_eq_false_iff_ne.mpr h11
    by_cases h1 : a.1 = 1
    · have m1 : (a.1 == 1) = true := beq_iff_eq.mpr h1
      have hN : bothE k a b = numE k a.2 b.2 := by simp only [bothE]; rw [if_neg (by simp [hk]), if_neg h10, if_neg h11, if_pos h1]
      rw [hN]
      clear hN hk h1 h10 h11
      rw [← hax, ← hbx]
      clear hax hbx
      go_enter Tryd.func87, Tryd.ntmps87
      go_wp2_with fail
      refine (numbers_any k a.2 b.2 _).mono ?_
      rintro e w1 ⟨rfl, hb1⟩
      obtain ⟨hk, _, _, _, _, c0, c1, f0, f1, hlt, hbw⟩ := laid222 hb1
      clear HK
      have HK := Lib.hid hk
      clear hk hb1 a0 a1 b0 b1
      cases hN : numE k a.2 b.2 with
      | ok v =>
        have HN := Lib.hid hN
        clear hN
        simp only [retE, agV]
        go_wp2_with fail
        refine bodyPost_ret (results_ct rfl _ _ (w.heap.size + 1 + 1) 54 #[.int .i64 _, .int .i64 _] (0, 0) _ rfl (blk_set2 HK.out _ _) Tryd.underlying54 rfl (by kernel_rfl)) rfl ?_
        exact ⟨by rw [HN.out]; rfl, below_set2 hbw (by omega) _ _⟩
      | error x =>
        have HN := Lib.hid hN
        clear hN
        simp only [retE, agV]
        go_wp2_with fail
        refine bodyPost_ret (results_ct rfl _ _ (w.heap.size + 1 + 1) 54 #[.int .i64 _, .int .i64 _] (0, 0) _ rfl (blk_set2 HK.out _ _) Tryd.underlying54 rfl (by kernel_rfl)) rfl ?_
        exact ⟨by rw [HN.out]; rfl, below_set2 hbw (by omega) _ _⟩
    have m1 : (a.1 == 1) = false := beq_eq_false_iff_ne.mpr h1
    by_cases h12 : k = 12
    · subst h12
      have hN : bothE 12 a b = .ok (truthV (decide (wrap64 (a.2 + b.2) > 1))) := by simp only [bothE]; rw [if_neg (by simp [hk]), if_neg h10, if_neg h11, if_neg h1]; rfl
      rw [hN]
      clear hN hk h1 h10 h11
      rw [← hax, ← hbx]
      clear hax hbx
      go_enter Tryd.func87, Tryd.ntmps87
      go_wp2_with fail
      refine (truth_any _ _).mono ?_
      rintro e w1 ⟨rfl, hb1⟩
      obtain ⟨hk, _, _, _, _, c0, c1, f0, f1, hlt, hbw⟩ := laid222 hb1
      clear HK
      have HK := Lib.hid hk
      clear hk hb1 a0 a1 b0 b1
      simp only [agV]
      go_wp2_with fail
      refine bodyPost_ret (results_ct rfl _ _ (w.heap.size + 1 + 1) 54 #[.int .i64 _, .int .i64 _] (0, 0) _ rfl (blk_set2 HK.out _ _) Tryd.underlying54 rfl (by kernel_rfl)) rfl ?_
      exact ⟨rfl, below_set2 hbw (by omega) _ _⟩
    have n12 : (k == 12) = false := beq_eq_false_iff_ne.mpr h12
    by_cases h13 : k = 13
    · subst h13
      have hN : bothE 13 a b = .ok (truthV (decide (wrap64 (a.2 + b.2) > 0))) := by simp only [bothE]; rw [if_neg (by simp [hk]), if_neg h10, if_neg h11, if_neg h1]; rfl
      rw [hN]
      clear hN hk h1 h10 h11
      rw [← hax, ← hbx]
      clear hax hbx
      go_enter Tryd.func87, Tryd.ntmps87
      go_wp2_with fail
      refine (truth_any _ _).mono ?_
      rintro e w1 ⟨rfl, hb1⟩
      obtain ⟨hk, _, _, _, _, c0, c1, f0, f1, hlt, hbw⟩ := laid222 hb1
      clear HK
      have HK := Lib.hid hk
      clear hk hb1 a0 a1 b0 b1
      simp only [agV]
      go_wp2_with fail
      refine bodyPost_ret (results_ct rfl _ _ (w.heap.size + 1 + 1) 54 #[.int .i64 _, .int .i64 _] (0, 0) _ rfl (blk_set2 HK.out _ _) Tryd.underlying54 rfl (by kernel_rfl)) rfl ?_
      exact ⟨rfl, below_set2 hbw (by omega) _ _⟩
    have n13 : (k == 13) = false := beq_eq_false_iff_ne.mpr h13
    have hN : bothE k a b = .error 8 := by simp only [bothE]; rw [if_neg (by simp [hk]), if_neg h10, if_neg h11, if_neg h1, if_neg h12, if_neg h13]
    rw [hN]
    clear hN hk h1 h10 h11 h12 h13
    rw [← hax, ← hbx]
    clear hax hbx
    go_enter Tryd.func87, Tryd.ntmps87
    go_wp2_with fail
    refine bodyPost_ret (results_ct rfl _ _ (w.heap.size + 1 + 1) 54 #[.int .i64 _, .int .i64 _] (0, 0) _ rfl (HK.out) Tryd.underlying54 rfl (by kernel_rfl)) rfl ?_
    exact ⟨rfl, hbw⟩
  · have n1 : (a.1 == b.1) = false := beq_eq_false_iff_ne.mpr hk
    have hN : bothE k a b = .error 8 := by simp only [bothE]; rw [if_pos hk]
    rw [hN]
    clear hN hk
    rw [← hax, ← hbx]
    clear hax hbx
    go_enter Tryd.func87, Tryd.ntmps87
    go_wp2_with fail
    refine bodyPost_ret (results_ct rfl _ _ (w.heap.size + 1 + 1) 54 #[.int .i64 _, .int .i64 _] (0, 0) _ rfl (HK.out) Tryd.underlying54 rfl (by kernel_rfl)) rfl ?_
    exact ⟨rfl, hbw⟩
/-- What a function of a variable's number tells: over a pointer, in a world that holds what it reads. -/
def LookC (f : FuncId) (cp : Value) (look : Int → Option Int) (B : Nat) (w : World) : Prop :=
  ∀ w', Below B w w' → ∀ v : Int, 0 ≤ v → v ≤ 1000 → Calls Tryd.prog f #[.int .i64 v, cp] w' fun e w'' => e = .returned (.tuple #[.int .i64 ((look v).getD 0), .bool (look v).isSome]) ∧ ∃ n, w'' = w'.drewN n
theorem LookC.below {f : FuncId} {cp : Value} {look : Int → Option Int} {B : Nat} {w w1 : World} (h : LookC f cp look B w) (hb : Below B w w1) : LookC f cp look B w1 :=
  fun w' hw v h0 h1 => h w' (hb.trans hw) v h0 h1
/-- What leaf hands back of a token. -/
def leafR (look : Int → Option Int) (t : T) : Value :=
  if takes t = 0 then (match leafE look t with | .ok v => .tuple #[agV v, .bool true, .nilIface] | .error c => .tuple #[agV (0, 0), .bool true, .iface 28 (.int .i64 c)])
  else .tuple #[agV (0, 0), .bool false, .nilIface]
theorem laid32 {w w2 : World} {x y z a b : Value} {t t' : TypeId} (hb : Below ((w.alloc (.cells #[x, y, z] t)).alloc (.cells #[a, b] t')).heap.size ((w.alloc (.cells #[x, y, z] t)).alloc (.cells #[a, b] t')) w2) :
    w2.heap[w.heap.size + 1]? = some (.cells #[a, b] t' (0, 0)) ∧ w2.cell? ⟨w.heap.size, 0, none⟩ = some x ∧ w2.cell? ⟨w.heap.size, 1, none⟩ = some y ∧ w2.cell? ⟨w.heap.size + 1, 0, none⟩ = some a ∧ w2.cell? ⟨w.heap.size + 1, 1, none⟩ = some b ∧
      w2.frozen? ⟨w.heap.size + 1, 0, none⟩ = false ∧ w2.frozen? ⟨w.heap.size + 1, 1, none⟩ = false ∧ w.heap.size + 1 < w2.heap.size ∧ Below w.heap.size w w2 := by
  have hz := hb.size
  simp at hz
  have e1 : (w.alloc (.cells #[x, y, z] t)).heap.size = w.heap.size + 1 := by simp
  have h1 := (hb.block (w.heap.size + 1) (by simp)).trans (e1 ▸ blk_new (w.alloc (.cells #[x, y, z] t)) (.cells #[a, b] t'))
  have h0 := (hb.block w.heap.size (by simp; omega)).trans (blk_alloc _ (blk_new w (.cells #[x, y, z] t)))
  exact ⟨h1, blk_cell h0 0, blk_cell h0 1, blk_cell h1 0, blk_cell h1 1, blk_free h1 0, blk_free h1 1, by omega, (((Below.refl _ _).alloc (Nat.le_refl _) _).alloc (by simp) _).trans (hb.mono (by simp; omega))⟩
set_option maxHeartbeats 8000000 in
set_option maxRecDepth 100000 in
theorem leaf_any (f : FuncId) (hrun : ∀ (args : Array Value) (w : World), (callFunc f args).run Tryd.prog w = .ok (.enter f args) w) (cp : Value) (look : Int → Option Int) (t : T) (h0 : 0 ≤ takes t) (B : Nat) (w : World) (hB : B ≤ w.heap.size) (hl : LookC f cp look B w) :
    Calls Tryd.prog 85 #[.agg #[.int .i64 t.f0, .int .i64 t.f1, .int .i64 t.f2], .func (.func f) #[] #[cp]] w fun e w' => e = .returned (leafR look t) ∧ Below w.heap.size w w' := by
  have HL := Lib.hid hl
  clear hl
  obtain ⟨hk, a0, a1, c0, c1, f0, f1, hlt, hbw⟩ := laid32 (Below.refl ((w.alloc (.cells #[.int .i64 t.f0, .int .i64 t.f1, .int .i64 t.f2] 40)).alloc (.cells #[.int .i64 0, .int .i64 0] 54)).heap.size ((w.alloc (.cells #[.int .i64 t.f0, .int .i64 t.f1, .int .i64 t.f2] 40)).alloc (.cells #[.int .i64 0, .int .i64 0] 54)))
  have HK := Lib.hid hk
  clear hk
  rcases takes_cases t with e | e | e | e
  · omega
  · obtain ⟨hk, hn0, hn2⟩ := takes0 e
    obtain ⟨k, n, c⟩ := t
    simp only at hk hn0 hn2 a0 a1 HK c0 c1 f0 f1 hbw
    rcases hk with rfl | rfl | rfl | rfl
    · have HX : Hid (leafR look ⟨1, n, c⟩ = .tuple #[agV (wholeV n), .bool true, .nilIface]) := Lib.hid (by rw [leafR, if_pos e]; rfl)
      go_enter Tryd.func85, Tryd.ntmps85
      go_wp2_with fail
      refine (whole_any _ _).mono ?_
      rintro e w1 ⟨rfl, hb1⟩
      obtain ⟨hk, _, _, c0, c1, f0, f1, hlt, hbw⟩ := laid32 hb1
      clear HK
      have HK := Lib.hid hk
      clear hk hb1 a0 a1
      simp only [agV]
      go_wp2_with fail
      refine bodyPost_ret (results_ctt rfl _ _ (w.heap.size + 1) 54 #[.int .i64 _, .int .i64 _] (0, 0) _ rfl (blk_set2 HK.out _ _) Tryd.underlying54 rfl (by kernel_rfl)) rfl ?_
      exact ⟨by rw [HX.out]; rfl, below_set2 hbw (by omega) _ _⟩
    · cases hlk : look n with
      | some m =>
        have HX : Hid (leafR look ⟨2, n, c⟩ = .tuple #[agV (wholeV m), .bool true, .nilIface]) := Lib.hid (by rw [leafR, if_pos e]; simp [leafE, hlk])
        go_enter Tryd.func85, Tryd.ntmps85
        go_wp2_with fail
        refine (HL.out _ ?lkw n hn0 (by have := hn2 trivial; omega)).mono ?_
        case lkw => exact (Below.mono (((Below.refl _ _).alloc (Nat.le_refl _) _).alloc (by simp) _) hB)
        rw [hlk]
        rintro e w1 ⟨rfl, n1, rfl⟩
        clear hlk
        simp only [Option.getD_some, Option.isSome_some]
        go_wp2_with fail
        refine (whole_any _ _).mono ?_
        rintro e w1 ⟨rfl, hb1⟩
        have hb1' := (below_drewN' (Below.refl ((w.alloc (.cells #[.int .i64 2, .int .i64 n, .int .i64 c] 40)).alloc (.cells #[.int .i64 0, .int .i64 0] 54)).heap.size ((w.alloc (.cells #[.int .i64 2, .int .i64 n, .int .i64 c] 40)).alloc (.cells #[.int .i64 0, .int .i64 0] 54))) n1).trans (hb1.mono (by simp))
        obtain ⟨hk, _, _, c0, c1, f0, f1, hlt, hbw⟩ := laid32 hb1'
        clear HK
        have HK := Lib.hid hk
        clear hk hb1 hb1' a0 a1
        simp only [agV]
        go_wp2_with fail
        refine bodyPost_ret (results_ctt rfl _ _ (w.heap.size + 1) 54 #[.int .i64 _, .int .i64 _] (0, 0) _ rfl (blk_set2 HK.out _ _) Tryd.underlying54 rfl (by kernel_rfl)) rfl ?_
        exact ⟨by rw [HX.out]; rfl, below_set2 hbw (by omega) _ _⟩
      | none =>
        have HX : Hid (leafR look ⟨2, n, c⟩ = .tuple #[agV (0, 0), .bool true, .iface 28 (.int .i64 4)]) := Lib.hid (by rw [leafR, if_pos e]; simp [leafE, hlk])
        go_enter Tryd.func85, Tryd.ntmps85
        go_wp2_with fail
        refine (HL.out _ ?lkw n hn0 (by have := hn2 trivial; omega)).mono ?_
        case lkw => exact (Below.mono (((Below.refl _ _).alloc (Nat.le_refl _) _).alloc (by simp) _) hB)
        rw [hlk]
        rintro e w1 ⟨rfl, n1, rfl⟩
        clear hlk
        simp only [Option.getD_none, Option.isSome_none]
        go_wp2_with fail
        refine bodyPost_ret (results_ctt rfl _ _ (w.heap.size + 1) 54 #[.int .i64 _, .int .i64 _] (0, 0) _ rfl (blk_set2 (blk_drewN n1 HK.out) _ _) Tryd.underlying54 rfl (by kernel_rfl)) rfl ?_
        exact ⟨by rw [HX.out]; rfl, below_set2 (below_drewN' hbw n1) (by omega) _ _⟩
    · have HX : Hid (leafR look ⟨15, n, c⟩ = .tuple #[agV (truthV true), .bool true, .nilIface]) := Lib.hid (by rw [leafR, if_pos e]; rfl)
      go_enter Tryd.func85, Tryd.ntmps85
      go_wp2_with fail
      refine (truth_any _ _).mono ?_
      rintro e w1 ⟨rfl, hb1⟩
      obtain ⟨hk, _, _, c0, c1, f0, f1, hlt, hbw⟩ := laid32 hb1
      clear HK
      have HK := Lib.hid hk
      clear hk hb1 a0 a1
      simp only [agV]
      go_wp2_with fail
      refine bodyPost_ret (results_ctt rfl _ _ (w.heap.size + 1) 54 #[.int .i64 _, .int .i64 _] (0, 0) _ rfl (blk_set2 HK.out _ _) Tryd.underlying54 rfl (by kernel_rfl)) rfl ?_
      exact ⟨by rw [HX.out]; rfl, below_set2 hbw (by omega) _ _⟩
    · have HX : Hid (leafR look ⟨16, n, c⟩ = .tuple #[agV (truthV false), .bool true, .nilIface]) := Lib.hid (by rw [leafR, if_pos e]; rfl)
      go_enter Tryd.func85, Tryd.ntmps85
      go_wp2_with fail
      refine (truth_any _ _).mono ?_
      rintro e w1 ⟨rfl, hb1⟩
      obtain ⟨hk, _, _, c0, c1, f0, f1, hlt, hbw⟩ := laid32 hb1
      clear HK
      have HK := Lib.hid hk
      clear hk hb1 a0 a1
      simp only [agV]
      go_wp2_with fail
      refine bodyPost_ret (results_ctt rfl _ _ (w.heap.size + 1) 54 #[.int .i64 _, .int .i64 _] (0, 0) _ rfl (blk_set2 HK.out _ _) Tryd.underlying54 rfl (by kernel_rfl)) rfl ?_
      exact ⟨by rw [HX.out]; rfl, below_set2 hbw (by omega) _ _⟩
  · have hk := takes1 e
    have HX : Hid (leafR look t = .tuple #[agV (0, 0), .bool false, .nilIface]) := Lib.hid (by rw [leafR, if_neg (by omega)])
    have n1 : (t.f0 == 1) = false := beq_eq_false_iff_ne.mpr (by omega)
    have n2 : (t.f0 == 2) = false := beq_eq_false_iff_ne.mpr (by omega)
    have n15 : (t.f0 == 15) = false := beq_eq_false_iff_ne.mpr (by omega)
    have n16 : (t.f0 == 16) = false := beq_eq_false_iff_ne.mpr (by omega)
    go_enter Tryd.func85, Tryd.ntmps85
    go_wp2_with fail
    refine bodyPost_ret (results_ctt rfl _ _ (w.heap.size + 1) 54 #[.int .i64 _, .int .i64 _] (0, 0) _ rfl (HK.out) Tryd.underlying54 rfl (by kernel_rfl)) rfl ?_
    exact ⟨by rw [HX.out]; rfl, hbw⟩
  · have hk := takes2 e
    have HX : Hid (leafR look t = .tuple #[agV (0, 0), .bool false, .nilIface]) := Lib.hid (by rw [leafR, if_neg (by omega)])
    have n1 : (t.f0 == 1) = false := beq_eq_false_iff_ne.mpr (by omega)
    have n2 : (t.f0 == 2) = false := beq_eq_false_iff_ne.mpr (by omega)
    have n15 : (t.f0 == 15) = false := beq_eq_false_iff_ne.mpr (by omega)
    have n16 : (t.f0 == 16) = false := beq_eq_false_iff_ne.mpr (by omega)
    go_enter Tryd.func85, Tryd.ntmps85
    go_wp2_with fail
    refine bodyPost_ret (results_ctt rfl _ _ (w.heap.size + 1) 54 #[.int .i64 _, .int .i64 _] (0, 0) _ rfl (HK.out) Tryd.underlying54 rfl (by kernel_rfl)) rfl ?_
    exact ⟨by rw [HX.out]; rfl, hbw⟩
end Go.Proofs.YtldcplgfkcionaaDoor
