/- What the parser's smallest functions do: is, put. -/
import Derived.Test.YtldcplgfkcionaaDoorRdr
set_option linter.unusedVariables false
set_option linter.unusedSimpArgs false
namespace Go.Proofs.YtldcplgfkcionaaDoor
open Go.RowKit PX Go.Proofs.YtldcplgfkcionaaDoorW.PrintWords
/-- A row of kinds. -/
def Kinds (w : World) (kb : Nat) (K : List Int) : Prop := ∀ j (h : j < K.length), w.cell? ⟨kb, j, none⟩ = some (.int .i64 K[j])
theorem Kinds.chg {S : Nat → Prop} {w w' : World} {kb : Nat} {K : List Int} (h : Kinds w kb K) (hc : Chg S w w') (hk : kb < w.heap.size) (hS : ¬ S kb) : Kinds w' kb K :=
  fun j hj => (hc.cell (p := ⟨kb, j, none⟩) hk hS).trans (h j hj)
theorem Kinds.drewN {w : World} {kb : Nat} {K : List Int} (h : Kinds w kb K) (n : Nat) : Kinds (w.drewN n) kb K := fun j hj => h j hj
section
variable {g : Nat} {A : Option Addr} {cap : Nat} {l : List T} {B : Nat} {w : World} {s : St} {v : Value}
abbrev RdrP (g : Nat) (A : Option Addr) (cap : Nat) (l : List T) (B : Nat) (w : World) (s : St) (v : Value) : Prop := Rdr 91 g A cap l B w s v
theorem Rdr.drewN {tb : Nat} (h : Rdr tb g A cap l B w s v) (n : Nat) : Rdr tb g A cap l B (w.drewN n) s v :=
  ⟨h.blk, Kd.R_drewN h.out n, Kd.C_drewN h.row n, h.rowB, h.lt, h.le, h.cap_⟩
theorem Rdr.cells {tb : Nat} (h : Rdr tb g A cap l B w s v) : w.cell? ⟨g, 0, none⟩ = some (.slice A l.length cap) ∧ w.cell? ⟨g, 1, none⟩ = some (.int .i64 s.at_) ∧ w.cell? ⟨g, 2, none⟩ = some v ∧ w.cell? ⟨g, 3, none⟩ = some (.bool s.bad) ∧
    w.frozen? ⟨g, 1, none⟩ = false ∧ w.frozen? ⟨g, 2, none⟩ = false ∧ w.frozen? ⟨g, 3, none⟩ = false :=
  ⟨blk_cell h.blk 0, blk_cell h.blk 1, blk_cell h.blk 2, blk_cell h.blk 3, blk_free h.blk 1, blk_free h.blk 2, blk_free h.blk 3⟩
set_option maxHeartbeats 4000000 in
set_option maxRecDepth 100000 in
/-- Nothing is passed: there is no next one, or it is of none of the kinds. -/
theorem pis_miss (hR : RdrP g A cap l B w s v) (kb : Nat) (K : List Int) (hK : Kinds w kb K) (hl : l.length ≤ 1000000) (hat : s.at_ ≤ l.length) (hKl : K.length ≤ 100) (h : s.see l ∉ K) :
    Calls Tryd.prog 101 #[.pointer (some ⟨g, 0, none⟩), .slice (some ⟨kb, 0, none⟩) K.length K.length] w fun e w' => e = .returned (.tuple #[.int .i64 0, .bool false]) ∧ ∃ n, w' = w.drewN n := by
  obtain ⟨c0, c1, c2, c3, f1, f2, f3⟩ := hR.cells
  have HR := Lib.hid hR
  have HK := Lib.hid hK
  clear hR hK
  cases hb : s.bad with
  | true =>
    rw [hb] at c3
    go_enter Tryd.func101, Tryd.ntmps101
    go_wp2_with fail
    repeat (go_quiet (fail); try go_wp2)
    go_ret2
    exact ⟨rfl, _, rfl⟩
  | false =>
    rw [hb] at c3
    by_cases hlt : s.at_ < l.length
    · have hsee : s.see l = (PAll.rd_T40 l s.at_).f0 := by
        unfold St.see
        rw [if_neg (by rw [hb]; simp; omega)]
        simp [PAll.rd_T40, List.getD_eq_getElem?_getD]
        rfl
      obtain ⟨ad, hA, x0, x1, x2⟩ := PAll.at_T40 HR.out.row s.at_ (by omega) (by omega)
      subst hA
      rw [← hsee] at x0
      have HS := Lib.hid hsee
      have HX := Lib.hid x0
      clear hsee x0 x1 x2
      have d1 : ((s.at_ : Int) ≥ (l.length : Int)) = False := eq_false (by omega)
      have d2 : ((l.length : Int) ≤ (s.at_ : Int)) = False := eq_false (by omega)
      have p1 : (0 ≤ (s.at_ : Int)) = True := eq_true (by omega)
      have p2 : ((s.at_ : Int) < (l.length : Int)) = True := eq_true (by omega)
      go_enter Tryd.func101, Tryd.ntmps101
      go_wp2_with fail
      repeat (go_quiet (fail); try go_wp2)
      go_loopw [26] (fun i wr => ∃ q : Nat, i = .int .i64 q ∧ q ≤ K.length ∧ Hid (∃ nq, wr = w.drewN nq)) (fun i _ => K.length - (intOf i).toNat)
      case atStart => exact ⟨0, rfl, by omega, Lib.hid ⟨_, rfl⟩⟩
      case round =>
        obtain ⟨q, rfl, hq, HN⟩ := hrel
        have hk0 : wr.cell? ⟨g, 0, none⟩ = some (.slice (some ad) l.length cap) := by obtain ⟨_, e⟩ := HN.out; rw [e]; exact c0
        have hk1 : wr.cell? ⟨g, 1, none⟩ = some (.int .i64 s.at_) := by obtain ⟨_, e⟩ := HN.out; rw [e]; exact c1
        have hkx : wr.cell? (ad.add ((s.at_ : Int).toNat * 3)) = some (.int .i64 (s.see l)) := by obtain ⟨_, e⟩ := HN.out; rw [e]; exact HX.out
        simp only [Int.toNat_natCast] at hkx
        by_cases hqlt : q < K.length
        · have hkc : wr.cell? ⟨kb, q, none⟩ = some (.int .i64 K[q]) := by obtain ⟨_, e⟩ := HN.out; rw [e]; exact HK.out q hqlt
          have hne : (s.see l == K[q]) = false := beq_eq_false_iff_ne.mpr (fun e => h (by rw [e]; exact List.getElem_mem hqlt))
          have q1 : (0 ≤ (q : Int)) = True := eq_true (by omega)
          have q2 : ((q : Int) < (K.length : Int)) = True := eq_true (by omega)
          generalize K[q] = kq at *
          go_wp2_with fail
          repeat (go_quiet (fail); try go_wp2)
          go_roundw
          case rel => exact ⟨q + 1, by go_num, by omega, Lib.hid (by obtain ⟨nq, e⟩ := HN.out; rw [e]; exact ⟨_, by first | rfl | rw [World.drewN_drewN] | (simp; rfl)⟩)⟩
          case measure => simp [intOf]; omega
        · obtain rfl : q = K.length := by omega
          go_wp2_with fail
          repeat (go_quiet (fail); try go_wp2)
          go_ret2
          exact ⟨rfl, by obtain ⟨nq, e⟩ := HN.out; rw [e]; exact ⟨_, by first | rfl | rw [World.drewN_drewN] | (simp; rfl)⟩⟩
    · go_enter Tryd.func101, Tryd.ntmps101
      have d1 : ((s.at_ : Int) ≥ (l.length : Int)) = True := eq_true (by omega)
      have d2 : ((l.length : Int) ≤ (s.at_ : Int)) = True := eq_true (by omega)
      go_wp2_with fail
      repeat (go_quiet (fail); try go_wp2)
      go_ret2
      exact ⟨rfl, _, rfl⟩
set_option maxHeartbeats 4000000 in
set_option maxRecDepth 100000 in
/-- The next one is passed. -/
theorem pis_hit (hR : RdrP g A cap l B w s v) (kb : Nat) (K : List Int) (hK : Kinds w kb K) (hl : l.length ≤ 1000000) (hKl : K.length ≤ 100) (h : s.see l ∈ K) (h0 : (0 : Int) ∉ K) :
    Calls Tryd.prog 101 #[.pointer (some ⟨g, 0, none⟩), .slice (some ⟨kb, 0, none⟩) K.length K.length] w fun e w' => e = .returned (.tuple #[.int .i64 (s.see l), .bool true]) ∧ RdrP g A cap l B w' s.adv v ∧ ChgR g v w w' := by
  obtain ⟨c0, c1, c2, c3, f1, f2, f3⟩ := hR.cells
  have hnz : s.see l ≠ 0 := fun e => h0 (by rw [← e]; exact h)
  have hlt := see_lt hnz
  have hb : s.bad = false := by
    cases hb : s.bad with
    | false => rfl
    | true => exact absurd (by unfold St.see; rw [if_pos (.inl hb)]) hnz
  obtain ⟨j0, hj0, hkj, hbefore⟩ : ∃ j0, ∃ hj : j0 < K.length, K[j0] = s.see l ∧ ∀ j (hj : j < K.length), j < j0 → K[j] ≠ s.see l := by
    have h1 : K.findIdx (· == s.see l) < K.length := List.findIdx_lt_length_of_exists ⟨_, h, by simp⟩
    refine ⟨_, h1, by simpa using List.findIdx_getElem (w := h1), fun j hj hlt e => ?_⟩
    have := List.not_of_lt_findIdx hlt
    simp [e] at this
  have HR := Lib.hid hR
  have HK := Lib.hid hK
  clear hR hK
  rw [hb] at c3
  have hsee : s.see l = (PAll.rd_T40 l s.at_).f0 := by
    unfold St.see
    rw [if_neg (by rw [hb]; simp; omega)]
    simp [PAll.rd_T40, List.getD_eq_getElem?_getD]
    rfl
  obtain ⟨ad, hA, x0, x1, x2⟩ := PAll.at_T40 HR.out.row s.at_ (by omega) (by omega)
  subst hA
  rw [← hsee] at x0
  have HX := Lib.hid x0
  have HB := Lib.hid hbefore
  have HKJ := Lib.hid hkj
  clear hsee x0 x1 x2 hbefore hkj
  have d1 : ((s.at_ : Int) ≥ (l.length : Int)) = False := eq_false (by omega)
  have d2 : ((l.length : Int) ≤ (s.at_ : Int)) = False := eq_false (by omega)
  have p1 : (0 ≤ (s.at_ : Int)) = True := eq_true (by omega)
  have p2 : ((s.at_ : Int) < (l.length : Int)) = True := eq_true (by omega)
  go_enter Tryd.func101, Tryd.ntmps101
  go_wp2_with fail
  repeat (go_quiet (fail); try go_wp2)
  go_loopw [26] (fun i wr => ∃ q : Nat, i = .int .i64 q ∧ q ≤ j0 ∧ Hid (∃ nq, wr = w.drewN nq)) (fun i _ => K.length - (intOf i).toNat)
  case atStart => exact ⟨0, rfl, by omega, Lib.hid ⟨_, rfl⟩⟩
  case round =>
    obtain ⟨q, rfl, hq, HN⟩ := hrel
    have hk0 : wr.cell? ⟨g, 0, none⟩ = some (.slice (some ad) l.length cap) := by obtain ⟨_, e⟩ := HN.out; rw [e]; exact c0
    have hk1 : wr.cell? ⟨g, 1, none⟩ = some (.int .i64 s.at_) := by obtain ⟨_, e⟩ := HN.out; rw [e]; exact c1
    have hkf : wr.frozen? ⟨g, 1, none⟩ = false := by obtain ⟨_, e⟩ := HN.out; rw [e]; exact f1
    have hkx : wr.cell? (ad.add ((s.at_ : Int).toNat * 3)) = some (.int .i64 (s.see l)) := by obtain ⟨_, e⟩ := HN.out; rw [e]; exact HX.out
    simp only [Int.toNat_natCast] at hkx
    have hqlt : q < K.length := by omega
    have hkc : wr.cell? ⟨kb, q, none⟩ = some (.int .i64 K[q]) := by obtain ⟨_, e⟩ := HN.out; rw [e]; exact HK.out q hqlt
    have q1 : (0 ≤ (q : Int)) = True := eq_true (by omega)
    have q2 : ((q : Int) < (K.length : Int)) = True := eq_true (by omega)
    by_cases hqj : q < j0
    · have hne : (s.see l == K[q]) = false := beq_eq_false_iff_ne.mpr (fun e => HB.out q hqlt hqj e.symm)
      generalize K[q] = kq at *
      go_wp2_with fail
      repeat (go_quiet (fail); try go_wp2)
      go_roundw
      case rel => exact ⟨q + 1, by go_num, by omega, Lib.hid (by obtain ⟨nq, e⟩ := HN.out; rw [e]; exact ⟨_, by first | rfl | rw [World.drewN_drewN] | (simp; rfl)⟩)⟩
      case measure => simp [intOf]; omega
    · obtain rfl : q = j0 := by omega
      rw [HKJ.out] at hkc
      have hne : (s.see l == s.see l) = true := beq_self_eq_true _
      generalize hsx : s.see l = sx at *
      have HSX := Lib.hid hsx
      clear hsx
      go_wp2_with fail
      repeat (go_quiet (fail); try go_wp2)
      go_ret2
      refine ⟨by rw [HSX.out]; rfl, ?_⟩
      obtain ⟨nw, e⟩ := HN.out
      rw [e]
      have e1 : ((s.at_ : Int) + 1) = ((s.at_ + 1 : Nat) : Int) := by omega
      rw [e1]
      exact ⟨((HR.out.drewN nw).drewN nq).setAt (by decide) (s.at_ + 1), (((Chg.refl _ w).drewN nw).drewN nq).trans (chg_setG v _ 1 _)⟩
set_option maxHeartbeats 4000000 in
set_option maxRecDepth 100000 in
/-- A token behind all. -/
theorem put_any (hR : RdrP g A cap l B w s v) (k n : Int) (hl : s.out.length < 1000000) :
    Calls Tryd.prog 102 #[.pointer (some ⟨g, 0, none⟩), .int .i64 k, .int .i64 n] w fun e w' => (∃ u, e = .returned u) ∧ ∃ v', RdrP g A cap l B w' (s.put k n) v' ∧ ChgR g v w w' ∧ Own w v v' := by
  obtain ⟨c0, c1, c2, c3, f1, f2, f3⟩ := hR.cells
  have HR := Lib.hid hR
  clear hR
  go_enter Tryd.func102, Tryd.ntmps102
  go_wp2_with (at_builtin; refine tok_append rfl (.tmp 10) (.tmp 14) rfl B _ s.out k n 0 rfl _ rfl ?aN HR.out.out ?aB ?aL ?_)
  case aN => rfl
  case aB => exact HR.out.le
  case aL => omega
  intro v1 w1 hT hg hown
  have hne : some g ≠ v.ownBlock := fun e => by have := Kd.R_base HR.out.out g e.symm; have := HR.out.lt; omega
  have hblk : w1.heap[g]? = some (.cells #[.slice A l.length cap, .int .i64 s.at_, v, .bool s.bad] 91 (0, 0)) := (hg.block g (lt_of_block HR.out.blk) hne).trans HR.out.blk
  have f2' : w1.frozen? ⟨g, 2, none⟩ = false := blk_free hblk 2
  have c2' : w1.cell? ⟨g, 2, none⟩ = some v := blk_cell hblk 2
  have HT := Lib.hid hT
  have HG := Lib.hid hg
  have HO := Lib.hid hown
  have HB := Lib.hid hblk
  obtain ⟨A1, cap1, rfl⟩ := Kd.R_slice hT
  clear hT hg hown hblk hne
  go_wp2_with fail
  go_end0
  have hp := HR.out.put (by decide) HG.out HT.out
  have hc : ChgR g v w (w1.setCell ⟨g, 2, none⟩ (.slice A1 (s.out.length + 1) cap1)) :=
    (Chg.of_grown (S := fun b => b = g ∨ some b = v.ownBlock) HG.out (fun j hj _ => .inr hj.symm)).setCell (fun _ => .inl rfl) _
  have ho := HO.out
  rw [List.length_append, List.length_singleton] at hp ho
  exact ⟨⟨_, rfl⟩, _, hp, hc, ho⟩
end
end Go.Proofs.YtldcplgfkcionaaDoor
