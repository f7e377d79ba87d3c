/- Actions, one behind the other. -/
import Derived.Test.YtldcplgfkcionaaDoorActone
set_option linter.unusedVariables false
set_option linter.unusedSimpArgs false
namespace Go.Proofs.YtldcplgfkcionaaDoor
open Go.RowKit Go.Proofs.YtldcplgfkcionaaDoorW.PrintWords
open PX (T V)
theorem nil_none (w : World) (n cap : Nat) : (binOp .eql 52 (.slice none n cap) (.slice none 0 0)).run Tryd.prog w = .ok (.bool true) w := by kernel_rfl
theorem nil_some (w : World) (ad : Addr) (n cap : Nat) : (binOp .eql 52 (.slice (some ad) n cap) (.slice none 0 0)).run Tryd.prog w = .ok (.bool false) w := by kernel_rfl
set_option maxHeartbeats 4000000 in
set_option maxRecDepth 100000 in
theorem clone_any (E : Option Addr) (cap : Nat) (env : List Int) (w : World) (hc : env.length ≤ cap) (hC : NumsC w E env.length env) (hl : env.length ≤ 1000000) :
    Calls Tryd.prog 60 #[.slice E env.length cap] w fun e w' => ∃ ve, e = .returned ve ∧ EnvR w' w.heap.size ve env ∧ Below w.heap.size w w' := by
  have HC := Lib.hid hC
  have z1 := nil_none
  have z2 := nil_some
  cases E with
  | none =>
    obtain rfl : env = [] := by
      cases env with
      | nil => rfl
      | cons a l => obtain ⟨ad, h, _⟩ := hC.2.2 (by simp); cases h
    clear hC
    go_enter Tryd.func60, Tryd.ntmps60
    go_wp2_with fail
    go_ret
    exact ⟨_, rfl, Kd.R_nil _ _ _ _ _, Below.refl _ _⟩
  | some ad =>
    clear hC
    go_enter Tryd.func60, Tryd.ntmps60
    go_wp2_with (at_builtin; refine Kd.R_append_rows (Kd.int .i64) (Rr := (Kd.int .i64).K w) (w0 := w) w.heap.size rfl (.tmp 5) (.tmp 6) 52 2 (.int .i64 0) 8 rfl Tryd.underlying52 (by kernel_rfl) rfl (by decide) (by omega) (.slice (some ⟨w.heap.size, 0, none⟩) 0 0) [] env (some ad) env.length cap (fun _ => True) (fun _ => False) rfl rfl ?aA ?aB (fun _ _ h => h) (fun _ h => h.elim) (fun _ _ => trivial) ?aC ?aD ?aE ?_)
    case aA => exact Kd.R_of_own (enc := Value.int .i64) (h1 := fun _ => rfl) (own_lit_of (enc := Value.int .i64) w w.heap.size 2 [] (Nat.le_refl _) (by simp)) (fun _ _ => trivial)
    case aB => exact Kd.C_alloc HC.out _
    case aC => exact (Below.refl _ w).alloc (Nat.le_refl _) _
    case aD => simp
    case aE => simp; omega
    intro v1 w1 h1 h2 h3 h4
    go_wp2_with fail
    go_ret
    exact ⟨_, rfl, h1, h2⟩
theorem one_len (s : Ds) (a : Ac) : (oneA s a).1.out.length ≤ s.out.length + 1 ∧ (oneA s a).1.inn.length ≤ s.inn.length + 1 := by
  unfold oneA
  repeat' split
  all_goals simp
theorem acts_at {w : World} {A : Option Addr} {l : List Ac} (h : ActsC w A l.length l) (q : Nat) (hq : q < l.length) : ∃ ad, A = some ad ∧ w.cell? (ad.add (q * 4)) = some (.int .i64 l[q].f0) ∧ w.cell? ⟨(ad.add (q * 4)).block, (ad.add (q * 4)).off + 1, none⟩ = some (.int .i64 l[q].f1) ∧ w.cell? ⟨(ad.add (q * 4)).block, (ad.add (q * 4)).off + 2, none⟩ = some (.int .i64 l[q].f2) ∧ w.cell? ⟨(ad.add (q * 4)).block, (ad.add (q * 4)).off + 3, none⟩ = some (.string l[q].f3) := by
  obtain ⟨ad, h1, h2⟩ := PAll.at_T105 h (q : Int) (by omega) (by omega)
  have hr : PAll.rd_T105 l (q : Int) = l[q] := by simp [PAll.rd_T105, List.getD_eq_getElem?_getD, List.getElem?_eq_getElem hq]
  rw [hr, Int.toNat_natCast] at h2
  exact ⟨ad, h1, h2⟩
set_option maxHeartbeats 16000000 in
set_option maxRecDepth 100000 in
theorem do_any (A : Option Addr) (c : Nat) (l : List Ac) (E : Option Addr) (cap : Nat) (env : List Int) (w : World) (hw : Laid w) (hA : ActsC w A l.length l) (hcA : l.length ≤ c) (hC : NumsC w E env.length env) (hc : env.length ≤ cap) (hl : l.length ≤ 1000) (hle : env.length ≤ 1000000) (ht : ∀ a ∈ l, a.f3.size ≤ 281474976710656) :
    Calls Tryd.prog 37 #[.slice A l.length c, .slice E env.length cap] w fun e w' => ∃ ve vo vi, e = .returned (.tuple #[ve, vo, vi]) ∧ EnvR w' w.heap.size ve (doA ⟨env, [], []⟩ l).env ∧ OutR w' w.heap.size vo (doA ⟨env, [], []⟩ l).out ∧ InnR w' w.heap.size vi (doA ⟨env, [], []⟩ l).inn ∧ Below w.heap.size w w' := by
  have HA := Lib.hid hA
  have HT := Lib.hid ht
  clear hA ht
  go_enter Tryd.func37, Tryd.ntmps37
  go_wp2_with fail
  refine (clone_any E cap env w hc hC hle).mono ?_
  rintro e w1 ⟨ve, rfl, hv, hb1⟩
  have HD0 : Hid (Doer w1.heap.size w.heap.size (w1.alloc (.cells #[ve, .slice none 0 0, .slice none 0 0] 109)) ⟨env, [], []⟩ ve (.slice none 0 0) (.slice none 0 0)) :=
    Lib.hid ⟨blk_new _ _, Kd.R_alloc hv _, Kd.R_nil _ _ _ _ _, Kd.R_nil _ _ _ _ _, hb1.size, by have := hb1.size; simp; omega⟩
  have HB0 := Lib.hid (hb1.alloc hb1.size (.cells #[ve, .slice none 0 0, .slice none 0 0] 109))
  obtain ⟨A0, c0, rfl⟩ := Kd.R_slice hv
  generalize hg : w1.heap.size = g at *
  have hf := hg
  clear hf hv hb1 hC
  have hL := fun (a : Ac) (s : Ds) (l : List Ac) => show doA s (a :: l) = if (oneA s a).2 then doA (oneA s a).1 l else { (oneA s a).1 with inn := (oneA s a).1.inn ++ [1001] } from rfl
  have HL := Lib.hid hL
  clear hL
  go_wp2_with fail
  go_loopw [16] (fun i wr => ∃ (q : Nat) (s : Ds) (ve vo vi : Value), i = .int .i64 q ∧ q ≤ l.length ∧ Hid (Doer g w.heap.size wr s ve vo vi) ∧ Hid (Below w.heap.size w wr) ∧ Hid (s.out.length ≤ q ∧ s.inn.length ≤ q) ∧ Hid (doA ⟨env, [], []⟩ l = doA s (l.drop q))) (fun i _ => l.length - (intOf i).toNat)
  case atStart => exact ⟨0, ⟨env, [], []⟩, _, _, _, rfl, by omega, HD0, HB0, Lib.hid ⟨by simp, by simp⟩, Lib.hid rfl⟩
  case round =>
    clear HD0 HB0
    obtain ⟨q, s, ve, vo, vi, rfl, hq, HD, HB, HS, HE⟩ := hrel
    obtain ⟨⟨c0, c1, c2⟩, f0, f1, f2⟩ := HD.out.cells
    by_cases hlt : q < l.length
    · obtain ⟨ad, rfl, a0, a1, a2, a3⟩ := acts_at (Kd.C_below HA.out HB.out) q hlt
      have hds : l.drop q = l[q] :: l.drop (q + 1) := List.drop_eq_getElem_cons hlt
      have HE2 := HE.out
      rw [hds, HL.out] at HE2
      have HT2 := Lib.hid (HT.out l[q] (List.getElem_mem hlt))
      have HLn := Lib.hid (one_len s l[q])
      have p1 : ((q : Int) < (l.length : Int)) = True := eq_true (by omega)
      clear hds HE
      generalize l[q] = a at *
      obtain ⟨k, n, m, t⟩ := a
      have HE := Lib.hid HE2
      clear HE2
      simp only at a0 a1 a2 a3
      go_wp2_with fail
      have HDa := Lib.hid (HD.out.below ((Below.refl _ wr).alloc (Nat.le_refl _) (.cells #[.int .i64 k, .int .i64 n, .int .i64 m, .string t] 105)))
      have HBa := Lib.hid (HB.out.alloc HD.out.le (.cells #[.int .i64 k, .int .i64 n, .int .i64 m, .string t] 105))
      refine (one_any (hw.below HBa.out) HDa.out k n m t HT2.out (by have := HS.out; omega) (by have := HS.out; omega)).mono ?_
      rintro e w3 ⟨rfl, hb3, ve', vo', vi', hD3⟩
      have HD3 := Lib.hid hD3
      have HB3 := Lib.hid (HBa.out.trans hb3)
      clear hb3 hD3 a0 a1 a2 a3 c0 c1 c2 f0 f1 f2
      generalize oneA s ⟨k, n, m, t⟩ = r at HE HLn HD3 ⊢
      obtain ⟨s', ok⟩ := r
      cases ok with
      | true =>
        go_wp2_with fail
        go_roundw
        case rel => exact ⟨q + 1, s', ve', vo', vi', by go_num, by omega, HD3, HB3, Lib.hid (by have h3 := HS.out; have h4 : s'.out.length ≤ s.out.length + 1 := HLn.out.1; have h5 : s'.inn.length ≤ s.inn.length + 1 := HLn.out.2; omega), HE⟩
        case measure => simp [intOf]; omega
      | false =>
        obtain ⟨A3, c3, rfl⟩ := Kd.R_slice HD3.out.inn
        obtain ⟨⟨c0, c1, c2⟩, f0, f1, f2⟩ := HD3.out.cells
        have hi3 : s'.inn.length < 1000000 := by have := HLn.out.2; have := HS.out; have h5 : s'.inn.length ≤ s.inn.length + 1 := HLn.out.2; omega
        go_wp2_with (at_builtin; refine inn_append rfl (.tmp 28) (.tmp 29) rfl w.heap.size _ s'.inn 1001 rfl _ rfl ?aN HD3.out.inn HD3.out.le hi3 ?_)
        case aN => rfl
        intro v1 w4 hT hb1 hg4
        have hb2 := HB3.out.trans hb1
        have hfin := HD3.out.putInn hg4 hT
        have hblk := (hg4.block g (lt_of_block HD3.out.blk) (Kd.R_ne HD3.out.inn HD3.out.blk (by decide))).trans HD3.out.blk
        have f2' : w4.frozen? ⟨g, 2, none⟩ = false := blk_free hblk 2
        have c2' : w4.cell? ⟨g, 2, none⟩ = some _ := blk_cell hblk 2
        have hb3 := hb2.setCell (p := ⟨g, 2, none⟩) HD3.out.lt v1
        obtain ⟨A1, cap1, rfl⟩ := Kd.R_slice hT
        rw [List.length_append, List.length_singleton] at hfin hb3
        have HF := Lib.hid hfin
        have HB4 := Lib.hid hb3
        clear hT hb1 hg4 hb2 hfin hblk hb3 c0 c1 c2 f0 f1 f2
        go_wp2_with fail
        generalize w4.setCell ⟨g, 2, none⟩ (.slice A1 (s'.inn.length + 1) cap1) = w5 at HF HB4 ⊢
        obtain ⟨⟨c0, c1, c2⟩, f0, f1, f2⟩ := HF.out.cells
        repeat (go_quiet (fail); try go_wp2)
        go_ret3
        have HE2 := HE.out
        rw [if_neg (by simp)] at HE2
        rw [HE2]
        exact ⟨_, _, _, rfl, Kd.R_drewN HF.out.env _, Kd.R_drewN HF.out.out _, Kd.R_drewN HF.out.inn _, below_drewN' HB4.out _⟩
    · obtain rfl : q = l.length := by omega
      go_wp2_with fail
      repeat (go_quiet (fail); try go_wp2)
      go_ret3
      have HE2 := HE.out
      rw [List.drop_length] at HE2
      rw [show doA s [] = s from rfl] at HE2
      rw [HE2]
      exact ⟨_, _, _, rfl, Kd.R_drewN HD.out.env _, Kd.R_drewN HD.out.out _, Kd.R_drewN HD.out.inn _, below_drewN' HB.out _⟩
end Go.Proofs.YtldcplgfkcionaaDoor
