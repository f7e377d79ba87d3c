/- Texts of this claim, merged (Mfin, Ment, Mcl, Mbeg, Mit, Mhs, Mset, Mstp, Msz). -/
import Derived.Test.YtikilglbhnplaaaGreatDoorZMacroIdle19
import Derived.Test.YtikilglbhnplaaaGreatDoorZMacroIdle18
set_option linter.unusedVariables false
set_option linter.unusedSimpArgs false
set_option maxRecDepth 100000
set_option maxHeartbeats 64000000
section
namespace Go.Proofs.YtikilglbhnplaaaGreatDoor
open Go.RowKit Go.Proofs.YtikilglbhnplaaaGreatDoorW.PrintWords Go.Proofs.YtikilglbhnplaaaGreatDoorW.PrintLast
open PX (T V)
section
variable {wB : World} {g : Nat} {v : Int} {A B : Option Addr} {ca cb : Nat} {st : List Sta} {tr : List Tra} {w : World} {m : Ses}
theorem StR.appInn {vh ve vi vo vi' : Value} {l : List Int} {w8 : World} (h : StR wB g v A B ca cb st tr w m vh ve vi vo) (h8 : InnR w8 wB.heap.size vi' l) (hb : Below wB.heap.size w w8) (hg : w.grownBy w8 vi.ownBlock) :
  (w8.heap[wB.heap.size]? = some (stO g v A B ca cb st tr m.conf vh ve vi m.stat vo)) ∧ StR wB g v A B ca cb st tr (w8.setCell ⟨wB.heap.size, 7, none⟩ vi') { m with inn := l } vh ve vi' vo := by
 have b8 := (hg.block _ (lt_of_block h.blk) (Kd.R_ne h.inn h.blk (by decide))).trans h.blk
 have hist8 := Kd.R_over h.hist h.inn (by decide) hg
 have env8 := Kd.R_over h.env h.inn (by decide) hg
 have out8 := Kd.R_over h.out h.inn (out_q (by decide)) hg
 obtain ⟨r1, r2, r3, r4⟩ := StR.rows_set (m := { m with inn := l }) hist8 env8 h8 out8 b8 7 vi'
 exact ⟨b8, (h.low.trans hb).setCell (p := ⟨wB.heap.size, 7, none⟩) (Nat.le_refl _) _, blk_set b8 7 vi', r1, r2, r3, r4, h.conf⟩
theorem mfin_any (hC : StC wB g v A B ca cb st tr) (h : StM wB g v A B ca cb st tr w m) (s : Int) (h0 : 0 ≤ s) (h1 : s < st.length) (hk : (rdS st s).f0 = 4) (hi : m.inn.length ≤ 500000) :
  Calls Tryz.prog 96 #[StP wB, .int .i64 s] w fun e w' => e = .returned (.tuple #[]) ∧ StM wB g v A B ca cb st tr w' (finM st m s) ∧ Kp w w' := by
 obtain ⟨⟨_, _, hn1, hn, hn2⟩, _⟩ := chk_none hC.good
 have HAh := Lib.hid (good_ahead hC.good)
 have hs0 : s ≠ 0 := fun e => by
  subst e
  have := (state_par ((chk_none hC.good).2.1 0 (Int.le_refl _) (by omega))).1 rfl
  rw [hk] at this
  omega
 obtain ⟨vh, ve, vi, vo, h⟩ := h
 have HR := Lib.hid h
 obtain ⟨⟨_, y2, _, _, _, _, y7, _, _⟩, _, _, f7, f8, _⟩ := h.cells
 obtain ⟨ad, A2, c2, A3, c3, A4, c4, hA, _, q1, _⟩ := PAll.at_T66 (Kd.C_below hC.M.cs h.low) s h0 h1
 have hpar := ahead_at HAh.out (s := s) ⟨h0, h1⟩
 have hp0 := hpar.2 (by omega)
 have hp1 := hpar.1
 have HF : Hid (finM st m s = if (rdS st s).f1 = 0 then { m with stat := 2 } else if kindP st (rdS st (rdS st s).f1).f1 = 3 ∧ doneF st m.conf (st.length + 1) (rdS st (rdS st s).f1).f1 = true then { m with inn := m.inn ++ [2000 + (rdS st s).f1] ++ [2000 + (rdS st (rdS st s).f1).f1] } else { m with inn := m.inn ++ [2000 + (rdS st s).f1] }) := Lib.hid rfl
 have p0 : (0 ≤ s) = True := eq_true h0
 have p1 : (s < (st.length : Int)) = True := eq_true h1
 change w.cell? _ = some (Value.int .i64 (rdS st s).f1) at q1
 generalize (rdS st s).f1 = p at *
 generalize finM st m s = G at HF ⊢
 have HR0 := Lib.hid (And.intro hp0 hp1)
 subst hA
 have hs1 := h.low.size
 clear h hpar hk hs0
 go_enter Tryz.func96, Tryz.ntmps96
 by_cases c : p = 0
 ·subst c
  have HG : Hid (G = { m with stat := 2 }) := Lib.hid (by rw [HF.out, if_pos rfl])
  clear HF
  have HR2 := Lib.hid (HR.out.putStat 2)
  clear y7 f7
  go_wp2_with fail
  refine bodyPost_ret (results_none rfl _ _ _) rfl ?_
  exact ⟨rfl, by rw [HG.out]; exact ⟨_, _, _, _, HR2.out⟩, Kp.set HR.out.blk (by decide) 8 (.int .i64 2)⟩
 have d1 : (p == 0) = false := by rw [beq_eq_false_iff_ne]; exact c
 have hf := HF.out
 rw [if_neg c] at hf
 have HF2 := Lib.hid hf
 have HC := Lib.hid c
 clear hf HF c
 go_wp2_with (at_builtin; refine inn_append rfl (.tmp 26) (.tmp 29) rfl wB.heap.size _ m.inn (2000 + p) rfl _ rfl rfl HR.out.inn hs1 (by omega) ?_)
 intro v8 w8 h8 hb8 hg8
 obtain ⟨l1, hl1⟩ : ∃ l1 : List Int, l1 = m.inn ++ [2000 + p] := ⟨_, rfl⟩
 have hll : l1.length ≤ 500001 := by rw [hl1]; simp; omega
 rw [← hl1] at h8
 have Hl1 := Lib.hid hl1
 obtain ⟨A8, c8, rfl⟩ := Kd.R_slice h8
 obtain ⟨b8, hR8⟩ := HR.out.appInn h8 hb8 hg8
 have HR8 := Lib.hid hR8
 have HK8 := Lib.hid ((Kp.grown HR.out.inn hg8 (by decide)).trans (Kp.set b8 (by decide) 7 (.slice A8 l1.length c8)))
 have c7 := blk_cell b8 7
 have f7' := blk_free b8 7
 obtain ⟨⟨x0, x2, _⟩, _⟩ := hR8.cells
 have hX0 := Lib.hid x0
 have hX2 := Lib.hid x2
 obtain ⟨adp, B2, e2, B3, e3, B4, e4, hA2, _, r1, _⟩ := PAll.at_T66 (Kd.C_below hC.M.cs hR8.low) p hp0 (by omega)
 obtain rfl := Option.some.inj hA2
 have hpar := ahead_at HAh.out (s := p) ⟨hp0, by omega⟩
 have hq0 := hpar.2 (by have := HC.out; omega)
 have hq1 := hpar.1
 have p2 : (0 ≤ p) = True := eq_true hp0
 have p3 : (p < (st.length : Int)) = True := eq_true (by omega)
 change World.cell? _ _ = some (Value.int .i64 (rdS st p).f1) at r1
 generalize (rdS st p).f1 = q at *
 have b80 := blk_cell b8 0
 have b82 := blk_cell b8 2
 clear hl1 h8 hb8 hg8 b8 hR8 y7 f7 f8 x0 x2 hA2 hpar y2 q1
 go_wp2_with fail
 refine (tkind_any (hC.T.below HR8.out.low) q).mono ?_
 rintro e w9 ⟨rfl, hb9⟩
 have HR9 := Lib.hid (HR8.out.below hb9)
 have HK9 := Lib.hid (HK8.out.trans (Kp.below hb9))
 clear hb9 c7 f7' r1 b80 b82
 by_cases k3 : kindP st q = 3
 ·have d2 : (kindP st q == 3) = true := by rw [k3]; rfl
  have HK3 := Lib.hid k3
  clear k3
  go_wp2_with fail
  refine (mdone_any (m := { m with inn := l1 }) hC (st.length + 1) q w9 ⟨_, _, _, _, HR9.out⟩ hq0 (by omega) (by omega)).mono ?_
  rintro e w10 ⟨he, hb10⟩
  change e = .returned (.bool (doneF st m.conf (st.length + 1) q)) at he
  subst he
  have HR10 := Lib.hid (HR9.out.below hb10)
  have HK10 := Lib.hid (HK9.out.trans (Kp.below hb10))
  have hs10 := HR10.out.low.size
  clear hb10
  cases hdn : doneF st m.conf (st.length + 1) q with
  | true =>
   have HG : Hid (G = { m with inn := m.inn ++ [2000 + p] ++ [2000 + q] }) := Lib.hid (by rw [HF2.out, if_pos ⟨HK3.out, hdn⟩])
   obtain ⟨⟨_, _, _, _, _, _, z7, _⟩, _⟩ := HR10.out.cells
   clear hdn
   go_wp2_with (at_builtin; refine inn_append rfl (.tmp 60) (.tmp 63) rfl wB.heap.size _ l1 (2000 + q) rfl _ rfl rfl HR10.out.inn hs10 (by omega) ?_)
   intro v11 w11 h11 hb11 hg11
   obtain ⟨l2, hl2⟩ : ∃ l2 : List Int, l2 = l1 ++ [2000 + q] := ⟨_, rfl⟩
   rw [← hl2] at h11
   have Hl2 := Lib.hid hl2
   obtain ⟨A11, c11, rfl⟩ := Kd.R_slice h11
   obtain ⟨b11, hR11⟩ := HR10.out.appInn h11 hb11 hg11
   have HR11 := Lib.hid hR11
   have HK11 := Lib.hid ((HK10.out.trans (Kp.grown HR10.out.inn hg11 (by decide))).trans (Kp.set b11 (by decide) 7 (.slice A11 l2.length c11)))
   have c7 := blk_cell b11 7
   have f7' := blk_free b11 7
   clear hl2 h11 hb11 hg11 b11 hR11
   go_wp2_with fail
   go_end0
   exact ⟨rfl, by rw [HG.out, ← Hl1.out, ← Hl2.out]; exact ⟨_, _, _, _, HR11.out⟩, HK11.out⟩
  | false =>
   have HG : Hid (G = { m with inn := m.inn ++ [2000 + p] }) := Lib.hid (by rw [HF2.out, if_neg (by rw [hdn]; simp)])
   clear hdn
   go_wp2_with fail
   go_end0
   exact ⟨rfl, by rw [HG.out, ← Hl1.out]; exact ⟨_, _, _, _, HR10.out⟩, HK10.out⟩
 ·have d2 : (kindP st q == 3) = false := by rw [beq_eq_false_iff_ne]; exact k3
  have HG : Hid (G = { m with inn := m.inn ++ [2000 + p] }) := Lib.hid (by rw [HF2.out, if_neg (fun h => k3 h.1)])
  clear k3
  go_wp2_with fail
  go_end0
  exact ⟨rfl, by rw [HG.out, ← Hl1.out]; exact ⟨_, _, _, _, HR9.out⟩, HK9.out⟩
end
end Go.Proofs.YtikilglbhnplaaaGreatDoor
end
section
namespace Go.Proofs.YtikilglbhnplaaaGreatDoor
open Go.RowKit Go.Proofs.YtikilglbhnplaaaGreatDoorW.PrintWords Go.Proofs.YtikilglbhnplaaaGreatDoorW.PrintLast
open PX (T V)
theorem fresh_at {set conf q : Nat} (hs : set < 4294967296) (hc : conf < 4294967296) (hq : q < 32) : (bits .and .u32 (((set &&& (4294967295 - conf) : Nat) : Int) / 2 ^ q) 1 == 0) = !(set.testBit q && !conf.testBit q) := by
 have hx : set &&& (4294967295 - conf) < 4294967296 := Nat.lt_of_le_of_lt Nat.and_le_left hs
 have hb : (set &&& (4294967295 - conf)).testBit q = (set.testBit q && !conf.testBit q) := by
  rw [Nat.testBit_and, show 4294967295 - conf = 2 ^ 32 - (conf + 1) by omega, Nat.testBit_two_pow_sub_succ (by omega)]
  simp [hq]
 rw [bit_at hx, hb]
 cases (set.testBit q && !conf.testBit q) <;> rfl
theorem Szs.fin {st : List Sta} {m : Ses} {I O : Nat} (h : Szs m I O) (s : Int) : Szs (finM st m s) (I + 2) O ∧ (finM st m s).hist = m.hist ∧ (finM st m s).conf = m.conf := by
 obtain ⟨h1, h2, h3⟩ := h
 unfold finM
 repeat' split
 all_goals
  refine ⟨⟨?_, ?_, ?_⟩, rfl, rfl⟩
  all_goals (try simp only [List.length_append, List.length_singleton])
  all_goals omega
section
variable {wB : World} {g : Nat} {v : Int} {A B : Option Addr} {ca cb : Nat} {st : List Sta} {tr : List Tra} {w : World} {m : Ses}
theorem ment_any (hC : StC wB g v A B ca cb st tr) (h : StM wB g v A B ca cb st tr w m) (set : Nat) (hset : set < 4294967296) (hs : Szs m 400000 400000) :
  Calls Tryz.prog 69 #[StP wB, .int .u32 (set : Nat)] w fun e w' => e = .returned (.tuple #[]) ∧ StM wB g v A B ca cb st tr w' (entM st set m) ∧ Kp w w' := by
 obtain ⟨⟨_, _, hn1, hn, hn2⟩, _⟩ := chk_none hC.good
 have HFl := Lib.hid (few_l hC.few).1
 have HFa := Lib.hid (few_a hC.few).1
 have H1 := Lib.hid h
 obtain ⟨_, _, _, _, h⟩ := h
 obtain ⟨⟨_, y2, _⟩, _⟩ := h.cells
 have HG : Hid (∀ q, entN st set m (q + 1) = entS st set (entN st set m q) q) := Lib.hid (fun _ => rfl)
 have HE : Hid (entN st set m st.length = entM st set m) := Lib.hid rfl
 have HS := Lib.hid hs
 clear h hs
 go_enter Tryz.func69, Tryz.ntmps69
 go_wp2_with fail
 clear y2
 go_loopw [12] (fun i wr => ∃ (q : Nat) (m2 : Ses), i = .int .i64 q ∧ q ≤ st.length ∧ Hid (entN st set m q = m2) ∧ Hid (StM wB g v A B ca cb st tr wr m2) ∧ Hid (Szs m2 (400000 + 23 * q) (400000 + 20 * q)) ∧ Hid (Kp w wr)) (fun i _ => st.length - (intOf i).toNat)
 case atStart => exact ⟨0, m, rfl, Nat.zero_le _, Lib.hid rfl, H1, HS, Lib.hid (Kp.refl w)⟩
 case round =>
  clear H1 HS
  obtain ⟨q, m2, rfl, hq, HM2, HM, HS, HKp⟩ := hrel
  obtain ⟨wo, rfl⟩ : ∃ wo : World, wo = wr := ⟨_, rfl⟩
  by_cases hlt : q < st.length
  ·have p1 : ((q : Int) < (st.length : Int)) = True := eq_true (by omega)
   have hq32 : q ≤ 32 := by omega
   obtain ⟨vh, ve, vi, vo, hM⟩ := HM.out
   have HR := Lib.hid hM
   obtain ⟨ad, A2, c2, A3, c3, A4, c4, rfl, q0, q1, q2, q3, q4, l2, g2, l3, g3, l4, g4⟩ := PAll.at_T66 hC.M.cs (q : Int) (by omega) (by omega)
   rw [Int.toNat_natCast] at q0 q1 q2 q3 q4
   replace q0 := (HR.out.low.cell (cell_lt q0)).trans q0
   replace q1 := (HR.out.low.cell (cell_lt q1)).trans q1
   replace q2 := (HR.out.low.cell (cell_lt q2)).trans q2
   replace q3 := (HR.out.low.cell (cell_lt q3)).trans q3
   replace q4 := (HR.out.low.cell (cell_lt q4)).trans q4
   have HAl := Lib.hid (HR.out.below ((Below.refl _ wo).alloc (Nat.le_refl _) (.cells #[.int .i64 (PAll.rd_T66 st (q : Int)).f0, .int .i64 (PAll.rd_T66 st (q : Int)).f1, .slice A2 (PAll.rd_T66 st (q : Int)).f2.length c2, .slice A3 (PAll.rd_T66 st (q : Int)).f3.length c3, .slice A4 (PAll.rd_T66 st (q : Int)).f4.length c4] 66)))
   have HKA := Lib.hid (HKp.out.trans (Kp.below ((Below.refl _ wo).alloc (Nat.le_refl _) (.cells #[.int .i64 (PAll.rd_T66 st (q : Int)).f0, .int .i64 (PAll.rd_T66 st (q : Int)).f1, .slice A2 (PAll.rd_T66 st (q : Int)).f2.length c2, .slice A3 (PAll.rd_T66 st (q : Int)).f3.length c3, .slice A4 (PAll.rd_T66 st (q : Int)).f4.length c4] 66))))
   obtain ⟨⟨_, _, _, z4, _⟩, z5, _⟩ := HAl.out.cells
   have HZb := Lib.hid (blk_new wo (.cells #[.int .i64 (PAll.rd_T66 st (q : Int)).f0, .int .i64 (PAll.rd_T66 st (q : Int)).f1, .slice A2 (PAll.rd_T66 st (q : Int)).f2.length c2, .slice A3 (PAll.rd_T66 st (q : Int)).f3.length c3, .slice A4 (PAll.rd_T66 st (q : Int)).f4.length c4] 66))
   have hcf := HAl.out.conf
   have e1 : bits BinOp.andNot IntKind.u32 (set : Int) (m2.conf : Int) = ((set &&& (4294967295 - m2.conf) : Nat) : Int) := u32_andNot_nat _ _ hset hcf
   have hfr := fresh_at (q := q) hset hcf (by omega)
   have HSt : Hid (entN st set m (q + 1) = if set.testBit q = true ∧ m2.conf.testBit q = false then (if (rdS st (q : Int)).f0 = 4 then finM st (entA st m2 q) q else entA st m2 q) else m2) := Lib.hid (by rw [HG.out, HM2.out]; rfl)
   clear hM l2 g2 l4 g4
   by_cases hb : set.testBit q = true ∧ m2.conf.testBit q = false
   rotate_left
   ·have d1 : (bits BinOp.and IntKind.u32 (((set &&& (4294967295 - m2.conf) : Nat) : Int) / 2 ^ q) 1 == 0) = true := by
     rw [hfr]
     by_cases x1 : set.testBit q = true
     ·have x2 : m2.conf.testBit q = true := by
       cases e : m2.conf.testBit q
       ·exact absurd ⟨x1, e⟩ hb
       ·rfl
      rw [x1, x2]; rfl
     ·rw [Bool.eq_false_iff.2 x1]; rfl
    have HE3 : Hid (entN st set m (q + 1) = m2) := Lib.hid (by rw [HSt.out, if_neg hb])
    have HM3 : Hid (StM wB g v (some ad) B ca cb st tr (wo.alloc (.cells #[.int .i64 (PAll.rd_T66 st (q : Int)).f0, .int .i64 (PAll.rd_T66 st (q : Int)).f1, .slice A2 (PAll.rd_T66 st (q : Int)).f2.length c2, .slice A3 (PAll.rd_T66 st (q : Int)).f3.length c3, .slice A4 (PAll.rd_T66 st (q : Int)).f4.length c4] 66)) m2) := Lib.hid ⟨_, _, _, _, HAl.out⟩
    have HS3 : Hid (Szs m2 (400000 + 23 * (q + 1)) (400000 + 20 * (q + 1))) := Lib.hid ⟨by have := HS.out.1; omega, by have := HS.out.2.1; omega, HS.out.2.2⟩
    clear hfr hb hcf
    go_wp2_with (simp only [e1])
    go_roundw
    case rel => exact ⟨q + 1, m2, by go_num, by omega, HE3, HM3, HS3, HKA⟩
    case measure => first | (simp [intOf]; done) | (simp [intOf]; omega)
   have d1 : (bits BinOp.and IntKind.u32 (((set &&& (4294967295 - m2.conf) : Nat) : Int) / 2 ^ q) 1 == 0) = false := by rw [hfr, hb.1, hb.2]; rfl
   have hst := HSt.out
   rw [if_pos hb] at hst
   have HSt2 := Lib.hid hst
   have hor := or_at (q := q) hcf (by omega)
   have HOr := Lib.hid hor.2
   have e2 := hor.1
   rw [Nat.min_eq_left hq32] at e2
   have hmem := rdS_in (st := st) (q := q) hlt
   have HL3 := Lib.hid (HFl.out _ hmem).1
   have HZ3 := Lib.hid (HFa.out _ hmem).1
   have HG3 := Lib.hid g3
   have HLc := Lib.hid l3
   clear hst HSt hb hfr hor hmem g3 l3 hcf
   go_wp2_with (simp only [e1])
   refine start_ (n := 12) (S := fun w' => w'.cell? ⟨wB.heap.size, 4, none⟩ = some (.int .u32 (m2.conf : Nat))) (ds := [11]) (tf12 0) (by kernel_rfl) rfl (by kernel_rfl) z4 (fun hHeld => ?_)
   iterate 4
    refine pxt_ (v := ?_) (a' := ?_) rfl rfl (by kernel_rfl) (fun _ _ _ h => h) (Or.inl ⟨by rfl, ?_⟩) ?_ ?_
    rotate_left
    ·intro w'
     go_simp
     first | done | with_reducible rfl
    rotate_left
    ·simp only [Act.put, List.setIfInBounds_toArray, List.set_cons_zero, List.set_cons_succ, i64_w, i32_w]
     first | done | rfl
   refine nxt_ (v := ?_) (a' := ?_) rfl rfl (by kernel_rfl) (fun _ _ _ h => h) (Or.inl ⟨by rfl, ?_⟩) hHeld ?_ ?_
   rotate_left
   ·rintro w' s0
    go_simp
    first | done | with_reducible rfl
   rotate_left
   ·simp only [Act.put, List.setIfInBounds_toArray, List.set_cons_zero, List.set_cons_succ, i64_w, i32_w]
    first | done | rfl
   iterate 2
    refine pxt_ (v := ?_) (a' := ?_) rfl rfl (by kernel_rfl) (fun _ _ _ h => h) (Or.inl ⟨by rfl, ?_⟩) ?_ ?_
    rotate_left
    ·intro w'
     go_simp
     first | done | with_reducible rfl
    rotate_left
    ·simp only [Act.put, List.setIfInBounds_toArray, List.set_cons_zero, List.set_cons_succ, i64_w, i32_w]
     first | done | rfl
   refine pure_ (i := 7) (N := some 35) (v := ?_) (a' := ?_) (tf12 8) rfl rfl (by kernel_rfl) (fun _ _ _ h => h) (Or.inl ⟨by rfl, ?_⟩) ?_ ?_
   rotate_left
   ·intro w'
    go_simp
    first | done | with_reducible rfl | (simp only [e2]; first | done | with_reducible rfl)
   rotate_left
   ·simp only [Act.put, List.setIfInBounds_toArray, List.set_cons_zero, List.set_cons_succ, i64_w, i32_w]
    rfl
   iterate 3
    refine pxt_ (v := ?_) (a' := ?_) rfl rfl (by kernel_rfl) (fun _ _ _ h => h) (Or.inl ⟨by rfl, ?_⟩) ?_ ?_
    rotate_left
    ·intro w'
     go_simp
     first | done | with_reducible rfl
    rotate_left
    ·simp only [Act.put, List.setIfInBounds_toArray, List.set_cons_zero, List.set_cons_succ, i64_w, i32_w]
     first | done | rfl
   refine last_ (i := 11) (N := none) (tf12 12) rfl rfl (by kernel_rfl) (by decide) (fun K hK => ?_)
   refine skip_ (w1 := ?_) (by rfl) rfl ?_ ?_
   rotate_left
   ·go_simp
    rfl
   refine hK.out _ _ ?_
   clear hK K
   refine done_ (by kernel_rfl) ?_
   have HR5 := Lib.hid ((HAl.out.putConf (m2.conf ||| 2 ^ q) HOr.out).below (below_drew (Below.refl _ _)))
   have hkp5 := (Kp.set HAl.out.blk (by decide) 4 (.int .u32 ((m2.conf ||| 2 ^ q : Nat) : Int))).trans (Kp.below (below_drew (Below.refl _ _)))
   have HZ5 := Lib.hid (hkp5 _ _ _ (Or.inl rfl) HZb.out)
   have HK5 := Lib.hid (HKA.out.trans hkp5)
   clear hkp5 z4 z5 q0 q1 q2 q3 q4 HAl HKA HZb d1 e1 e2
   generalize ((wo.alloc (.cells #[.int .i64 (PAll.rd_T66 st (q : Int)).f0, .int .i64 (PAll.rd_T66 st (q : Int)).f1, .slice A2 (PAll.rd_T66 st (q : Int)).f2.length c2, .slice A3 (PAll.rd_T66 st (q : Int)).f3.length c3, .slice A4 (PAll.rd_T66 st (q : Int)).f4.length c4] 66)).setCell ⟨wB.heap.size, 4, none⟩ (.int .u32 ((m2.conf ||| 2 ^ q : Nat) : Int))).drew = w5 at HR5 HK5 HZ5 ⊢
   have y3 : w5.cell? ⟨wo.heap.size, 3, none⟩ = some (.slice A3 (PAll.rd_T66 st (q : Int)).f3.length c3) := blk_cell HZ5.out 3
   have HEA : Hid (entA st m2 q = actsM { m2 with conf := m2.conf ||| 2 ^ q } (PAll.rd_T66 st (q : Int)).f3) := Lib.hid rfl
   go_wp2_with fail
   refine (macts_any hC ⟨_, _, _, _, HR5.out⟩ A3 c3 _ HG3.out HLc.out (by have := HL3.out; show (rdS st (q : Int)).f3.length ≤ 1000; omega) HZ3.out (by have := HS.out.1; show m2.inn.length ≤ 500000; omega) (by have := HS.out.2.1; show m2.out.length ≤ 500000; omega) HS.out.2.2).mono ?_
   rintro e w6 ⟨rfl, h6, k6⟩
   rw [← HEA.out] at h6
   have HM6 := Lib.hid h6
   have HS6 : Hid (Szs (entA st m2 q) (400000 + 23 * q + 21) (400000 + 20 * q + 20)) := Lib.hid (by
    rw [HEA.out]
    exact Szs.acts (show Szs { m2 with conf := m2.conf ||| 2 ^ q } _ _ from HS.out) _ HL3.out)
   have hz6 := k6 _ _ _ (Or.inl rfl) HZ5.out
   have y0 : w6.cell? ⟨wo.heap.size, 0, none⟩ = some (.int .i64 (PAll.rd_T66 st (q : Int)).f0) := blk_cell hz6 0
   have HK6 := Lib.hid (HK5.out.trans k6)
   clear h6 k6 hz6 y3
   by_cases k4 : (PAll.rd_T66 st (q : Int)).f0 = 4
   ·have d2 : ((PAll.rd_T66 st (q : Int)).f0 == 4) = true := by simp; exact k4
    have HE3 : Hid (entN st set m (q + 1) = finM st (entA st m2 q) q) := Lib.hid (by rw [HSt2.out]; exact if_pos k4)
    have HK4 := Lib.hid k4
    clear k4
    go_wp2_with fail
    refine (mfin_any hC HM6.out (q : Int) (by omega) (by omega) HK4.out (by have := HS6.out.1; omega)).mono ?_
    rintro e w7 ⟨rfl, h7, k7⟩
    have HM7 := Lib.hid h7
    have HK7 := Lib.hid (HK6.out.trans k7)
    have HS7 : Hid (Szs (finM st (entA st m2 q) q) (400000 + 23 * (q + 1)) (400000 + 20 * (q + 1))) := Lib.hid (by
     obtain ⟨a, b, c⟩ := (HS6.out.fin (st := st) (q : Int)).1
     exact ⟨by omega, by omega, c⟩)
    clear h7 k7 y0
    go_wp2_with fail
    go_roundw
    case rel => exact ⟨q + 1, _, by go_num, by omega, HE3, HM7, HS7, HK7⟩
    case measure => first | (simp [intOf]; done) | (simp [intOf]; omega)
   ·have d2 : ((PAll.rd_T66 st (q : Int)).f0 == 4) = false := by simp; exact k4
    have HE3 : Hid (entN st set m (q + 1) = entA st m2 q) := Lib.hid (by rw [HSt2.out]; exact if_neg k4)
    have HS7 : Hid (Szs (entA st m2 q) (400000 + 23 * (q + 1)) (400000 + 20 * (q + 1))) := Lib.hid (by
     obtain ⟨a, b, c⟩ := HS6.out
     exact ⟨by omega, by omega, c⟩)
    clear k4
    go_wp2_with fail
    go_roundw
    case rel => exact ⟨q + 1, _, by go_num, by omega, HE3, HM6, HS7, HK6⟩
    case measure => first | (simp [intOf]; done) | (simp [intOf]; omega)
  ·obtain rfl : q = st.length := by omega
   have p1 : ((st.length : Int) < (st.length : Int)) = False := eq_false (by omega)
   have HG2 : Hid (m2 = entM st set m) := Lib.hid (by rw [← HM2.out]; exact HE.out)
   go_wp2_with fail
   go_end0
   exact ⟨rfl, by rw [← HG2.out]; exact HM.out, HKp.out⟩
end
end Go.Proofs.YtikilglbhnplaaaGreatDoor
end
section
namespace Go.Proofs.YtikilglbhnplaaaGreatDoor
open Go.RowKit Go.Proofs.YtikilglbhnplaaaGreatDoorW.PrintWords
open PX (T V)
theorem nil_none32 (w : World) (n cap : Nat) : (binOp .eql 43 (.slice none n cap) (.slice none 0 0)).run Tryz.prog w = .ok (.bool true) w := by kernel_rfl
theorem nil_some32 (w : World) (ad : Addr) (n cap : Nat) : (binOp .eql 43 (.slice (some ad) n cap) (.slice none 0 0)).run Tryz.prog w = .ok (.bool false) w := by kernel_rfl
theorem clone32 (E : Option Addr) (cap n : Nat) (l : List Int) (hn : l.length = n) (w : World) (hc : n ≤ cap) (hC : (Kd.int .u32).C w E n l) (hl : n ≤ 100000) :
  Calls Tryz.prog 73 #[.slice E n cap] w fun e w' => ∃ u, e = .returned u ∧ (Kd.int .u32).R 38 w' w.heap.size (fun _ => True) u l ∧ Below w.heap.size w w' := by
 have z1 := nil_none32
 have z2 := nil_some32
 skip
 cases E with
 | none =>
  obtain rfl : n = 0 := by
   rcases Nat.eq_zero_or_pos n with h | h
   ·exact h
   ·obtain ⟨ad, h, _⟩ := hC.2.2 h; cases h
  obtain rfl : l = [] := List.eq_nil_of_length_eq_zero hn
  clear hC
  go_enter Tryz.func73, Tryz.ntmps73
  go_wp2_with fail
  go_ret
  exact ⟨_, rfl, Kd.R_nil _ _ _ _ _, Below.refl _ _⟩
 | some ad =>
  have HC := Lib.hid hC
  clear hC
  go_enter Tryz.func73, Tryz.ntmps73
  go_wp2_with (at_builtin; refine Kd.R_append_rows (Kd.int .u32) (Rr := ((Kd.int .u32)).K w) (w0 := w) w.heap.size rfl (.tmp 5) (.tmp 6) 43 38 (.int .u32 0) 4 rfl Tryz.underlying43 (by kernel_rfl) rfl (by decide) (by omega) (.slice (some ⟨w.heap.size, 0, none⟩) 0 0) [] l (some ad) n cap (fun _ => True) (fun _ => False) rfl rfl ?aA ?aB (fun _ _ h => h) (fun _ h => h.elim) (fun _ _ => trivial) ?aC ?aD ?aE ?_)
  case aA => exact ⟨fun _ _ => trivial, [], by simpa using World.ownsRow_lit (base := w.heap.size) (e := 38) (size := ((Kd.int .u32)).sz) w #[] 0 (Nat.le_refl _) (by simp) (by simp), ⟨by simp, fun j p hj => by simp at hj⟩⟩
  case aB => exact Kd.C_alloc HC.out _
  case aC => exact (Below.refl _ w).alloc (Nat.le_refl _) _
  case aD => simp
  case aE => simp; omega
  intro v1 w1 h1 h2 h3 h4
  go_wp2_with fail
  go_ret
  exact ⟨_, rfl, h1, h2⟩
section
variable {ops : Array Oper} {rest : List Oper} {Q : Exit → Act → World → Prop} {a : Act} {o : Oper}
theorem his_append {W : World} (hgd : o.guard = none) (s x : Operand)
  (ho : o.op = .call { callee := .builtin .append, args := #[s, x], argTypes := #[43, 43] })
  (B : Nat) (v : Value) (xs : List Int) (p : Int) (hs : a.eval s = v) (N : Nat) (hx : a.eval x = .slice (some ⟨N, 0, none⟩) 1 1) (hN : N = W.heap.size)
  (HO : HisR W B v xs) (hB : B ≤ W.heap.size) (hl : xs.length < 1000000)
  (h : ∀ v1 w1, HisR w1 B v1 (xs ++ [p]) → Below B W w1 → W.grownBy w1 v.ownBlock → wpList Tryz.prog ops Q rest (a.put o.dst v1) w1) :
  wpList Tryz.prog ops Q (o :: rest) a (W.alloc (.cells #[.int .u32 p] 38)) := by
 subst hN
 refine Kd.R_append (Kd.int .u32) (w0 := W) B hgd s x 43 38 (.int .u32 0) 4 ho Tryz.underlying43 (by kernel_rfl) rfl (by decide) (by omega) v xs p [.int .u32 p]
  (fun _ => True) (fun _ => False) hs hx rfl (fun _ hk => hk.elim) (fun _ _ => trivial) HO (Below.refl _ _) hB (by omega) ?_
 intro v1 w1 h1 h2 h3 h4
 exact h v1 w1 h1 h2 h3
end
end Go.Proofs.YtikilglbhnplaaaGreatDoor
end
section
namespace Go.Proofs.YtikilglbhnplaaaGreatDoor
open Go.RowKit Go.Proofs.YtikilglbhnplaaaGreatDoorW.PrintWords Go.Proofs.YtikilglbhnplaaaGreatDoorW.PrintLast
open PX (T V)
section
variable {g : Nat} {v : Int} {st : List Sta} {tr : List Tra} {w : World}
theorem mbeg_any (hw : LaidZ w) (hT : TrM w g v st tr) (good : chkP v st tr = .none) (few : fewP st tr = true) (m : Ses) (AH AE AI : Option Addr) (hc ec ic : Nat) (hH : (Kd.int .u32).C w AH m.hist.length m.hist) (hE : NumsC w AE m.env.length m.env) (hI : NumsC w AI m.inn.length m.inn)
  (h1 : m.hist.length ≤ hc) (h2 : m.env.length ≤ ec) (h3 : m.inn.length ≤ ic) (l1 : m.hist.length ≤ 1000) (l2 : m.env.length ≤ 1000) (l3 : m.inn.length ≤ 100000) (hcf : m.conf < 4294967296) :
  Calls Tryz.prog 63 #[.pointer (some ⟨g, 0, none⟩), .agg #[.int .u32 (m.conf : Nat), .slice AH m.hist.length hc, .slice AE m.env.length ec, .slice AI m.inn.length ic, .int .i64 m.stat]] w fun e w' => ∃ wB A ca B cb, e = .returned (StP wB) ∧ StC wB g v A B ca cb st tr ∧ StM wB g v A B ca cb st tr w' { m with hist := padH st m.hist, out := [] } ∧ Below w.heap.size w w' ∧ Below w.heap.size w wB := by
 obtain ⟨⟨_, _, hn1, hn, hn2⟩, _⟩ := chk_none good
 have HFs := Lib.hid (few_s few)
 have hb0 := (Below.refl _ w).alloc (Nat.le_refl _) (.cells #[.int .u32 (m.conf : Nat), .slice AH m.hist.length hc, .slice AE m.env.length ec, .slice AI m.inn.length ic, .int .i64 m.stat] 46)
 have HB0 := Lib.hid hb0
 have HT0 := Lib.hid (hT.below hb0)
 have HTw := Lib.hid hT
 have HGd := Lib.hid (And.intro good few)
 have hz0 := blk_new w (.cells #[.int .u32 (m.conf : Nat), .slice AH m.hist.length hc, .slice AE m.env.length ec, .slice AI m.inn.length ic, .int .i64 m.stat] 46)
 have HZ0 := Lib.hid hz0
 have y0 := blk_cell hz0 0
 have y1 := blk_cell hz0 1
 have y2 := blk_cell hz0 2
 have y3 := blk_cell hz0 3
 have y4 := blk_cell hz0 4
 have HH := Lib.hid hH
 have HE := Lib.hid hE
 have HI := Lib.hid hI
 have HW := Lib.hid hw
 have HLs := Lib.hid (And.intro h1 (And.intro h2 (And.intro h3 hcf)))
 clear hb0 hz0 hT hH hE hI hw h1 h2 h3 hcf
 go_enter Tryz.func63, Tryz.ntmps63
 go_wp2_with fail
 refine start_ (n := 7) (S := fun w' => w'.cell? ⟨w.heap.size, 0, none⟩ = some (.int .u32 (m.conf : Nat)) ∧ w'.cell? ⟨w.heap.size, 1, none⟩ = some (.slice AH m.hist.length hc) ∧ w'.cell? ⟨w.heap.size, 2, none⟩ = some (.slice AE m.env.length ec) ∧ w'.cell? ⟨w.heap.size, 3, none⟩ = some (.slice AI m.inn.length ic) ∧ w'.cell? ⟨w.heap.size, 4, none⟩ = some (.int .i64 m.stat)) (ds := [5]) (tf7 0) (by kernel_rfl) rfl (by kernel_rfl) ⟨y0, y1, y2, y3, y4⟩ (fun hHeld => ?_)
 iterate 2
  refine pxt_ (v := ?_) (a' := ?_) rfl rfl (by kernel_rfl) (fun _ _ _ h => h) (Or.inl ⟨by rfl, ?_⟩) ?_ ?_
  rotate_left
  ·intro w'
   go_simp
   first | done | with_reducible rfl
  rotate_left
  ·simp only [Act.put, List.setIfInBounds_toArray, List.set_cons_zero, List.set_cons_succ, i64_w, i32_w]
   first | done | rfl
 refine take_ (i := 3) (N := some 9) (v := ?_) (a' := ?_) (bm7 11) rfl rfl (by kernel_rfl) (fun _ _ _ h => h) (Or.inl ⟨by rfl, ?_⟩) hHeld ?_ ?_
 rotate_left
 ·rintro w' ⟨s0, s1, s2, s3, s4⟩
  go_simp
  with_reducible rfl
 rotate_left
 ·simp only [Act.put, List.setIfInBounds_toArray, List.set_cons_zero, List.set_cons_succ, i64_w, i32_w]
  rfl
 refine one_ (i := 2) (N := some 8) (tf7 4) rfl rfl (by kernel_rfl) (by decide) (fun K hK => ?_)
 refine goes_ Tryz.func38 (by kernel_rfl) rfl #[.pointer (some ⟨g, 0, none⟩)] (by rfl) rfl rfl (by first | rfl | (go_simp; done) | (go_simp; exact ⟨rfl, rfl⟩) | (go_simp; rfl)) ?_
 refine (tchart_any (HT0.out.below (below_drew (Below.refl _ _))) (by omega) (by omega) (by omega) HFs.out.1 HFs.out.2).mono ?_
 rintro e1 w1 ⟨gS, ca, B, cb, rfl, hM, hb1, _, _, _⟩
 generalize (some ⟨gS, 0, none⟩ : Option Addr) = A at hM ⊢
 have HM := Lib.hid hM
 have HZ1 := Lib.hid ((hb1.block _ (lt_of_block HZ0.out)).trans HZ0.out)
 have HB1 := Lib.hid (below_then HB0.out HB0.out.size ((below_drew (Below.refl _ _)).trans hb1))
 refine ⟨_, rfl, hK.out _ _ ⟨blk_cell HZ1.out 0, blk_cell HZ1.out 1, blk_cell HZ1.out 2, blk_cell HZ1.out 3, blk_cell HZ1.out 4⟩ (fun hS1 => ?_)⟩
 clear hK K hM hb1
 refine pxt_ (v := ?_) (a' := ?_) rfl rfl (by kernel_rfl) (fun _ _ _ h => h) (Or.inl ⟨by rfl, ?_⟩) ?_ ?_
 rotate_left
 ·intro w'
  go_simp
  first | done | with_reducible rfl
 rotate_left
 ·simp only [Act.put, List.setIfInBounds_toArray, List.set_cons_zero, List.set_cons_succ, i64_w, i32_w]
  first | done | rfl
 refine last_ (i := 5) (N := some 11) (tf7 6) rfl rfl (by kernel_rfl) (by decide) (fun K hK => ?_)
 refine val_ (v := .pointer (some ⟨w1.heap.size, 0, none⟩)) (w1 := w1.alloc (stO g v A B ca cb st tr m.conf (.slice AH m.hist.length hc) (.slice AE m.env.length ec) (.slice AI m.inn.length ic) m.stat (.slice none 0 0))) (by rfl) rfl (by go_simp; done) ?_
 refine hK.out _ _ ?_
 clear hK K
 refine pure_ (i := 6) (N := some 5) (v := ?_) (a' := ?_) (tf7 7) rfl rfl (by kernel_rfl) (fun _ _ _ h => h) (Or.inl ⟨by rfl, ?_⟩) ?_ ?_
 rotate_left
 ·intro w'
  go_simp
  first | done | with_reducible rfl
 rotate_left
 ·simp only [Act.put, List.setIfInBounds_toArray, List.set_cons_zero, List.set_cons_succ, i64_w, i32_w]
  rfl
 refine done_ (by kernel_rfl) ?_
 have hwB := HB1.out.size
 have hk1 := blk_new w1 (stO g v A B ca cb st tr m.conf (.slice AH m.hist.length hc) (.slice AE m.env.length ec) (.slice AI m.inn.length ic) m.stat (.slice none 0 0))
 have hbx := (Below.refl _ w1).alloc (Nat.le_refl _) (stO g v A B ca cb st tr m.conf (.slice AH m.hist.length hc) (.slice AE m.env.length ec) (.slice AI m.inn.length ic) m.stat (.slice none 0 0))
 have HK1 := Lib.hid hk1
 have HBx := Lib.hid hbx
 have hzx := (hbx.block _ (lt_of_block HZ1.out)).trans HZ1.out
 have x1 := blk_cell hzx 1
 have HHx := Lib.hid (Kd.C_below (Kd.C_below HH.out HB1.out) hbx)
 clear y0 y1 y2 y3 y4 hzx hk1 hbx
 go_wp2_with fail
 refine (clone32 AH hc m.hist.length m.hist rfl _ HLs.out.1 HHx.out (by omega)).mono ?_
 rintro e w2 ⟨vh0, rfl, hh0, hb2⟩
 obtain ⟨A0, c0, rfl⟩ := Kd.R_slice hh0
 have hk2 := (hb2.block _ (lt_of_block HK1.out)).trans HK1.out
 have x5 := blk_free hk2 5
 have x5c := blk_cell hk2 5
 have HH2 : Hid (HisR (w2.setCell ⟨w1.heap.size, 5, none⟩ (.slice A0 m.hist.length c0)) w1.heap.size (.slice A0 m.hist.length c0) m.hist) := Lib.hid (Kd.R_set (Kd.R_lower hh0 HBx.out.size) hk2 (by decide) 5 _)
 have HK2 : Hid ((w2.setCell ⟨w1.heap.size, 5, none⟩ (.slice A0 m.hist.length c0)).heap[w1.heap.size]? = some (stO g v A B ca cb st tr m.conf (.slice A0 m.hist.length c0) (.slice AE m.env.length ec) (.slice AI m.inn.length ic) m.stat (.slice none 0 0))) := Lib.hid (blk_set hk2 5 _)
 have HB2 := Lib.hid ((below_then HBx.out HBx.out.size hb2).setCell (p := ⟨w1.heap.size, 5, none⟩) (Nat.le_refl _) (.slice A0 m.hist.length c0))
 clear hh0 hb2 hk2 x1
 go_wp2_with fail
 go_loopg [31] (st.length - m.hist.length) (fun gk _ wr => ∃ (k : Nat) (vh : Value), k + gk = st.length - m.hist.length ∧ Hid (wr.heap[w1.heap.size]? = some (stO g v A B ca cb st tr m.conf vh (.slice AE m.env.length ec) (.slice AI m.inn.length ic) m.stat (.slice none 0 0))) ∧ Hid (HisR wr w1.heap.size vh (m.hist ++ List.replicate k 0)) ∧ Hid (Below w1.heap.size w1 wr))
 case atStart => exact ⟨0, _, by omega, HK2, Lib.hid (by rw [List.replicate_zero, List.append_nil]; exact HH2.out), HB2⟩
 case round =>
  clear HK2 HH2 HB2 x5 x5c
  obtain ⟨k, vh, hk, HK2, HH2, HB2⟩ := hrel
  obtain ⟨l, hl⟩ : ∃ l : List Int, l = m.hist ++ List.replicate k 0 := ⟨_, rfl⟩
  have hh := HH2.out
  rw [← hl] at hh
  have hll : l.length = m.hist.length + k := by rw [hl]; simp
  have Hl := Lib.hid hl
  have HLl := Lib.hid hll
  obtain ⟨Ah, ch, rfl⟩ := Kd.R_slice hh
  have y5 := blk_cell HK2.out 5
  have y2 := blk_cell HK2.out 2
  have HHd := Lib.hid (Kd.R_drew hh)
  have hsd : w1.heap.size ≤ wr.drew.heap.size := HB2.out.size
  have hl1 : l.length < 1000000 := by omega
  have HKd : Hid (wr.drew.heap[w1.heap.size]? = some (stO g v A B ca cb st tr m.conf (.slice Ah l.length ch) (.slice AE m.env.length ec) (.slice AI m.inn.length ic) m.stat (.slice none 0 0))) := Lib.hid HK2.out
  have HBd := Lib.hid (below_then HB2.out HB2.out.size (below_drew (Below.refl _ _)))
  cases gk with
  | zero =>
   have p1 : ((l.length : Int) < (st.length : Int)) = False := eq_false (by omega)
   have HPad : Hid (l = padH st m.hist) := Lib.hid (by rw [Hl.out]; unfold padH; rw [show k = st.length - m.hist.length by omega])
   clear hl hll hh HH2
   go_wp2_with fail
   refine start_ (n := 13) (S := fun w' => w'.cell? ⟨w1.heap.size, 5, none⟩ = some (.slice Ah l.length ch) ∧ w'.cell? ⟨w1.heap.size, 2, none⟩ = some (.slice A st.length ca)) (ds := []) (tf13 0) (by kernel_rfl) rfl (by kernel_rfl) ⟨y5, y2⟩ (fun hHeld => ?_)
   iterate 13
    refine nxt_ (v := ?_) (a' := ?_) rfl rfl (by kernel_rfl) (fun _ _ _ h => h) (Or.inl ⟨by rfl, ?_⟩) hHeld ?_ ?_
    rotate_left
    ·rintro w' ⟨s0, s1⟩
     go_simp
     first | done | with_reducible rfl
    rotate_left
    ·simp only [Act.put, List.setIfInBounds_toArray, List.set_cons_zero, List.set_cons_succ, i64_w, i32_w]
     first | done | rfl
   refine done_ (by kernel_rfl) ?_
   clear y5 y2
   generalize wr.drew = wd at HHd HKd HBd hsd ⊢
   have HZd := Lib.hid ((HBd.out.block _ (lt_of_block HZ1.out)).trans HZ1.out)
   have y8 := blk_cell HZd.out 2
   have y9 := blk_cell HZd.out 3
   have HEd := Lib.hid (Kd.C_below (Kd.C_below HE.out HB1.out) HBd.out)
   go_wp2_with fail
   refine start_ (n := 16) (S := fun w' => w'.cell? ⟨w.heap.size, 2, none⟩ = some (.slice AE m.env.length ec) ∧ w'.cell? ⟨w.heap.size, 3, none⟩ = some (.slice AI m.inn.length ic)) (ds := [11, 15]) (tf16 0) (by kernel_rfl) rfl (by kernel_rfl) ⟨y8, y9⟩ (fun hHeld => ?_)
   iterate 3
    refine pxt_ (v := ?_) (a' := ?_) rfl rfl (by kernel_rfl) (fun _ _ _ h => h) (Or.inl ⟨by rfl, ?_⟩) ?_ ?_
    rotate_left
    ·intro w'
     go_simp
     first | done | with_reducible rfl
    rotate_left
    ·simp only [Act.put, List.setIfInBounds_toArray, List.set_cons_zero, List.set_cons_succ, i64_w, i32_w]
     first | done | rfl
   refine nxt_ (v := ?_) (a' := ?_) rfl rfl (by kernel_rfl) (fun _ _ _ h => h) (Or.inl ⟨by rfl, ?_⟩) hHeld ?_ ?_
   rotate_left
   ·rintro w' ⟨s0, s1⟩
    go_simp
    first | done | with_reducible rfl
   rotate_left
   ·simp only [Act.put, List.setIfInBounds_toArray, List.set_cons_zero, List.set_cons_succ, i64_w, i32_w]
    first | done | rfl
   refine pure_ (i := 5) (N := some 48) (v := ?_) (a' := ?_) (bm16 47) rfl rfl (by kernel_rfl) (fun _ _ _ h => h) (Or.inl ⟨by rfl, ?_⟩) ?_ ?_
   rotate_left
   ·intro w'
    go_simp
    with_reducible rfl
   rotate_left
   ·simp only [Act.put, List.setIfInBounds_toArray, List.set_cons_zero, List.set_cons_succ, i64_w, i32_w]
    rfl
   refine take_ (i := 6) (N := some 49) (v := ?_) (a' := ?_) (bm16 111) rfl rfl (by kernel_rfl) (fun _ _ _ h => h) (Or.inl ⟨by rfl, ?_⟩) hHeld ?_ ?_
   rotate_left
   ·rintro w' ⟨s0, s1⟩
    go_simp
    with_reducible rfl
   rotate_left
   ·simp only [Act.put, List.setIfInBounds_toArray, List.set_cons_zero, List.set_cons_succ, i64_w, i32_w]
    rfl
   refine one_ (i := 4) (N := some 47) (tf16 7) rfl rfl (by kernel_rfl) (by decide) (fun K hK => ?_)
   refine goes_ Tryz.func74 (by kernel_rfl) rfl #[.slice AE m.env.length ec] (by rfl) rfl rfl (by first | rfl | (go_simp; done) | (go_simp; exact ⟨rfl, rfl⟩) | (go_simp; rfl)) ?_
   refine (clone_any AE ec m.env _ HLs.out.2.1 (Kd.C_drew HEd.out) (by omega)).mono ?_
   rintro e3 w3 ⟨ve, rfl, hve, hb3⟩
   obtain ⟨Ae, ce, rfl⟩ := Kd.R_slice hve
   have HVE := Lib.hid hve
   have HB3 := Lib.hid (below_then HBd.out HBd.out.size ((below_drew (Below.refl _ _)).trans hb3))
   have HZ3 := Lib.hid ((HB3.out.block _ (lt_of_block HZ1.out)).trans HZ1.out)
   have HK3 := Lib.hid ((hb3.block _ (lt_of_block HKd.out)).trans HKd.out)
   have HH3 := Lib.hid (Kd.R_below (Kd.R_drew HHd.out) hb3)
   refine ⟨_, rfl, hK.out _ _ ⟨blk_cell HZ3.out 2, blk_cell HZ3.out 3⟩ (fun hS3 => ?_)⟩
   clear hK K hve hb3
   refine one_ (i := 7) (N := some 50) (tf16 8) rfl rfl (by kernel_rfl) (by decide) (fun K hK => ?_)
   refine goes_ Tryz.func75 (by kernel_rfl) rfl #[.slice AI m.inn.length ic] (by rfl) rfl rfl (by first | rfl | (go_simp; done) | (go_simp; exact ⟨rfl, rfl⟩) | (go_simp; rfl)) ?_
   refine (cloneIn AI ic m.inn.length m.inn rfl w3 HLs.out.2.2.1 (Kd.C_below (Kd.C_below HI.out HB1.out) HB3.out) (by omega)).mono ?_
   rintro e4 w4 ⟨vi, rfl, hvi, hb4⟩
   obtain ⟨Ai, ci, rfl⟩ := Kd.R_slice hvi
   have HVI := Lib.hid hvi
   have HVE4 := Lib.hid (Kd.R_below HVE.out hb4)
   have HB4 := Lib.hid (below_then HB3.out HB3.out.size hb4)
   have HZ4 := Lib.hid ((HB4.out.block _ (lt_of_block HZ1.out)).trans HZ1.out)
   have hk4 := (hb4.block _ (lt_of_block HK3.out)).trans HK3.out
   have HK4 := Lib.hid hk4
   have HH4 := Lib.hid (Kd.R_below HH3.out hb4)
   have c6 := blk_cell hk4 6
   have f6 := blk_free hk4 6
   have c7 := blk_cell hk4 7
   have f7 := blk_free hk4 7
   refine ⟨_, rfl, hK.out _ _ ⟨blk_cell HZ4.out 2, blk_cell HZ4.out 3⟩ (fun hS4 => ?_)⟩
   clear hK K hvi hb4 hk4
   iterate 3
    refine pxt_ (v := ?_) (a' := ?_) rfl rfl (by kernel_rfl) (fun _ _ _ h => h) (Or.inl ⟨by rfl, ?_⟩) ?_ ?_
    rotate_left
    ·intro w'
     go_simp
     first | done | with_reducible rfl
    rotate_left
    ·simp only [Act.put, List.setIfInBounds_toArray, List.set_cons_zero, List.set_cons_succ, i64_w, i32_w]
     first | done | rfl
   refine last_ (i := 11) (N := none) (tf16 12) rfl rfl (by kernel_rfl) (by decide) (fun K hK => ?_)
   refine skip_ (w1 := ?_) (by rfl) rfl ?_ ?_
   rotate_left
   ·go_simp
    rfl
   refine hK.out _ _ ?_
   clear hK K
   iterate 3
    refine pxt_ (v := ?_) (a' := ?_) rfl rfl (by kernel_rfl) (fun _ _ _ h => h) (Or.inl ⟨by rfl, ?_⟩) ?_ ?_
    rotate_left
    ·intro w'
     go_simp
     first | done | with_reducible rfl
    rotate_left
    ·simp only [Act.put, List.setIfInBounds_toArray, List.set_cons_zero, List.set_cons_succ, i64_w, i32_w]
     first | done | rfl
   refine last_ (i := 15) (N := none) (tf16 16) rfl rfl (by kernel_rfl) (by decide) (fun K hK => ?_)
   refine skip_ (w1 := ?_) (by rfl) rfl ?_ ?_
   rotate_left
   ·go_simp
    rfl
   refine hK.out _ _ ?_
   clear hK K
   refine done_ (by kernel_rfl) ?_
   have hh4 : HisR w4 w1.heap.size (.slice Ah l.length ch) (padH st m.hist) := by rw [← HPad.out]; exact HH4.out
   have he4 : EnvR w4 w1.heap.size (.slice Ae m.env.length ce) m.env := Kd.R_lower HVE4.out hsd
   have hi4 : InnR w4 w1.heap.size (.slice Ai m.inn.length ci) m.inn := Kd.R_lower HVI.out HB3.out.size
   obtain ⟨r1, r2, r3, r4⟩ := StR.rows_set (wB := w1) (m := { m with hist := padH st m.hist, out := [] }) hh4 he4 hi4 (Kd.R_nil _ _ _ _ _) HK4.out 6 (.slice Ae m.env.length ce)
   have b1 := blk_set HK4.out 6 (.slice Ae m.env.length ce)
   obtain ⟨r1, r2, r3, r4⟩ := StR.rows_set (wB := w1) (m := { m with hist := padH st m.hist, out := [] }) r1 r2 r3 r4 b1 7 (.slice Ai m.inn.length ci)
   have HLow := Lib.hid ((HB4.out.setCell (p := ⟨w1.heap.size, 6, none⟩) (Nat.le_refl _) (.slice Ae m.env.length ce)).setCell (p := ⟨w1.heap.size, 7, none⟩) (Nat.le_refl _) (.slice Ai m.inn.length ci))
   have HSt : Hid (StM w1 g v A B ca cb st tr ((w4.setCell ⟨w1.heap.size, 6, none⟩ (.slice Ae m.env.length ce)).setCell ⟨w1.heap.size, 7, none⟩ (.slice Ai m.inn.length ci)) { m with hist := padH st m.hist, out := [] }) := Lib.hid ⟨_, _, _, _, HLow.out, blk_set b1 7 (.slice Ai m.inn.length ci), r1, r2, r3, r4, HLs.out.2.2.2⟩
   clear r1 r2 r3 r4 b1 hh4 he4 hi4 c6 f6 c7 f7
   go_wp2_with fail
   go_ret
   have hstc : StC w1 g v A B ca cb st tr := ⟨HTw.out.below HB1.out, HM.out, HW.out.below HB1.out, HGd.out.1, HGd.out.2⟩
   refine ⟨w1, rfl, ?_⟩
   first
   | exact ⟨A, ca, B, cb, hstc, HSt.out, below_then HB1.out HB1.out.size HLow.out, HB1.out⟩
   | exact ⟨⟨A, ca, B, cb, hstc, HSt.out⟩, below_then HB1.out HB1.out.size HLow.out, HB1.out⟩
  | succ gk =>
   have p1 : ((l.length : Int) < (st.length : Int)) = True := eq_true (by omega)
   clear hl hll hh HH2
   go_wp2_with fail
   refine start_ (n := 13) (S := fun w' => w'.cell? ⟨w1.heap.size, 5, none⟩ = some (.slice Ah l.length ch) ∧ w'.cell? ⟨w1.heap.size, 2, none⟩ = some (.slice A st.length ca)) (ds := []) (tf13 0) (by kernel_rfl) rfl (by kernel_rfl) ⟨y5, y2⟩ (fun hHeld => ?_)
   iterate 13
    refine nxt_ (v := ?_) (a' := ?_) rfl rfl (by kernel_rfl) (fun _ _ _ h => h) (Or.inl ⟨by rfl, ?_⟩) hHeld ?_ ?_
    rotate_left
    ·rintro w' ⟨s0, s1⟩
     go_simp
     first | done | with_reducible rfl
    rotate_left
    ·simp only [Act.put, List.setIfInBounds_toArray, List.set_cons_zero, List.set_cons_succ, i64_w, i32_w]
     first | done | rfl
   refine done_ (by kernel_rfl) ?_
   clear y5 y2
   generalize wr.drew = wd at HHd HKd HBd hsd ⊢
   have y5 := blk_cell HKd.out 5
   go_wp2_with (at_builtin; refine his_append rfl (.tmp 37) (.tmp 38) rfl w1.heap.size _ l 0 rfl _ rfl rfl HHd.out hsd hl1 ?_)
   intro v4 w4 h4 hb4 hg4
   obtain ⟨l4, hl4⟩ : ∃ l4 : List Int, l4 = l ++ [0] := ⟨_, rfl⟩
   rw [← hl4] at h4
   have Hl4 := Lib.hid hl4
   obtain ⟨A4, c4, rfl⟩ := Kd.R_slice h4
   have hk4 := (hg4.block _ (lt_of_block HKd.out) (Kd.R_ne HHd.out HKd.out (by decide))).trans HKd.out
   have x5 := blk_free hk4 5
   have x5c := blk_cell hk4 5
   have HH5 : Hid (HisR (w4.setCell ⟨w1.heap.size, 5, none⟩ (.slice A4 l4.length c4)) w1.heap.size (.slice A4 l4.length c4) (m.hist ++ List.replicate (k + 1) 0)) := Lib.hid (by rw [List.replicate_succ', ← List.append_assoc, ← Hl.out, ← Hl4.out]; exact Kd.R_set h4 hk4 (by decide) 5 _)
   have HK5 : Hid ((w4.setCell ⟨w1.heap.size, 5, none⟩ (.slice A4 l4.length c4)).heap[w1.heap.size]? = some (stO g v A B ca cb st tr m.conf (.slice A4 l4.length c4) (.slice AE m.env.length ec) (.slice AI m.inn.length ic) m.stat (.slice none 0 0))) := Lib.hid (blk_set hk4 5 _)
   have HB5 := Lib.hid ((HBd.out.trans hb4).setCell (p := ⟨w1.heap.size, 5, none⟩) (Nat.le_refl _) (.slice A4 l4.length c4))
   clear h4 hb4 hg4 hk4 hl4 y5
   go_wp2_with fail
   go_roundg gk
   case measure => omega
   case rel => exact ⟨k + 1, _, by omega, HK5, HH5, HB5⟩
end
end Go.Proofs.YtikilglbhnplaaaGreatDoor
end
section
namespace Go.Proofs.YtikilglbhnplaaaGreatDoor
open Go.RowKit Go.Proofs.YtikilglbhnplaaaGreatDoorW.PrintWords
open PX (T V)
section
variable {wB : World} {g : Nat} {v : Int} {A B : Option Addr} {ca cb : Nat} {st : List Sta} {tr : List Tra} {w : World} {m : Ses}
theorem mit_any (hC : StC wB g v A B ca cb st tr) (h : StM wB g v A B ca cb st tr w m) (b : Nat) (hb : w.heap[b]? = some (.cells #[StP wB] 108 (0, 0))) (i : Int) :
  Calls Tryz.prog 64 #[.int .i64 i, .pointer (some ⟨b, 0, none⟩)] w fun e w' => e = .returned (.bool (decide (thT tr i))) ∧ w' = w := by
 obtain ⟨_, _, _, _, h⟩ := h
 obtain ⟨⟨_, _, y3, _⟩, _⟩ := h.cells
 have x0 : w.cell? ⟨b, 0, none⟩ = some (StP wB) := blk_cell hb 0
 have HT : Hid (decide (thT tr i) = (decide (0 ≤ i) && decide (i < (tr.length : Int)))) := Lib.hid (by unfold thT; simp)
 generalize decide (thT tr i) = G at HT ⊢
 clear h hb
 go_enter Tryz.func64, Tryz.ntmps64
 by_cases c : 0 ≤ i
 ·have d1 : decide (i ≥ 0) = true := decide_eq_true c
  have d1' : decide (0 ≤ i) = true := decide_eq_true c
  have HG : Hid (decide (i < (tr.length : Int)) = G) := Lib.hid (by rw [HT.out, d1', Bool.true_and])
  clear c
  go_wp2_with fail
  go_ret
  exact ⟨by rw [← HG.out]; rfl, rfl⟩
 ·have d1 : decide (i ≥ 0) = false := decide_eq_false c
  have d1' : decide (0 ≤ i) = false := decide_eq_false c
  have HG : Hid (G = false) := Lib.hid (by rw [HT.out, d1', Bool.false_and])
  clear c
  go_wp2_with fail
  go_ret
  exact ⟨by rw [HG.out]; rfl, rfl⟩
end
end Go.Proofs.YtikilglbhnplaaaGreatDoor
end
section
namespace Go.Proofs.YtikilglbhnplaaaGreatDoor
open Go.RowKit Go.Proofs.YtikilglbhnplaaaGreatDoorW.PrintWords
def HisOk (l : List Int) : Prop := ∀ x ∈ l, 0 ≤ x ∧ x < 4294967296
theorem HisOk.set {l : List Int} (h : HisOk l) (q x : Nat) (hx : x < 4294967296) : HisOk (l.set q (x : Int)) := fun y hy => by
 rcases List.mem_or_eq_of_mem_set hy with hy | hy
 ·exact h y hy
 ·rw [hy]; omega
theorem bitOr_lt {st : List Sta} (hn : st.length ≤ 24) (set : Nat) : bitOr (lvP st set) < 4294967296 := by
 have key : ∀ l : List Int, (∀ a ∈ l, a ∈ lvP st set) → ∀ x, x < 4294967296 → l.foldl (fun x y => x ||| 2 ^ y.toNat) x < 4294967296 := by
  intro l
  induction l with
  | nil => intro _ x hx; exact hx
  | cons a l ih =>
   intro hl x hx
   refine ih (fun b hb => hl b (List.mem_cons_of_mem _ hb)) _ ?_
   obtain ⟨k, hk, hk2, _⟩ := lvP_in (hl a List.mem_cons_self)
   show x ||| 2 ^ a.toNat < 4294967296
   rw [hk, Int.toNat_natCast]
   exact (or_at hx (by omega)).2
 exact key _ (fun a ha => ha) 0 (by decide)
theorem recN_ok {st : List Sta} (hn : st.length ≤ 24) {conf : Nat} (hc : conf < 4294967296) (set : Nat) {h : List Int} (hh : HisOk h) (q : Nat) : HisOk (recN st conf set h q) := by
 induction q with
 | zero => exact hh
 | succ q ih =>
  simp only [recN]
  unfold recH
  split
  ·exact ih
  ·split
   ·exact ih.set _ _ (Nat.lt_of_le_of_lt Nat.and_le_left hc)
   ·exact ih.set _ _ (bitOr_lt hn _)
end Go.Proofs.YtikilglbhnplaaaGreatDoor
end
section
namespace Go.Proofs.YtikilglbhnplaaaGreatDoor
open Go.RowKit Go.Proofs.YtikilglbhnplaaaGreatDoorW.PrintWords
section
variable {st : List Sta} {tr : List Tra} {env : List Int} {ev : Int}
theorem rdy_other {x : Tra} (h : x.f1 ≠ ev) : rdyP x env ev = (false, false) := by
 unfold rdyP
 rw [if_pos (.inl h)]
 exact Prod.ext (by simpa using h) rfl
theorem rdy_calm {x : Tra} (h : x.f1 = ev → x.f2.toList.isEmpty = true) : (rdyP x env ev).2 = false := by
 by_cases c : x.f1 = ev
 ·exact rdy_bare (h c)
 ·rw [rdy_other c]
theorem scT_calm (s : Int) (r : List Tra) : ∀ (i : Int) (n : Nat), (∀ x ∈ r, (rdyP x env ev).2 = false) → (scT env ev s r i n).2 = n := by
 induction r with
 | nil => intro i n _; rfl
 | cons x r ih =>
  intro i n h
  have hb := h x (List.mem_cons_self ..)
  have hr := fun m => ih (i + 1) m (fun y hy => h y (List.mem_cons_of_mem _ hy))
  simp only [scT, hb]
  split
  ·exact hr n
  ·split
   ·rfl
   ·exact hr n
theorem scS_calm (hg : ∀ x ∈ tr, (rdyP x env ev).2 = false) (l : List Int) : ∀ n : Nat, (scS tr env ev l n).2 = n := by
 induction l with
 | nil => intro n; rfl
 | cons s l ih =>
  intro n
  have h := fun m => scT_calm (env := env) (ev := ev) s tr 0 m hg
  simp only [scS]
  split
  ·exact h n
  ·rw [ih, h n]
theorem gaF_calm (hg : ∀ x ∈ tr, (rdyP x env ev).2 = false) (l : List Int) : ∀ (out : List Int) (n : Nat), (gaF st tr env ev l out n).2 = n := by
 induction l with
 | nil => intro out n; rfl
 | cons a l ih => intro out n; simp only [gaF]; rw [ih, scS_calm hg]
theorem ga_calm (set : Nat) (h : ∀ x ∈ tr, x.f1 = ev → x.f2.toList.isEmpty = true) : (gaP st tr set env ev).2 = 0 :=
 gaF_calm (fun x hx => rdy_calm (h x hx)) _ _ _
theorem scT_other (s : Int) (r : List Tra) : ∀ (i : Int) (n : Nat), (∀ x ∈ r, x.f1 ≠ ev) → (scT env ev s r i n).1 = -1 := by
 induction r with
 | nil => intro i n _; rfl
 | cons x r ih =>
  intro i n h
  have hb := rdy_other (env := env) (h x (List.mem_cons_self ..))
  have hr := fun m => ih (i + 1) m (fun y hy => h y (List.mem_cons_of_mem _ hy))
  simp only [scT, hb]
  split
  ·exact hr n
  ·exact hr _
theorem scS_other (h : ∀ x ∈ tr, x.f1 ≠ ev) (l : List Int) : ∀ n : Nat, (scS tr env ev l n).1 = -1 := by
 induction l with
 | nil => intro n; rfl
 | cons s l ih =>
  intro n
  simp only [scS]
  rw [if_neg (by rw [scT_other s tr 0 n h]; decide)]
  exact ih _
theorem gaF_other (h : ∀ x ∈ tr, x.f1 ≠ ev) (l : List Int) : ∀ (out : List Int) (n : Nat), (gaF st tr env ev l out n).1 = out := by
 induction l with
 | nil => intro out n; rfl
 | cons a l ih =>
  intro out n
  simp only [gaF]
  rw [ih, scS_other h]
  unfold addI
  rw [if_pos (.inl (by decide))]
theorem ga_other (set : Nat) (h : ∀ x ∈ tr, x.f1 ≠ ev) : gaP st tr set env ev = ([], 0) :=
 Prod.ext (gaF_other h _ _ _) (ga_calm set (fun x hx e => absurd e (h x hx)))
theorem tkn_other (m : Ses) (h : ∀ x ∈ tr, x.f1 ≠ ev) : tknM st tr m ev = [] := by unfold tknM; rw [ga_other _ h]; rfl
end
section
variable {tr : List Tra}
theorem stpT_same (l : List Int) : ∀ m : Ses, (stpT tr m l).conf = m.conf ∧ (stpT tr m l).hist = m.hist := by
 induction l with
 | nil => intro m; exact ⟨rfl, rfl⟩
 | cons i l ih =>
  intro m
  have h := ih (if thT tr i then actsM m (rdT tr i).f5 else m)
  have e : stpT tr m (i :: l) = stpT tr (if thT tr i then actsM m (rdT tr i).f5 else m) l := rfl
  rw [e, h.1, h.2]
  split <;> exact ⟨rfl, rfl⟩
end
def Setd (st : List Sta) (tr : List Tra) (m : Ses) : Prop := m.stat = 1 → m.inn = [] ∧ tknM st tr m 0 = []
section
variable {st : List Sta} {tr : List Tra} {m : Ses}
theorem setl_not (h : m.stat ≠ 1) (F fuel : Nat) : setlM st tr F m fuel = m := by
 cases F with
 | zero => rfl
 | succ F => simp only [setlM]; rw [if_pos h]
theorem rnd_zero (ev : Int) : rndM st tr m 0 ev = ({ m with stat := 3 }, 0, true) := by unfold rndM; rw [if_pos rfl]
theorem rnd_left {fuel : Nat} (h : fuel ≠ 0) (ev : Int) : (rndM st tr m fuel ev).2 = (fuel - 1, !(tknM st tr m ev).isEmpty) := by unfold rndM; rw [if_neg h]
theorem rnd_none {fuel : Nat} (h : fuel ≠ 0) (ev : Int) (ht : tknM st tr m ev = []) : (rndM st tr m fuel ev).1 = tooL { m with inn := m.inn ++ List.replicate (gaP st tr m.conf m.env ev).2 1001 } := by
 unfold rndM; rw [if_neg h]
 show tooL (rndS st tr m (tknM st tr m ev) _) = _
 rw [ht]; unfold rndS; rw [if_pos rfl]
theorem tooL_same (m : Ses) : (tooL m).conf = m.conf ∧ (tooL m).hist = m.hist ∧ (tooL m).env = m.env ∧ (tooL m).inn = m.inn ∧ (tooL m).out = m.out := by
 unfold tooL; split <;> exact ⟨rfl, rfl, rfl, rfl, rfl⟩
theorem tooL_few {m : Ses} (h : m.inn.length ≤ 50) : tooL m = m := by unfold tooL; rw [if_neg (by omega)]
theorem setl_setd : ∀ (F : Nat) (m : Ses) (fuel : Nat), fuel + 2 ≤ F → Setd st tr (setlM st tr F m fuel) := by
 intro F
 induction F with
 | zero => intro m fuel h; omega
 | succ F ih =>
  intro m fuel hF
  simp only [setlM]
  by_cases h1 : m.stat ≠ 1
  ·rw [if_pos h1]; exact fun h => absurd h h1
  ·rw [if_neg h1]
   by_cases hf : fuel = 0
   ·subst hf
    rw [rnd_zero, if_pos rfl, setl_not (by simp)]
    exact fun h => absurd h (by simp)
   ·have e2 := rnd_left (st := st) (tr := tr) (m := m) hf 0
    have e21 : (rndM st tr m fuel 0).2.1 = fuel - 1 := by rw [e2]
    have e22 : (rndM st tr m fuel 0).2.2 = !(tknM st tr m 0).isEmpty := by rw [e2]
    rw [e21, e22]
    by_cases ht : tknM st tr m 0 = []
    ·rw [if_neg (by rw [ht]; decide)]
     have e1 := rnd_none (st := st) (tr := tr) (m := m) hf 0 ht
     obtain ⟨c1, _, c3, c4, _⟩ := tooL_same { m with inn := m.inn ++ List.replicate (gaP st tr m.conf m.env 0).2 1001 }
     rw [← e1] at c1 c3 c4
     generalize (rndM st tr m fuel 0).1 = m1 at *
     have ht1 : tknM st tr m1 0 = [] := by
      unfold tknM at ht ⊢; rw [c1, c3]; exact ht
     cases hi : m1.inn with
     | nil => exact fun _ => ⟨hi, ht1⟩
     | cons e r =>
      simp only
      by_cases h2 : m1.stat ≠ 1
      ·rw [if_pos h2]; exact fun h => absurd h h2
      ·rw [if_neg h2]
       by_cases hf1 : fuel - 1 = 0
       ·rw [hf1, rnd_zero, setl_not (by simp)]
        exact fun h => absurd h (by simp)
       ·have e3 := rnd_left (st := st) (tr := tr) (m := { m1 with inn := r }) hf1 e
        rw [show (rndM st tr { m1 with inn := r } (fuel - 1) e).2.1 = fuel - 1 - 1 by rw [e3]]
        exact ih _ _ (by omega)
    ·rw [if_pos (by cases h : tknM st tr m 0 with | nil => exact absurd h ht | cons a l => rfl)]
     exact ih _ _ (by omega)
theorem sta_setd (v : Int) : Setd st tr (staM v st tr) := setl_setd _ _ _ (by decide)
theorem tak_setd (ev : Int) (h : Setd st tr m) : Setd st tr (takM st tr m ev) := by
 unfold takM
 split
 ·rename_i h1; exact fun h => absurd h h1
 ·by_cases h0 : (rndM st tr { m with out := [] } 40 ev).2.1 + 2 ≤ 42
  ·exact setl_setd _ _ _ h0
  ·exfalso; rw [rnd_left (by decide)] at h0; exact h0 (by show 39 + 2 ≤ 42; decide)
theorem tak_idle (h : Setd st tr m) (ev : Int) (h1 : ∀ x ∈ tr, x.f1 ≠ ev) (h2 : ∀ x ∈ tr, x.f1 = 0 → x.f2.toList.isEmpty = true) : takM st tr m ev = { m with out := [] } := by
 unfold takM
 split
 ·rfl
 ·rename_i hs
  have hs : m.stat = 1 := Classical.not_not.1 hs
  obtain ⟨i1, i2⟩ := h hs
  have hr : ∀ f : Nat, f ≠ 0 → ∀ e : Int, tknM st tr { m with out := [] } e = [] → (gaP st tr m.conf m.env e).2 = 0 → rndM st tr { m with out := [] } f e = ({ m with out := [] }, f - 1, false) := by
   intro f hf e ht hg
   have e1 := rnd_none (st := st) (tr := tr) (m := { m with out := [] }) hf e ht
   have e2 := rnd_left (st := st) (tr := tr) (m := { m with out := [] }) hf e
   rw [ht] at e2
   refine Prod.ext (e1.trans ?_) e2
   simp only [hg, List.replicate_zero, List.append_nil]
   exact tooL_few (by simp only [i1]; decide)
  have r1 := hr 40 (by decide) ev (tkn_other { m with out := [] } h1) (by rw [ga_other _ h1])
  have r2 := hr 39 (by decide) 0 i2 (ga_calm m.conf h2)
  rw [r1]
  have key : ∀ F : Nat, setlM st tr (F + 1) { m with out := [] } 39 = { m with out := [] } := by
   intro F
   simp only [setlM]
   rw [if_neg (not_not_intro hs), r2, if_neg (by simp)]
   simp only [i1]
  exact key 41
end
end Go.Proofs.YtikilglbhnplaaaGreatDoor
end
section
namespace Go.Proofs.YtikilglbhnplaaaGreatDoor
open Go.RowKit Go.Proofs.YtikilglbhnplaaaGreatDoorW.PrintWords Go.Proofs.YtikilglbhnplaaaGreatDoorW.PrintLast
open PX (T V)
theorem leaP_lt {st : List Sta} {tr : List Tra} {set : Nat} (h : set < 4294967296) (i : Int) : leaP st tr set i < 4294967296 := by
 unfold leaP
 split
 ·decide
 ·exact Nat.lt_of_le_of_lt Nat.and_le_left h
theorem HisOk.pad {st : List Sta} {h : List Int} (hh : HisOk h) : HisOk (padH st h) := fun x hx => by
 unfold padH at hx
 rcases List.mem_append.1 hx with hx | hx
 ·exact hh x hx
 ·rw [(List.mem_replicate.1 hx).2]; omega
theorem padH_len {st : List Sta} {h : List Int} (hl : h.length ≤ st.length) : (padH st h).length = st.length := by
 unfold padH; simp; omega
theorem Szs.mono {m : Ses} {I O I' O' : Nat} (h : Szs m I O) (h1 : I ≤ I') (h2 : O ≤ O') : Szs m I' O' := ⟨Nat.le_trans h.1 h1, Nat.le_trans h.2.1 h2, h.2.2⟩
abbrev set5 (w : World) (b : Nat) (v0 v1 v2 v3 v4 : Value) : World := ((((w.setCell ⟨b, 0, none⟩ v0).setCell ⟨b, 1, none⟩ v1).setCell ⟨b, 2, none⟩ v2).setCell ⟨b, 3, none⟩ v3).setCell ⟨b, 4, none⟩ v4
theorem drew_cell (W : World) (a : Addr) : W.drew.cell? a = W.cell? a := rfl
theorem far5d {w : World} {b : Nat} {a : Addr} (h : a.block ≠ b) (v0 v1 v2 v3 v4 : Value) : (((((w.setCell ⟨b, 0, none⟩ v0).setCell ⟨b, 1, none⟩ v1).setCell ⟨b, 2, none⟩ v2).setCell ⟨b, 3, none⟩ v3).setCell ⟨b, 4, none⟩ v4).drew.cell? a = w.cell? a := by
 rw [drew_cell, cell_far (p := ⟨b, 4, none⟩) h, cell_far (p := ⟨b, 3, none⟩) h, cell_far (p := ⟨b, 2, none⟩) h, cell_far (p := ⟨b, 1, none⟩) h, cell_far (p := ⟨b, 0, none⟩) h]
theorem set5_blk {w : World} {b t : Nat} {a0 a1 a2 a3 a4 : Value} (h : w.heap[b]? = some (.cells #[a0, a1, a2, a3, a4] t (0, 0))) (v0 v1 v2 v3 v4 : Value) : (set5 w b v0 v1 v2 v3 v4).heap[b]? = some (.cells #[v0, v1, v2, v3, v4] t (0, 0)) :=
 blk_set (blk_set (blk_set (blk_set (blk_set h 0 v0) 1 v1) 2 v2) 3 v3) 4 v4
theorem R_set5 {α : Type} {d : Kd α} {e base : Nat} {ok : Nat → Prop} {v : Value} {xs : List α} {w : World} {b t : Nat} {cs : Array Value} (h : d.R e w base ok v xs) (hb : w.heap[b]? = some (.cells cs t (0, 0))) (ht : ∀ q, q ∈ e :: d.E → q ≠ t) (v0 v1 v2 v3 v4 : Value) : d.R e (set5 w b v0 v1 v2 v3 v4) base ok v xs :=
 Kd.R_set (Kd.R_set (Kd.R_set (Kd.R_set (Kd.R_set h hb ht 0 v0) (blk_set hb 0 v0) ht 1 v1) (blk_set (blk_set hb 0 v0) 1 v1) ht 2 v2) (blk_set (blk_set (blk_set hb 0 v0) 1 v1) 2 v2) ht 3 v3) (blk_set (blk_set (blk_set (blk_set hb 0 v0) 1 v1) 2 v2) 3 v3) ht 4 v4
theorem set5_below {B : Nat} {w w' : World} {b : Nat} (h : Below B w w') (hb : B ≤ b) (v0 v1 v2 v3 v4 : Value) : Below B w (set5 w' b v0 v1 v2 v3 v4) :=
 ((((h.setCell (p := ⟨b, 0, none⟩) hb v0).setCell (p := ⟨b, 1, none⟩) hb v1).setCell (p := ⟨b, 2, none⟩) hb v2).setCell (p := ⟨b, 3, none⟩) hb v3).setCell (p := ⟨b, 4, none⟩) hb v4
section
variable {g : Nat} {v : Int} {st : List Sta} {tr : List Tra} {w : World}
theorem mstep_any (hw : LaidZ w) (hT : TrM w g v st tr) (good : chkP v st tr = .none) (few : fewP st tr = true) (m : Ses) (AH AE AI L : Option Addr) (hc ec ic cL : Nat) (hH : (Kd.int .u32).C w AH m.hist.length m.hist) (hE : NumsC w AE m.env.length m.env) (hI : NumsC w AI m.inn.length m.inn)
  (h1 : m.hist.length ≤ hc) (h2 : m.env.length ≤ ec) (h3 : m.inn.length ≤ ic) (l1 : m.hist.length ≤ st.length) (l2 : m.env.length ≤ 1000) (l3 : m.inn.length ≤ 100000) (hcf : m.conf < 4294967296) (hok : HisOk m.hist)
  (l : List Int) (hL : NumsC w L l.length l) (hcL : l.length ≤ cL) (hll : l.length ≤ 100) :
  Calls Tryz.prog 27 #[.pointer (some ⟨g, 0, none⟩), .agg #[.int .u32 (m.conf : Nat), .slice AH m.hist.length hc, .slice AE m.env.length ec, .slice AI m.inn.length ic, .int .i64 m.stat], .slice L l.length cL] w fun e w' => ∃ vh ve vi vo, e = .returned (.tuple #[.agg #[.int .u32 ((stpM st tr m l).conf : Nat), vh, ve, vi, .int .i64 (stpM st tr m l).stat], vo]) ∧ HisR w' w.heap.size vh (stpM st tr m l).hist ∧ EnvR w' w.heap.size ve (stpM st tr m l).env ∧ InnR w' w.heap.size vi (stpM st tr m l).inn ∧ OutR w' w.heap.size vo (stpM st tr m l).out ∧ Below w.heap.size w w' := by
 obtain ⟨⟨_, _, hn1, hn, hn2⟩, _⟩ := chk_none good
 have hb0 := ((Below.refl _ w).alloc (Nat.le_refl _) (.cells #[.int .u32 (m.conf : Nat), .slice AH m.hist.length hc, .slice AE m.env.length ec, .slice AI m.inn.length ic, .int .i64 m.stat] 46)).alloc (by simp) (.cells #[.int .u32 0, .slice none 0 0, .slice none 0 0, .slice none 0 0, .int .i64 0] 46)
 have HB0 := Lib.hid hb0
 have hz0 := (((Below.refl _ (w.alloc (.cells #[.int .u32 (m.conf : Nat), .slice AH m.hist.length hc, .slice AE m.env.length ec, .slice AI m.inn.length ic, .int .i64 m.stat] 46))).alloc (Nat.le_refl _) (.cells #[.int .u32 0, .slice none 0 0, .slice none 0 0, .slice none 0 0, .int .i64 0] 46)).block _ (lt_of_block (blk_new w (.cells #[.int .u32 (m.conf : Nat), .slice AH m.hist.length hc, .slice AE m.env.length ec, .slice AI m.inn.length ic, .int .i64 m.stat] 46)))).trans (blk_new w (.cells #[.int .u32 (m.conf : Nat), .slice AH m.hist.length hc, .slice AE m.env.length ec, .slice AI m.inn.length ic, .int .i64 m.stat] 46))
 have HZ0 := Lib.hid hz0
 have y0 := blk_cell hz0 0
 have y1 := blk_cell hz0 1
 have y2 := blk_cell hz0 2
 have y3 := blk_cell hz0 3
 have y4 := blk_cell hz0 4
 have HA := Lib.hid (mbeg_any (hw.below hb0) (hT.below hb0) good few m AH AE AI hc ec ic (Kd.C_below hH hb0) (Kd.C_below hE hb0) (Kd.C_below hI hb0) h1 h2 h3 (by omega) l2 l3 hcf)
 have HL := Lib.hid hL
 clear hb0 hz0 hw hT hH hE hI hL h1 h2 h3
 go_enter Tryz.func27, Tryz.ntmps27
 go_wp2_with fail
 refine HA.out.mono ?_
 rintro e w1 ⟨wB, A, ca, B, cb, rfl, hC, hM, hb1, hbB⟩
 have HBB := Lib.hid (below_then HB0.out HB0.out.size hbB)
 clear hbB
 obtain ⟨vh, ve, vi, vo, hM⟩ := hM
 have hz6 := (hb1.block _ (lt_of_block (blk_new (w.alloc (.cells #[.int .u32 (m.conf : Nat), .slice AH m.hist.length hc, .slice AE m.env.length ec, .slice AI m.inn.length ic, .int .i64 m.stat] 46)) (.cells #[.int .u32 0, .slice none 0 0, .slice none 0 0, .slice none 0 0, .int .i64 0] 46)))).trans (blk_new (w.alloc (.cells #[.int .u32 (m.conf : Nat), .slice AH m.hist.length hc, .slice AE m.env.length ec, .slice AI m.inn.length ic, .int .i64 m.stat] 46)) (.cells #[.int .u32 0, .slice none 0 0, .slice none 0 0, .slice none 0 0, .int .i64 0] 46))
 rw [show (w.alloc (.cells #[.int .u32 (m.conf : Nat), .slice AH m.hist.length hc, .slice AE m.env.length ec, .slice AI m.inn.length ic, .int .i64 m.stat] 46)).heap.size = w.heap.size + 1 by simp] at hz6
 have hal : Below w1.heap.size w1 (w1.alloc (.cells #[StP wB] 108)) := (Below.refl _ w1).alloc (Nat.le_refl _) _
 have hz8 := blk_new w1 (.cells #[StP wB] 108)
 have HZ8 := Lib.hid hz8
 have HZ6 := Lib.hid ((hal.block _ (lt_of_block hz6)).trans hz6)
 have HC := Lib.hid hC
 have HM1 : Hid (StM wB g v A B ca cb st tr (w1.alloc (.cells #[StP wB] 108)) { m with hist := padH st m.hist, out := [] }) := Lib.hid ⟨_, _, _, _, hM.below hal⟩
 have HB1 := Lib.hid (below_then HB0.out HB0.out.size hb1)
 have HBa := Lib.hid (below_then HB1.out HB1.out.size hal)
 have x8 : (w1.alloc (.cells #[StP wB] 108)).cell? ⟨w1.heap.size, 0, none⟩ = some (StP wB) := blk_cell hz8 0
 clear hM hb1 hC hz6 hal hz8 y0 y1 y2 y3 y4
 have hmf : ∀ (fn : Fn) (first cap : Array Value) (w : World), (Instr.makeFunc fn first cap).run Tryz.prog w = .ok (.func fn first cap) w := fun _ _ _ _ => rfl
 have hrun : ∀ args w, (callFunc 64 args).run Tryz.prog w = .ok (.enter 64 args) w := fun _ _ => rfl
 go_wp2_with fail
 have HWa := Lib.hid (HL.out)
 have HLa := Lib.hid (Kd.C_below HL.out HBa.out)
 have HG1 : Hid (l.foldl (fun x i => x ||| leaP st tr m.conf i) 0 = stpL st tr m.conf l) := Lib.hid rfl
 have HGd := Lib.hid (And.intro good (And.intro few hcf))
 obtain ⟨wa, hwa⟩ : ∃ wa : World, wa = w1.alloc (.cells #[StP wB] 108) := ⟨_, rfl⟩
 rw [← hwa] at HZ8 HZ6 HM1 HBa HLa x8 ⊢
 clear hwa
 go_loopw [10, 26] (fun x i wr => ∃ (q y : Nat), i = .int .i64 q ∧ q ≤ l.length ∧ x = .int .u32 (y : Nat) ∧ y < 4294967296 ∧ Hid ((l.drop q).foldl (fun x i => x ||| leaP st tr m.conf i) y = stpL st tr m.conf l) ∧ Hid (Below wa.heap.size wa wr)) (fun _ i _ => l.length - (intOf i).toNat)
 case atStart => exact ⟨0, 0, rfl, Nat.zero_le _, rfl, by decide, Lib.hid (by rw [List.drop_zero]; exact HG1.out), Lib.hid (Below.refl _ _)⟩
 case round =>
  clear HG1
  obtain ⟨q, y, rfl, hq, rfl, hy, HE, HB⟩ := hrel
  have HMr := Lib.hid (HM1.out.below HB.out)
  have hz8 := (HB.out.block _ (lt_of_block HZ8.out)).trans HZ8.out
  have x8 : wr.cell? ⟨w1.heap.size, 0, none⟩ = some (StP wB) := blk_cell hz8 0
  by_cases hlt : q < l.length
  ·have p1 : ((q : Int) < (l.length : Int)) = True := eq_true (by omega)
   obtain ⟨ad, rfl, a0⟩ := nums_at (Kd.C_below HLa.out HB.out) q hlt
   have hE := HE.out
   rw [List.drop_eq_getElem_cons hlt, List.foldl_cons] at hE
   have HE2 := Lib.hid hE
   clear hE HE
   generalize l[q] = i at *
   obtain ⟨_, _, _, _, hMr⟩ := HMr.out
   obtain ⟨⟨_, _, _, z4, _⟩, _⟩ := hMr.cells
   clear hMr
   have hlea := leaP_lt (st := st) (tr := tr) (i := i) HGd.out.2.2
   have e1 : bits BinOp.or IntKind.u32 (y : Int) ((leaP st tr m.conf i : Nat) : Int) = ((y ||| leaP st tr m.conf i : Nat) : Int) := u32_or_nat _ _ hy hlea
   go_wp2_with fail
   refine (lset_any (HC.out.T.below (HMr.out.choose_spec.choose_spec.choose_spec.choose_spec.low)) HGd.out.1 HGd.out.2.1 m.conf HGd.out.2.2 i).mono ?_
   rintro e w5 ⟨rfl, hb5⟩
   have HB5 := Lib.hid (below_then HB.out HB.out.size hb5)
   have hlt5 : y ||| leaP st tr m.conf i < 4294967296 := Nat.or_lt_two_pow (n := 32) hy hlea
   clear hb5 a0 x8 z4 hlea
   go_wp2_with (simp only [e1])
   go_roundw
   case rel => exact ⟨q + 1, y ||| leaP st tr m.conf i, by go_num, by omega, rfl, hlt5, HE2, HB5⟩
   case measure => first | (simp [intOf]; done) | (simp [intOf]; omega)
  ·obtain rfl : q = l.length := by omega
   have p1 : ((l.length : Int) < (l.length : Int)) = False := eq_false (by omega)
   have HX : Hid (y = stpL st tr m.conf l) := Lib.hid (by rw [← HE.out, List.drop_length]; rfl)
   have HSz : Hid (Szs { m with hist := padH st m.hist, out := [] } 100000 0) := Lib.hid ⟨l3, Nat.le_refl _, l2⟩
   have HZ8r := Lib.hid hz8
   have HZ6r := Lib.hid ((HB.out.block _ (lt_of_block HZ6.out)).trans HZ6.out)
   clear HE hz8
   go_wp2_with fail
   refine (mlv_any HC.out HMr.out (padH_len l1) y hy (HSz.out.mono (by omega) (by omega))).mono ?_
   rintro e w6 ⟨rfl, h6, k6⟩
   have HS6 : Hid (stpB st tr m l = stpT tr (lvM st y { m with hist := padH st m.hist, out := [] }) l) := Lib.hid (by rw [HX.out]; rfl)
   obtain ⟨g1, g2, _⟩ := lvD_has st y (fun x hx => ((few_l HGd.out.2.1).1 x hx).2.1) st.length { m with hist := recN st m.conf y (padH st m.hist) st.length, out := [] } 100000 0 (Nat.le_refl _) HSz.out
   have HZ8s := Lib.hid (k6 _ _ _ (Or.inr (Or.inl rfl)) HZ8r.out)
   have HZ6s := Lib.hid (k6 _ _ _ (Or.inr (Or.inr (Or.inl rfl))) HZ6r.out)
   obtain ⟨mb, hmb⟩ : ∃ mb, mb = lvM st y { m with hist := padH st m.hist, out := [] } := ⟨_, rfl⟩
   have HMb : Hid (StM wB g v A B ca cb st tr w6 mb) := Lib.hid (by rw [hmb]; exact h6)
   have HSb : Hid (Szs mb 200000 100000) := Lib.hid (by rw [hmb]; exact g1.mono (by omega) (by omega))
   have hbh : mb.hist = recN st m.conf y (padH st m.hist) st.length := by rw [hmb]; exact g2
   have HHl : Hid (mb.hist.length = st.length) := Lib.hid (by rw [hbh, recN_len]; exact padH_len l1)
   have HHo : Hid (HisOk mb.hist) := Lib.hid (by rw [hbh]; exact recN_ok hn HGd.out.2.2 y (HisOk.pad hok) _)
   have HSt : Hid (stpT tr mb l = stpB st tr m l) := Lib.hid (by rw [hmb]; exact HS6.out.symm)
   have HHt : Hid ((stpB st tr m l).hist = mb.hist) := Lib.hid (by rw [← HSt.out]; exact (stpT_same l mb).2)
   clear hmb g1 g2 hbh h6 k6 HS6 HSz HX HB HMr HZ8r HZ6r HM1 HZ8 HZ6 x8 hy hok
   go_wp2_with fail
   go_loopw [46] (fun i wr => ∃ (q : Nat) (m2 : Ses), i = .int .i64 q ∧ q ≤ l.length ∧ Hid (StM wB g v A B ca cb st tr wr m2) ∧ Hid (stpT tr m2 (l.drop q) = stpB st tr m l) ∧ Hid (Szs m2 (200000 + 21 * q) (100000 + 20 * q)) ∧ Hid (wr.heap[w1.heap.size]? = some (.cells #[StP wB] 108 (0, 0))) ∧ Hid (wr.heap[w.heap.size + 1]? = some (.cells #[.int .u32 0, .slice none 0 0, .slice none 0 0, .slice none 0 0, .int .i64 0] 46))) (fun i _ => l.length - (intOf i).toNat)
   case atStart => exact ⟨0, mb, rfl, Nat.zero_le _, HMb, Lib.hid (by rw [List.drop_zero]; exact HSt.out), Lib.hid (HSb.out.mono (by omega) (by omega)), HZ8s, HZ6s⟩
   case round =>
    clear HMb HSt HSb HZ8s HZ6s
    obtain ⟨q, m2, rfl, hq, HM, HE, HS, HZ8, HZ6⟩ := hrel
    obtain ⟨wo, rfl⟩ : ∃ wo : World, wo = wr := ⟨_, rfl⟩
    obtain ⟨_, _, _, _, hMr⟩ := HM.out
    have HLow := Lib.hid hMr.low
    have HLw := Lib.hid (Kd.C_below (Kd.C_below HL.out HBB.out) HLow.out)
    clear hMr
    by_cases hlt : q < l.length
    ·have p1 : ((q : Int) < (l.length : Int)) = True := eq_true (by omega)
     obtain ⟨ad, rfl, a0⟩ := nums_at HLw.out q hlt
     have hE := HE.out
     rw [List.drop_eq_getElem_cons hlt] at hE
     change stpT tr (if thT tr l[q] then actsM m2 (rdT tr l[q]).f5 else m2) (l.drop (q + 1)) = _ at hE
     clear HE
     generalize l[q] = i at *
     by_cases ht : thT tr i
     ·rw [if_pos ht] at hE
      have HE2 := Lib.hid hE
      have HTh := Lib.hid ht
      have dt : decide (thT tr i) = true := decide_eq_true ht
      clear hE
      clear ht
      go_wp2_with fail
      refine (mit_any HC.out HM.out _ HZ8.out i).mono ?_
      rw [dt]
      rintro e w7 ⟨rfl, hw7⟩
      obtain rfl := hw7.symm
      have ht := HTh.out
      have hC := HC.out
      obtain ⟨bd, A3, c3, A5, c5, rfl, q0, q1, q2, q3, q4, q5, l3, g3, l5, g5⟩ := PAll.at_T63 hC.M.ct i ht.1 ht.2
      clear hC
      obtain ⟨_, _, _, _, hMr⟩ := HM.out
      obtain ⟨⟨_, _, z3, _⟩, _⟩ := hMr.cells
      have x8 : wo.cell? ⟨w1.heap.size, 0, none⟩ = some (StP wB) := blk_cell HZ8.out 0
      have z5 := (HLow.out.cell (cell_lt q5)).trans q5
      have hmem : rdT tr i ∈ tr := by
       rw [show i = ((i.toNat : Nat) : Int) by have := ht.1; omega, rdT_at (show i.toNat < tr.length by have := ht.1; have := ht.2; omega)]
       exact List.getElem_mem _
      have HL5 := Lib.hid ((few_l HGd.out.2.1).2 _ hmem).1
      have HZ5 := Lib.hid ((few_a HGd.out.2.1).2 _ hmem)
      have HG5 := Lib.hid g5
      have HLc := Lib.hid l5
      have p2 : (0 ≤ i) = True := eq_true ht.1
      have p3 : (i < (tr.length : Int)) = True := eq_true ht.2
      clear q0 q1 q2 q3 q4 q5 l3 g3 l5 g5 hMr hmem a0 ht
      change Hid ((rdT tr i).f5.length ≤ 20) at HL5
      change Hid ((rdT tr i).f5.length ≤ c5) at HLc
      change Hid (ActsC wB A5 (rdT tr i).f5.length (rdT tr i).f5) at HG5
      change wo.cell? _ = some (.slice A5 (rdT tr i).f5.length c5) at z5
      generalize (rdT tr i).f5 = la at *
      go_wp2_with fail
      refine start_ (n := 11) (S := fun w' => w'.cell? ⟨w1.heap.size, 0, none⟩ = some (StP wB) ∧ w'.cell? ⟨wB.heap.size, 3, none⟩ = some (.slice (some bd) tr.length cb) ∧ w'.cell? ⟨(bd.add (i.toNat * 6)).block, (bd.add (i.toNat * 6)).off + 5, none⟩ = some (.slice A5 la.length c5)) (ds := [10]) (tf11 0) (by kernel_rfl) rfl (by kernel_rfl) ⟨x8, z3, z5⟩ (fun hHeld => ?_)
      iterate 2
       refine nxt_ (v := ?_) (a' := ?_) rfl rfl (by kernel_rfl) (fun _ _ _ h => h) (Or.inl ⟨by rfl, ?_⟩) hHeld ?_ ?_
       rotate_left
       ·rintro w' ⟨s0, s1, s2⟩
        go_simp
        first | done | with_reducible rfl
       rotate_left
       ·simp only [Act.put, List.setIfInBounds_toArray, List.set_cons_zero, List.set_cons_succ, i64_w, i32_w]
        first | done | rfl
      iterate 3
       refine pxt_ (v := ?_) (a' := ?_) rfl rfl (by kernel_rfl) (fun _ _ _ h => h) (Or.inl ⟨by rfl, ?_⟩) ?_ ?_
       rotate_left
       ·intro w'
        go_simp
        first | done | with_reducible rfl
       rotate_left
       ·simp only [Act.put, List.setIfInBounds_toArray, List.set_cons_zero, List.set_cons_succ, i64_w, i32_w]
        first | done | rfl
      refine nxt_ (v := ?_) (a' := ?_) rfl rfl (by kernel_rfl) (fun _ _ _ h => h) (Or.inl ⟨by rfl, ?_⟩) hHeld ?_ ?_
      rotate_left
      ·rintro w' ⟨s0, s1, s2⟩
       go_simp
       first | done | with_reducible rfl
      rotate_left
      ·simp only [Act.put, List.setIfInBounds_toArray, List.set_cons_zero, List.set_cons_succ, i64_w, i32_w]
       first | done | rfl
      iterate 3
       refine pxt_ (v := ?_) (a' := ?_) rfl rfl (by kernel_rfl) (fun _ _ _ h => h) (Or.inl ⟨by rfl, ?_⟩) ?_ ?_
       rotate_left
       ·intro w'
        go_simp
        first | done | with_reducible rfl
       rotate_left
       ·simp only [Act.put, List.setIfInBounds_toArray, List.set_cons_zero, List.set_cons_succ, i64_w, i32_w]
        first | done | rfl
      refine nxt_ (v := ?_) (a' := ?_) rfl rfl (by kernel_rfl) (fun _ _ _ h => h) (Or.inl ⟨by rfl, ?_⟩) hHeld ?_ ?_
      rotate_left
      ·rintro w' ⟨s0, s1, s2⟩
       go_simp
       first | done | with_reducible rfl
      rotate_left
      ·simp only [Act.put, List.setIfInBounds_toArray, List.set_cons_zero, List.set_cons_succ, i64_w, i32_w]
       first | done | rfl
      refine last_ (i := 10) (N := some 63) (tf11 11) rfl rfl (by kernel_rfl) (by decide) (fun K hK => ?_)
      refine goes_ Tryz.func67 (by kernel_rfl) rfl #[StP wB, .slice A5 la.length c5] (by rfl) rfl rfl (by first | rfl | (go_simp; done) | (go_simp; exact ⟨rfl, rfl⟩) | (go_simp; rfl)) ?_
      refine (macts_any HC.out (HM.out.below (below_drew (Below.refl _ _))) A5 c5 la HG5.out HLc.out (by have := HL5.out; omega) HZ5.out (by have := HS.out.1; omega) (by have := HS.out.2.1; omega) HS.out.2.2).mono ?_
      rintro e w8 ⟨rfl, h8, k8⟩
      refine ⟨_, rfl, hK.out _ _ ?_⟩
      clear hK K
      refine done_ (by kernel_rfl) ?_
      have HM4 := Lib.hid h8
      have HS4 := Lib.hid (HS.out.acts la HL5.out)
      have HZ8n := Lib.hid (k8 _ _ _ (Or.inr (Or.inl rfl)) HZ8.out)
      have HZ6n := Lib.hid (k8 _ _ _ (Or.inr (Or.inr (Or.inl rfl))) HZ6.out)
      clear h8 k8 x8 z3 z5
      go_wp2_with fail
      go_roundw
      case rel => exact ⟨q + 1, _, by go_num, by omega, HM4, HE2, Lib.hid (HS4.out.mono (by omega) (by omega)), HZ8n, HZ6n⟩
      case measure => first | (simp [intOf]; done) | (simp [intOf]; omega)
     ·rw [if_neg ht] at hE
      have HE2 := Lib.hid hE
      have dt : decide (thT tr i) = false := decide_eq_false ht
      clear hE ht
      go_wp2_with fail
      refine (mit_any HC.out HM.out _ HZ8.out i).mono ?_
      rw [dt]
      rintro e w7 ⟨rfl, hw7⟩
      obtain rfl := hw7.symm
      clear a0
      go_wp2_with fail
      go_roundw
      case rel => exact ⟨q + 1, _, by go_num, by omega, HM, HE2, Lib.hid (HS.out.mono (by omega) (by omega)), HZ8, HZ6⟩
      case measure => first | (simp [intOf]; done) | (simp [intOf]; omega)
    ·obtain rfl : q = l.length := by omega
     have p1 : ((l.length : Int) < (l.length : Int)) = False := eq_false (by omega)
     have HX2 : Hid (m2 = stpB st tr m l) := Lib.hid (by rw [← HE.out, List.drop_length]; rfl)
     have HSm : Hid (Szs m2 300000 300000) := Lib.hid (HS.out.mono (by omega) (by omega))
     have HG3 : Hid (l.foldl (fun x i => if thT tr i ∧ (rdT tr i).f3 ≠ [] then x ||| setP st m2.hist (reaP st tr i) (rdT tr i).f3 else x) 0 = stpE st tr m2.hist l) := Lib.hid rfl
     have HHn2 : Hid (m2.hist.length = st.length ∧ HisOk m2.hist) := Lib.hid (by rw [HX2.out, HHt.out]; exact ⟨HHl.out, HHo.out⟩)
     clear HE HS HHl HHo HHt
     go_wp2_with fail
     go_loopw [10, 67] (fun x i wr => ∃ (q y : Nat), i = .int .i64 q ∧ q ≤ l.length ∧ x = .int .u32 (y : Nat) ∧ y < 4294967296 ∧ Hid ((l.drop q).foldl (fun x i => if thT tr i ∧ (rdT tr i).f3 ≠ [] then x ||| setP st m2.hist (reaP st tr i) (rdT tr i).f3 else x) y = stpE st tr m2.hist l) ∧ Hid (Below wo.heap.size wo wr)) (fun _ i _ => l.length - (intOf i).toNat)
     case atStart => exact ⟨0, 0, rfl, Nat.zero_le _, rfl, by decide, Lib.hid (by rw [List.drop_zero]; exact HG3.out), Lib.hid (Below.refl _ _)⟩
     case round =>
      clear HG3
      obtain ⟨q, y, rfl, hq, rfl, hy, HE, HB⟩ := hrel
      obtain ⟨wr, rfl⟩ : ∃ wx : World, wx = wr := ⟨_, rfl⟩
      have HMr := Lib.hid (HM.out.below HB.out)
      have HZ8r := Lib.hid ((HB.out.block _ (lt_of_block HZ8.out)).trans HZ8.out)
      have HZ6r := Lib.hid ((HB.out.block _ (lt_of_block HZ6.out)).trans HZ6.out)
      have x8 : wr.cell? ⟨w1.heap.size, 0, none⟩ = some (StP wB) := blk_cell HZ8r.out 0
      by_cases hlt : q < l.length
      ·have p1 : ((q : Int) < (l.length : Int)) = True := eq_true (by omega)
       obtain ⟨ad, rfl, a0⟩ := nums_at (Kd.C_below HLw.out HB.out) q hlt
       have hE := HE.out
       rw [List.drop_eq_getElem_cons hlt, List.foldl_cons] at hE
       clear HE
       generalize l[q] = i at *
       by_cases ht : thT tr i
       ·have HTh := Lib.hid ht
        have dt : decide (thT tr i) = true := decide_eq_true ht
        clear ht
        go_wp2_with fail
        refine (mit_any HC.out HMr.out _ HZ8r.out i).mono ?_
        rw [dt]
        rintro e w7 ⟨rfl, hw7⟩
        obtain rfl := hw7.symm
        have ht := HTh.out
        have hC := HC.out
        obtain ⟨bd, A3, c3, A5, c5, rfl, q0, q1, q2, q3, q4, q5, l3, g3, l5, g5⟩ := PAll.at_T63 hC.M.ct i ht.1 ht.2
        have hMr := HMr.out
        obtain ⟨vh, _, _, _, hMr⟩ := hMr
        obtain ⟨⟨_, _, z3, _, z5, _⟩, _⟩ := hMr.cells
        obtain ⟨Ah, ch, rfl⟩ := Kd.R_slice hMr.hist
        obtain ⟨_, hch, hHc⟩ := Kd.R_reads' hMr.hist
        have HHc := Lib.hid hHc
        have HHn : Hid (m2.hist.length ≤ ch ∧ m2.hist.length ≤ 100000 ∧ ∀ x ∈ m2.hist, 0 ≤ x ∧ x < 4294967296) := Lib.hid ⟨hch, by have := HHn2.out.1; omega, HHn2.out.2⟩
        have HTr := Lib.hid (hC.T.below hMr.low)
        have HWr := Lib.hid (hC.Z.below hMr.low)
        have zt := (hMr.low.cell (cell_lt q3)).trans q3
        have hmem : rdT tr i ∈ tr := by
         rw [show i = ((i.toNat : Nat) : Int) by have := ht.1; omega, rdT_at (show i.toNat < tr.length by have := ht.1; have := ht.2; omega)]
         exact List.getElem_mem _
        have hl3 := ((few_l HGd.out.2.1).2 _ hmem).2
        have HL3 : Hid ((rdT tr i).f3.length ≤ c3 ∧ (rdT tr i).f3.length ≤ 1000) := Lib.hid ⟨l3, by omega⟩
        have HG3 : Hid (NumsC wr A3 (rdT tr i).f3.length (rdT tr i).f3) := Lib.hid (Kd.C_below g3 hMr.low)
        have p2 : (0 ≤ i) = True := eq_true ht.1
        have p3 : (i < (tr.length : Int)) = True := eq_true ht.2
        change wr.cell? _ = some (.slice A3 (rdT tr i).f3.length c3) at zt
        clear q0 q1 q2 q3 q4 q5 l3 g3 l5 g5 hMr hmem a0 hl3 hC hch hHc
        by_cases hne : (rdT tr i).f3 = []
        ·rw [if_neg (fun h => h.2 hne)] at hE
         have HE2 := Lib.hid hE
         rw [hne] at zt
         clear hE ht hne HL3 HG3
         go_wp2_with fail
         go_roundw
         case rel => exact ⟨q + 1, y, by go_num, by omega, rfl, hy, HE2, HB⟩
         case measure => first | (simp [intOf]; done) | (simp [intOf]; omega)
        ·rw [if_pos ⟨ht, hne⟩] at hE
         have HE2 := Lib.hid hE
         have hpos : 0 < (rdT tr i).f3.length := List.length_pos_iff.2 hne
         have d4 : decide (((rdT tr i).f3.length : Int) > 0) = true := decide_eq_true (by omega)
         have d4' : decide (0 < ((rdT tr i).f3.length : Int)) = true := decide_eq_true (by omega)
         have d4'' : decide (0 < (rdT tr i).f3.length) = true := decide_eq_true hpos
         clear hE ht hne hpos
         generalize (rdT tr i).f3 = lt at *
         go_wp2_with fail
         refine start_ (n := 22) (S := fun w' => w'.cell? ⟨w1.heap.size, 0, none⟩ = some (StP wB) ∧ w'.cell? ⟨wB.heap.size, 5, none⟩ = some (.slice Ah m2.hist.length ch) ∧ w'.cell? ⟨wB.heap.size, 3, none⟩ = some (.slice (some bd) tr.length cb) ∧ w'.cell? ⟨(bd.add (i.toNat * 6)).block, (bd.add (i.toNat * 6)).off + 3, none⟩ = some (.slice A3 lt.length c3)) (ds := [19]) (tf22 0) (by kernel_rfl) rfl (by kernel_rfl) ⟨x8, z5, z3, zt⟩ (fun hHeld => ?_)
         iterate 2
          refine pxt_ (v := ?_) (a' := ?_) rfl rfl (by kernel_rfl) (fun _ _ _ h => h) (Or.inl ⟨by rfl, ?_⟩) ?_ ?_
          rotate_left
          ·intro w'
           go_simp
           first | done | with_reducible rfl
          rotate_left
          ·simp only [Act.put, List.setIfInBounds_toArray, List.set_cons_zero, List.set_cons_succ, i64_w, i32_w]
           first | done | rfl
         refine nxt_ (v := ?_) (a' := ?_) rfl rfl (by kernel_rfl) (fun _ _ _ h => h) (Or.inl ⟨by rfl, ?_⟩) hHeld ?_ ?_
         rotate_left
         ·rintro w' ⟨s0, s1, s2, s3⟩
          go_simp
          first | done | with_reducible rfl
         rotate_left
         ·simp only [Act.put, List.setIfInBounds_toArray, List.set_cons_zero, List.set_cons_succ, i64_w, i32_w]
          first | done | rfl
         iterate 3
          refine pxt_ (v := ?_) (a' := ?_) rfl rfl (by kernel_rfl) (fun _ _ _ h => h) (Or.inl ⟨by rfl, ?_⟩) ?_ ?_
          rotate_left
          ·intro w'
           go_simp
           first | done | with_reducible rfl
          rotate_left
          ·simp only [Act.put, List.setIfInBounds_toArray, List.set_cons_zero, List.set_cons_succ, i64_w, i32_w]
           first | done | rfl
         refine nxt_ (v := ?_) (a' := ?_) rfl rfl (by kernel_rfl) (fun _ _ _ h => h) (Or.inl ⟨by rfl, ?_⟩) hHeld ?_ ?_
         rotate_left
         ·rintro w' ⟨s0, s1, s2, s3⟩
          go_simp
          first | done | with_reducible rfl
         rotate_left
         ·simp only [Act.put, List.setIfInBounds_toArray, List.set_cons_zero, List.set_cons_succ, i64_w, i32_w]
          first | done | rfl
         iterate 2
          refine pxt_ (v := ?_) (a' := ?_) rfl rfl (by kernel_rfl) (fun _ _ _ h => h) (Or.inl ⟨by rfl, ?_⟩) ?_ ?_
          rotate_left
          ·intro w'
           go_simp
           first | done | with_reducible rfl
          rotate_left
          ·simp only [Act.put, List.setIfInBounds_toArray, List.set_cons_zero, List.set_cons_succ, i64_w, i32_w]
           first | done | rfl
         refine take_ (i := 10) (N := some 97) (v := ?_) (a' := ?_) (bm22 1535) rfl rfl (by kernel_rfl) (fun _ _ _ h => h) (Or.inl ⟨by rfl, ?_⟩) hHeld ?_ ?_
         rotate_left
         ·rintro w' ⟨s0, s1, s2, s3⟩
          go_simp
          with_reducible rfl
         rotate_left
         ·simp only [Act.put, List.setIfInBounds_toArray, List.set_cons_zero, List.set_cons_succ, i64_w, i32_w]
          rfl
         refine pure_ (i := 11) (N := some 98) (v := ?_) (a' := ?_) (bm22 3583) rfl rfl (by kernel_rfl) (fun _ _ _ h => h) (Or.inl ⟨by rfl, ?_⟩) ?_ ?_
         rotate_left
         ·intro w'
          go_simp
          with_reducible rfl
         rotate_left
         ·simp only [Act.put, List.setIfInBounds_toArray, List.set_cons_zero, List.set_cons_succ, i64_w, i32_w]
          rfl
         refine pure_ (i := 12) (N := some 99) (v := ?_) (a' := ?_) (bm22 7679) rfl rfl (by kernel_rfl) (fun _ _ _ h => h) (Or.inl ⟨by rfl, ?_⟩) ?_ ?_
         rotate_left
         ·intro w'
          go_simp
          with_reducible rfl
         rotate_left
         ·simp only [Act.put, List.setIfInBounds_toArray, List.set_cons_zero, List.set_cons_succ, i64_w, i32_w]
          rfl
         refine pure_ (i := 13) (N := some 100) (v := ?_) (a' := ?_) (bm22 15871) rfl rfl (by kernel_rfl) (fun _ _ _ h => h) (Or.inl ⟨by rfl, ?_⟩) ?_ ?_
         rotate_left
         ·intro w'
          go_simp
          with_reducible rfl
         rotate_left
         ·simp only [Act.put, List.setIfInBounds_toArray, List.set_cons_zero, List.set_cons_succ, i64_w, i32_w]
          rfl
         refine take_ (i := 14) (N := some 101) (v := ?_) (a' := ?_) (bm22 32255) rfl rfl (by kernel_rfl) (fun _ _ _ h => h) (Or.inl ⟨by rfl, ?_⟩) hHeld ?_ ?_
         rotate_left
         ·rintro w' ⟨s0, s1, s2, s3⟩
          go_simp
          with_reducible rfl
         rotate_left
         ·simp only [Act.put, List.setIfInBounds_toArray, List.set_cons_zero, List.set_cons_succ, i64_w, i32_w]
          rfl
         refine pure_ (i := 15) (N := some 102) (v := ?_) (a' := ?_) (bm22 65023) rfl rfl (by kernel_rfl) (fun _ _ _ h => h) (Or.inl ⟨by rfl, ?_⟩) ?_ ?_
         rotate_left
         ·intro w'
          go_simp
          with_reducible rfl
         rotate_left
         ·simp only [Act.put, List.setIfInBounds_toArray, List.set_cons_zero, List.set_cons_succ, i64_w, i32_w]
          rfl
         refine pure_ (i := 16) (N := some 103) (v := ?_) (a' := ?_) (bm22 130559) rfl rfl (by kernel_rfl) (fun _ _ _ h => h) (Or.inl ⟨by rfl, ?_⟩) ?_ ?_
         rotate_left
         ·intro w'
          go_simp
          with_reducible rfl
         rotate_left
         ·simp only [Act.put, List.setIfInBounds_toArray, List.set_cons_zero, List.set_cons_succ, i64_w, i32_w]
          rfl
         refine pure_ (i := 17) (N := some 104) (v := ?_) (a' := ?_) (bm22 261631) rfl rfl (by kernel_rfl) (fun _ _ _ h => h) (Or.inl ⟨by rfl, ?_⟩) ?_ ?_
         rotate_left
         ·intro w'
          go_simp
          with_reducible rfl
         rotate_left
         ·simp only [Act.put, List.setIfInBounds_toArray, List.set_cons_zero, List.set_cons_succ, i64_w, i32_w]
          rfl
         refine take_ (i := 18) (N := some 105) (v := ?_) (a' := ?_) (bm22 523775) rfl rfl (by kernel_rfl) (fun _ _ _ h => h) (Or.inl ⟨by rfl, ?_⟩) hHeld ?_ ?_
         rotate_left
         ·rintro w' ⟨s0, s1, s2, s3⟩
          go_simp
          with_reducible rfl
         rotate_left
         ·simp only [Act.put, List.setIfInBounds_toArray, List.set_cons_zero, List.set_cons_succ, i64_w, i32_w]
          rfl
         refine one_ (i := 9) (N := some 96) (tf22 19) rfl rfl (by kernel_rfl) (by decide) (fun K hK => ?_)
         refine goes_ Tryz.func68 (by kernel_rfl) rfl #[.pointer (some ⟨g, 0, none⟩), .int .i64 i] (by rfl) rfl rfl (by first | rfl | (go_simp; done) | (go_simp; exact ⟨rfl, rfl⟩) | (go_simp; rfl)) ?_
         refine (reach_any (HTr.out.below (below_drew (Below.refl _ _))) HGd.out.1 HGd.out.2.1 i).mono ?_
         rintro e w8 ⟨rfl, hb8⟩
         have HB8 := Lib.hid (below_then (below_drew (Below.refl _ _)) (Nat.le_refl _) hb8)
         refine ⟨_, rfl, hK.out _ _ ⟨(HB8.out.cell (cell_lt x8)).trans x8, (HB8.out.cell (cell_lt z5)).trans z5, (HB8.out.cell (cell_lt z3)).trans z3, (HB8.out.cell (cell_lt zt)).trans zt⟩ (fun hS8 => ?_)⟩
         clear hK K hHeld hb8 x8 z5 z3 zt
         refine last_ (i := 19) (N := some 106) (tf22 20) rfl rfl (by kernel_rfl) (by decide) (fun K hK => ?_)
         refine goes_ Tryz.func13 (by kernel_rfl) rfl #[.pointer (some ⟨g, 0, none⟩), .slice Ah m2.hist.length ch, .int .i64 (reaP st tr i), .slice A3 lt.length c3] (by rfl) rfl rfl (by first | rfl | (go_simp; done) | (go_simp; exact ⟨rfl, rfl⟩) | (go_simp; rfl)) ?_
         refine (eset_any _ (HWr.out.below HB8.out) (HTr.out.below HB8.out) HGd.out.1 HGd.out.2.1 (Kd.C_below HHc.out HB8.out) HHn.out.1 HHn.out.2.1 HHn.out.2.2 (reaP st tr i) A3 c3 lt (Kd.C_below HG3.out HB8.out) HL3.out.1 HL3.out.2).mono ?_
         rintro e w9 ⟨rfl, hlt9, hb9⟩
         have HB9 := Lib.hid (below_then HB8.out HB8.out.size hb9)
         have e1 : bits BinOp.or IntKind.u32 (y : Int) ((setP st m2.hist (reaP st tr i) lt : Nat) : Int) = ((y ||| setP st m2.hist (reaP st tr i) lt : Nat) : Int) := u32_or_nat _ _ hy hlt9
         refine ⟨_, rfl, hK.out _ _ ?_⟩
         clear hK K hS8 hb9
         refine pure_ (i := 20) (N := some 107) (v := ?_) (a' := ?_) (tf22 21) rfl rfl (by kernel_rfl) (fun _ _ _ h => h) (Or.inl ⟨by rfl, ?_⟩) ?_ ?_
         rotate_left
         ·intro w'
          go_simp
          first | done | with_reducible rfl | (simp only [e1]; first | done | with_reducible rfl)
         rotate_left
         ·simp only [Act.put, List.setIfInBounds_toArray, List.set_cons_zero, List.set_cons_succ, i64_w, i32_w]
          rfl
         refine pxt_ (v := ?_) (a' := ?_) rfl rfl (by kernel_rfl) (fun _ _ _ h => h) (Or.inl ⟨by rfl, ?_⟩) ?_ ?_
         rotate_left
         ·intro w'
          go_simp
          first | done | with_reducible rfl
         rotate_left
         ·simp only [Act.put, List.setIfInBounds_toArray, List.set_cons_zero, List.set_cons_succ, i64_w, i32_w]
          first | done | rfl
         refine done_ (by kernel_rfl) ?_
         have hlt2 : y ||| setP st m2.hist (reaP st tr i) lt < 4294967296 := Nat.or_lt_two_pow (n := 32) hy hlt9
         have HBn := Lib.hid (below_then HB.out HB.out.size HB9.out)
         clear HB9 HB8 e1 hlt9
         go_wp2_with fail
         go_roundw
         case rel => exact ⟨q + 1, y ||| setP st m2.hist (reaP st tr i) lt, by go_num, by omega, rfl, hlt2, HE2, HBn⟩
         case measure => first | (simp [intOf]; done) | (simp [intOf]; omega)
       ·rw [if_neg (fun h => ht h.1)] at hE
        have HE2 := Lib.hid hE
        have dt : decide (thT tr i) = false := decide_eq_false ht
        clear hE ht
        go_wp2_with fail
        refine (mit_any HC.out HMr.out _ HZ8r.out i).mono ?_
        rw [dt]
        rintro e w7 ⟨rfl, hw7⟩
        obtain rfl := hw7.symm
        clear a0
        go_wp2_with fail
        go_roundw
        case rel => exact ⟨q + 1, y, by go_num, by omega, rfl, hy, HE2, HB⟩
        case measure => first | (simp [intOf]; done) | (simp [intOf]; omega)
      ·obtain rfl : q = l.length := by omega
       have p1 : ((l.length : Int) < (l.length : Int)) = False := eq_false (by omega)
       have HX3 : Hid (y = stpE st tr m2.hist l) := Lib.hid (by rw [← HE.out, List.drop_length]; rfl)
       clear HE
       go_wp2_with fail
       refine (ment_any HC.out HMr.out y hy (HSm.out.mono (by omega) (by omega))).mono ?_
       rintro e w8 ⟨rfl, h8, k8⟩
       have HMe : Hid (entM st y m2 = stpM st tr m l) := Lib.hid (by rw [HX3.out, HX2.out]; rfl)
       obtain ⟨M, hM⟩ : ∃ M, M = stpM st tr m l := ⟨_, rfl⟩
       rw [HMe.out, ← hM] at h8
       have HMM := Lib.hid hM
       clear hM
       have HZ8n := Lib.hid (k8 _ _ _ (Or.inr (Or.inl rfl)) HZ8r.out)
       have HZ6n := Lib.hid (k8 _ _ _ (Or.inr (Or.inr (Or.inl rfl))) HZ6r.out)
       clear k8 x8
       obtain ⟨vh, ve, vi, vo, hR⟩ := h8
       have HR := Lib.hid hR
       obtain ⟨⟨_, _, _, z4, z5, z6, z7, z8, z9⟩, _⟩ := hR.cells
       obtain ⟨A1, k1, rfl⟩ := Kd.R_slice hR.hist
       obtain ⟨A2, k2, rfl⟩ := Kd.R_slice hR.env
       obtain ⟨A3, k3, rfl⟩ := Kd.R_slice hR.inn
       obtain ⟨A4, k4, rfl⟩ := Kd.R_slice hR.out
       have x8 : w8.cell? ⟨w1.heap.size, 0, none⟩ = some (StP wB) := blk_cell HZ8n.out 0
       obtain ⟨q0, q1, q2, q3, q4⟩ : w8.cell? ⟨w.heap.size + 1, 0, none⟩ = some (.int .u32 0) ∧ w8.cell? ⟨w.heap.size + 1, 1, none⟩ = some (.slice none 0 0) ∧ w8.cell? ⟨w.heap.size + 1, 2, none⟩ = some (.slice none 0 0) ∧ w8.cell? ⟨w.heap.size + 1, 3, none⟩ = some (.slice none 0 0) ∧ w8.cell? ⟨w.heap.size + 1, 4, none⟩ = some (.int .i64 0) := ⟨blk_cell HZ6n.out 0, blk_cell HZ6n.out 1, blk_cell HZ6n.out 2, blk_cell HZ6n.out 3, blk_cell HZ6n.out 4⟩
       obtain ⟨f0, f1, f2, f3, f4⟩ : w8.frozen? ⟨w.heap.size + 1, 0, none⟩ = false ∧ w8.frozen? ⟨w.heap.size + 1, 1, none⟩ = false ∧ w8.frozen? ⟨w.heap.size + 1, 2, none⟩ = false ∧ w8.frozen? ⟨w.heap.size + 1, 3, none⟩ = false ∧ w8.frozen? ⟨w.heap.size + 1, 4, none⟩ = false := ⟨blk_free HZ6n.out 0, blk_free HZ6n.out 1, blk_free HZ6n.out 2, blk_free HZ6n.out 3, blk_free HZ6n.out 4⟩
       have hn1 : w1.heap.size ≠ w.heap.size + 1 := fun e => by
        have h1 := HZ8n.out
        rw [e, HZ6n.out] at h1
        exact absurd h1 (by simp)
       have hnB : wB.heap.size ≠ w.heap.size + 1 := fun e => by
        have h1 := hR.blk
        rw [e, HZ6n.out] at h1
        exact absurd h1 (by simp)
       clear hR HMe HX2 HX3 HMr HZ8r HZ6r HSm HHn2 HLw HLow
       go_wp2_with fail
       refine start_ (n := 10) (S := fun w' => w'.cell? ⟨w1.heap.size, 0, none⟩ = some (StP wB) ∧ w'.cell? ⟨wB.heap.size, 4, none⟩ = some (.int .u32 (M.conf : Nat)) ∧ w'.cell? ⟨wB.heap.size, 5, none⟩ = some (.slice A1 M.hist.length k1) ∧ w'.cell? ⟨wB.heap.size, 6, none⟩ = some (.slice A2 M.env.length k2) ∧ w'.cell? ⟨wB.heap.size, 7, none⟩ = some (.slice A3 M.inn.length k3) ∧ w'.cell? ⟨wB.heap.size, 8, none⟩ = some (.int .i64 M.stat) ∧ w'.cell? ⟨wB.heap.size, 9, none⟩ = some (.slice A4 M.out.length k4)) (ds := []) (tf10 0) (by kernel_rfl) rfl (by kernel_rfl) ⟨x8, z4, z5, z6, z7, z8, z9⟩ (fun hHeld => ?_)
       iterate 8
        refine nxt_ (v := ?_) (a' := ?_) rfl rfl (by kernel_rfl) (fun _ _ _ h => h) (Or.inl ⟨by rfl, ?_⟩) hHeld ?_ ?_
        rotate_left
        ·rintro w' ⟨s0, s1, s2, s3, s4, s5, s6⟩
         go_simp
         first | done | with_reducible rfl
        rotate_left
        ·simp only [Act.put, List.setIfInBounds_toArray, List.set_cons_zero, List.set_cons_succ, i64_w, i32_w]
         first | done | rfl
       refine one_ (i := 8) (N := none) (tf10 9) rfl rfl (by kernel_rfl) (by decide) (fun K hK => ?_)
       refine skip_ (w1 := ?_) (by rfl) rfl ?_ ?_
       rotate_left
       ·go_simp
        rfl
       refine hK.out _ _ ⟨(far5d (w := w8) (a := ⟨w1.heap.size, 0, none⟩) (b := w.heap.size + 1) hn1 _ _ _ _ _).trans x8, (far5d (w := w8) (a := ⟨wB.heap.size, 4, none⟩) (b := w.heap.size + 1) hnB _ _ _ _ _).trans z4, (far5d (w := w8) (a := ⟨wB.heap.size, 5, none⟩) (b := w.heap.size + 1) hnB _ _ _ _ _).trans z5, (far5d (w := w8) (a := ⟨wB.heap.size, 6, none⟩) (b := w.heap.size + 1) hnB _ _ _ _ _).trans z6, (far5d (w := w8) (a := ⟨wB.heap.size, 7, none⟩) (b := w.heap.size + 1) hnB _ _ _ _ _).trans z7, (far5d (w := w8) (a := ⟨wB.heap.size, 8, none⟩) (b := w.heap.size + 1) hnB _ _ _ _ _).trans z8, (far5d (w := w8) (a := ⟨wB.heap.size, 9, none⟩) (b := w.heap.size + 1) hnB _ _ _ _ _).trans z9⟩ (fun _ => ?_)
       clear hK K
       refine pxt_ (v := ?_) (a' := ?_) rfl rfl (by kernel_rfl) (fun _ _ _ h => h) (Or.inl ⟨by rfl, ?_⟩) ?_ ?_
       rotate_left
       ·intro w'
        go_simp
        first | done | with_reducible rfl
       rotate_left
       ·simp only [Act.put, List.setIfInBounds_toArray, List.set_cons_zero, List.set_cons_succ, i64_w, i32_w]
        first | done | rfl
       refine done_ (by kernel_rfl) ?_
       go_wp2_with fail
       have hB8 : Below w.heap.size w w8 := below_then HBB.out HBB.out.size HR.out.low
       have hBz := HBB.out.size
       obtain ⟨W, hW⟩ : ∃ W : World, W = set5 w8 (w.heap.size + 1) (.int .u32 (M.conf : Nat)) (.slice A1 M.hist.length k1) (.slice A2 M.env.length k2) (.slice A3 M.inn.length k3) (.int .i64 M.stat) := ⟨_, rfl⟩
       have hk := set5_blk HZ6n.out (.int .u32 (M.conf : Nat)) (.slice A1 M.hist.length k1) (.slice A2 M.env.length k2) (.slice A3 M.inn.length k3) (.int .i64 M.stat)
       have hr1 := R_set5 (Kd.R_lower HR.out.hist hBz) HZ6n.out (by decide) (.int .u32 (M.conf : Nat)) (.slice A1 M.hist.length k1) (.slice A2 M.env.length k2) (.slice A3 M.inn.length k3) (.int .i64 M.stat)
       have hr2 := R_set5 (Kd.R_lower HR.out.env hBz) HZ6n.out (by decide) (.int .u32 (M.conf : Nat)) (.slice A1 M.hist.length k1) (.slice A2 M.env.length k2) (.slice A3 M.inn.length k3) (.int .i64 M.stat)
       have hr3 := R_set5 (Kd.R_lower HR.out.inn hBz) HZ6n.out (by decide) (.int .u32 (M.conf : Nat)) (.slice A1 M.hist.length k1) (.slice A2 M.env.length k2) (.slice A3 M.inn.length k3) (.int .i64 M.stat)
       have hr4 := R_set5 (Kd.R_lower HR.out.out hBz) HZ6n.out (out_q (by decide)) (.int .u32 (M.conf : Nat)) (.slice A1 M.hist.length k1) (.slice A2 M.env.length k2) (.slice A3 M.inn.length k3) (.int .i64 M.stat)
       have hbW := set5_below hB8 (b := w.heap.size + 1) (by omega) (.int .u32 (M.conf : Nat)) (.slice A1 M.hist.length k1) (.slice A2 M.env.length k2) (.slice A3 M.inn.length k3) (.int .i64 M.stat)
       rw [← hW] at hk hr1 hr2 hr3 hr4 hbW
       unfold set5 at hW
       rw [← hW]
       clear hW q0 q1 q2 q3 q4 f0 f1 f2 f3 f4 z4 z5 z6 z7 z8 z9 x8 hn1 hnB hB8 hBz
       have hk2 : W.drew.heap[w.heap.size + 1]? = some (.cells #[.int .u32 (M.conf : Nat), .slice A1 M.hist.length k1, .slice A2 M.env.length k2, .slice A3 M.inn.length k3, .int .i64 M.stat] 46 (0, 0)) := hk
       refine bodyPost_ret (results_ct rfl _ _ (w.heap.size + 1) 46 #[.int .u32 _, .slice _ _ _, .slice _ _ _, .slice _ _ _, .int .i64 _] (0, 0) _ rfl hk2 Tryz.underlying46 rfl (by kernel_rfl)) rfl ?_
       rw [← HMM.out]
       exact ⟨_, _, _, _, rfl, Kd.R_drew hr1, Kd.R_drew hr2, Kd.R_drew hr3, Kd.R_drew hr4, below_drew hbW⟩
end
end Go.Proofs.YtikilglbhnplaaaGreatDoor
end
section
namespace Go.Proofs.YtikilglbhnplaaaGreatDoor
open Go.RowKit Go.Proofs.YtikilglbhnplaaaGreatDoorW.PrintWords
section
variable {v : Int} {st : List Sta} {tr : List Tra}
theorem stpT_size (few : fewP st tr = true) (l : List Int) : ∀ (m : Ses) (I O : Nat), Szs m I O → Szs (stpT tr m l) (I + 21 * l.length) (O + 20 * l.length) := by
 induction l with
 | nil => intro m I O h; exact h
 | cons i l ih =>
  intro m I O h
  have e : stpT tr m (i :: l) = stpT tr (if thT tr i then actsM m (rdT tr i).f5 else m) l := rfl
  rw [e]
  have h1 : Szs (if thT tr i then actsM m (rdT tr i).f5 else m) (I + 21) (O + 20) := by
   split
   ·rename_i ht
    have hmem : rdT tr i ∈ tr := by
     rw [show i = ((i.toNat : Nat) : Int) by have := ht.1; omega, rdT_at (show i.toNat < tr.length by have := ht.1; have := ht.2; omega)]
     exact List.getElem_mem _
    exact h.acts _ ((few_l few).2 _ hmem).1
   ·obtain ⟨a, b, c⟩ := h
    exact ⟨by omega, by omega, c⟩
  obtain ⟨a, b, c⟩ := ih _ _ _ h1
  simp only [List.length_cons]
  exact ⟨by omega, by omega, c⟩
theorem entN_size (few : fewP st tr = true) (set : Nat) (m : Ses) (I O : Nat) (h : Szs m I O) : ∀ q : Nat, q ≤ st.length → Szs (entN st set m q) (I + 23 * q) (O + 20 * q) ∧ (entN st set m q).hist = m.hist := by
 intro q
 induction q with
 | zero => intro _; exact ⟨h, rfl⟩
 | succ q ih =>
  intro hq
  obtain ⟨ih, ih2⟩ := ih (by omega)
  show Szs (entS st set (entN st set m q) q) _ _ ∧ (entS st set (entN st set m q) q).hist = _
  have hA : Szs (entA st (entN st set m q) q) (I + 23 * q + 21) (O + 20 * q + 20) := Szs.acts (m := { entN st set m q with conf := (entN st set m q).conf ||| 2 ^ q }) ih _ ((few_l few).1 _ (rdS_in (by omega))).1
  have hA2 : (entA st (entN st set m q) q).hist = m.hist := ih2
  unfold entS
  split
  ·split
   ·obtain ⟨⟨a, b, c⟩, h2, _⟩ := Szs.fin (st := st) hA (q : Int)
    exact ⟨⟨by omega, by omega, c⟩, h2.trans hA2⟩
   ·obtain ⟨a, b, c⟩ := hA
    exact ⟨⟨by omega, by omega, c⟩, hA2⟩
  ·obtain ⟨a, b, c⟩ := ih
   exact ⟨⟨by omega, by omega, c⟩, ih2⟩
theorem stp_size (few : fewP st tr = true) (hn : st.length ≤ 24) (m : Ses) (I : Nat) (hi : m.inn.length ≤ I) (he : m.env.length ≤ 1000) (hc : m.conf < 4294967296) (hok : HisOk m.hist) (hl : m.hist.length ≤ st.length) (l : List Int) :
  Szs (stpM st tr m l) (I + 1056 + 21 * l.length) (960 + 20 * l.length) ∧ HisOk (stpM st tr m l).hist ∧ (stpM st tr m l).hist.length = st.length := by
 obtain ⟨a1, a2, _⟩ := lvD_has st (stpL st tr m.conf l) (fun x hx => ((few_l few).1 x hx).2.1) st.length { m with hist := recN st m.conf (stpL st tr m.conf l) (padH st m.hist) st.length, out := [] } I 0 (Nat.le_refl _) ⟨hi, Nat.le_refl _, he⟩
 have hB : stpB st tr m l = stpT tr (lvD st (stpL st tr m.conf l) st.length { m with hist := recN st m.conf (stpL st tr m.conf l) (padH st m.hist) st.length, out := [] }) l := rfl
 have b1 := stpT_size (tr := tr) few l _ _ _ a1
 rw [← hB] at b1
 have b2 := (stpT_same (tr := tr) l (lvD st (stpL st tr m.conf l) st.length { m with hist := recN st m.conf (stpL st tr m.conf l) (padH st m.hist) st.length, out := [] })).2
 rw [← hB, a2] at b2
 obtain ⟨⟨c1, c2, c3⟩, c4⟩ := entN_size few (stpE st tr (stpB st tr m l).hist l) (stpB st tr m l) _ _ b1 st.length (Nat.le_refl _)
 have hM : stpM st tr m l = entN st (stpE st tr (stpB st tr m l).hist l) (stpB st tr m l) st.length := rfl
 rw [← hM] at c1 c2 c3 c4
 have e : (stpM st tr m l).hist = recN st m.conf (stpL st tr m.conf l) (padH st m.hist) st.length := c4.trans b2
 refine ⟨⟨by omega, by omega, c3⟩, ?_, ?_⟩
 ·rw [e]
  refine recN_ok hn hc _ (fun x hx => ?_) _
  unfold padH at hx
  rcases List.mem_append.1 hx with hx | hx
  ·exact hok x hx
  ·rw [(List.mem_replicate.1 hx).2]; omega
 ·rw [e, recN_len]; unfold padH; simp; omega
theorem scT_few (env : List Int) (ev s : Int) (r : List Tra) : ∀ (i : Int) (n : Nat), (scT env ev s r i n).2 ≤ n + r.length := by
 induction r with
 | nil => intro i n; exact Nat.le_refl _
 | cons x r ih =>
  intro i n
  have h01 : ∀ b, one01 b n ≤ n + 1 := fun b => by unfold one01; split <;> omega
  simp only [scT, List.length_cons]
  split
  ·have := ih (i + 1) n; omega
  ·split
   ·have := h01 (rdyP x env ev).2; simp only; omega
   ·have := ih (i + 1) (one01 (rdyP x env ev).2 n); have := h01 (rdyP x env ev).2; omega
theorem scS_few (env : List Int) (ev : Int) (l : List Int) : ∀ n : Nat, (scS tr env ev l n).2 ≤ n + l.length * tr.length := by
 induction l with
 | nil => intro n; simp [scS]
 | cons s l ih =>
  intro n
  have h := scT_few env ev s tr 0 n
  have e : (s :: l).length * tr.length = l.length * tr.length + tr.length := by rw [List.length_cons, Nat.succ_mul]
  simp only [scS]
  split
  ·omega
  ·have := ih (scT env ev s tr 0 n).2; omega
theorem gaF_few (env : List Int) (ev : Int) (K : Nat) (l : List Int) (hl : ∀ a ∈ l, (a :: upP st a).length ≤ K) : ∀ (out : List Int) (n : Nat), (gaF st tr env ev l out n).2 ≤ n + l.length * (K * tr.length) := by
 induction l with
 | nil => intro out n; simp [gaF]
 | cons a l ih =>
  intro out n
  simp only [gaF]
  have h1 := ih (fun b hb => hl b (List.mem_cons_of_mem _ hb)) (addI out (scS tr env ev (a :: upP st a) n).1) (scS tr env ev (a :: upP st a) n).2
  have h2 := scS_few (tr := tr) env ev (a :: upP st a) n
  have h3 : (a :: upP st a).length * tr.length ≤ K * tr.length := Nat.mul_le_mul_right _ (hl a (List.mem_cons_self ..))
  have e : (a :: l).length * (K * tr.length) = l.length * (K * tr.length) + K * tr.length := by rw [List.length_cons, Nat.succ_mul]
  omega
theorem ga_few (good : chkP v st tr = .none) (set : Nat) (env : List Int) (ev : Int) : (gaP st tr set env ev).2 ≤ 24000 := by
 obtain ⟨⟨_, _, _, hn, ht⟩, _⟩ := chk_none good
 have h := gaF_few (st := st) (tr := tr) env ev 25 (lvP st set) (fun a ha => by
  obtain ⟨n, rfl, h1, _⟩ := lvP_in ha
  have h1 : n < st.length := h1
  have h2 : (upP st (n : Int)).length ≤ (n : Int).toNat + 1 := upF_len st _ _
  simp only [List.length_cons]
  omega) [] 0
 have hl : (lvP st set).length ≤ 24 := Nat.le_trans (lvN_len st set st.length) hn
 have h2 : (lvP st set).length * (25 * tr.length) ≤ 24 * (25 * 40) := Nat.mul_le_mul hl (Nat.mul_le_mul_left _ ht)
 unfold gaP
 omega
theorem gaF_len' (env : List Int) (ev : Int) (l : List Int) : ∀ (out : List Int) (n : Nat), (gaF st tr env ev l out n).1.length ≤ out.length + l.length := by
 induction l with
 | nil => intro out n; simp [gaF]
 | cons a l ih =>
  intro out n
  simp only [gaF, List.length_cons]
  have h1 := ih (addI out (scS tr env ev (a :: upP st a) n).1) (scS tr env ev (a :: upP st a) n).2
  have h2 := addI_len out (scS tr env ev (a :: upP st a) n).1
  omega
theorem siF_len' (set : Nat) (l : List Int) : ∀ kept : List Int, (siF st tr set l kept).length ≤ kept.length + l.length := by
 induction l with
 | nil => intro kept; simp [siF]
 | cons i l ih =>
  intro kept
  simp only [siF, List.length_cons]
  split
  ·have := ih kept; omega
  ·split
   ·have h1 := ih (sift kept (siK st tr set i kept []).2 i)
    have h2 : (sift kept (siK st tr set i kept []).2 i).length ≤ kept.length + 1 := by
     unfold sift
     have := List.length_filter_le (fun k => !(siK st tr set i kept []).2.contains k) kept
     rw [List.length_append, List.length_singleton]; omega
    omega
   ·have := ih kept; omega
theorem ga_len (hn : st.length ≤ 24) (set : Nat) (env : List Int) (ev : Int) : (gaP st tr set env ev).1.length ≤ 24 := by
 have h := gaF_len' (st := st) (tr := tr) env ev (lvP st set) [] 0
 have hl : (lvP st set).length ≤ 24 := Nat.le_trans (lvN_len st set st.length) hn
 unfold gaP
 simp only [List.length_nil] at h
 omega
theorem tkn_len (hn : st.length ≤ 24) (m : Ses) (ev : Int) : (tknM st tr m ev).length ≤ 24 := by
 have h := siF_len' (st := st) (tr := tr) m.conf (gaP st tr m.conf m.env ev).1 []
 have h2 := ga_len (tr := tr) hn m.conf m.env ev
 unfold tknM siP
 simp only [List.length_nil] at h
 omega
theorem lvD_lt (set : Nat) : ∀ (q : Nat) (m : Ses), m.conf < 4294967296 → (lvD st set q m).conf < 4294967296 := by
 intro q
 induction q with
 | zero => intro m h; exact h
 | succ q ih =>
  intro m h
  simp only [lvD]
  refine ih _ ?_
  split
  ·exact Nat.lt_of_le_of_lt Nat.and_le_left h
  ·exact h
theorem entN_lt (set : Nat) (m : Ses) (h : m.conf < 4294967296) : ∀ q : Nat, q ≤ 32 → (entN st set m q).conf < 4294967296 := by
 intro q
 induction q with
 | zero => intro _; exact h
 | succ q ih =>
  intro hq
  have ih := ih (by omega)
  show (entS st set (entN st set m q) q).conf < _
  have hA : (entA st (entN st set m q) q).conf < 4294967296 := by
   show (entN st set m q).conf ||| 2 ^ q < 4294967296
   exact Nat.or_lt_two_pow (n := 32) ih (Nat.pow_lt_pow_right (by omega) (by omega))
  unfold entS
  split
  ·split
   ·unfold finM
    split
    ·exact hA
    ·split <;> exact hA
   ·exact hA
  ·exact ih
theorem stp_lt (hn : st.length ≤ 24) (m : Ses) (hc : m.conf < 4294967296) (l : List Int) : (stpM st tr m l).conf < 4294967296 := by
 refine entN_lt _ _ ?_ _ (by omega)
 unfold stpB
 rw [(stpT_same l _).1]
 exact lvD_lt _ _ _ hc
theorem rnd_lt (hn : st.length ≤ 24) (m : Ses) (hc : m.conf < 4294967296) (fuel : Nat) (ev : Int) : (rndM st tr m fuel ev).1.conf < 4294967296 := by
 unfold rndM
 split
 ·exact hc
 ·simp only
  rw [(tooL_same _).1]
  unfold rndS
  split
  ·exact hc
  ·have h := stp_lt (tr := tr) hn { m with inn := m.inn ++ List.replicate (gaP st tr m.conf m.env ev).2 1001 } hc (tknM st tr m ev)
   exact h
structure RnI (st : List Sta) (m : Ses) (I O : Nat) : Prop where
 inn : m.inn.length ≤ I
 out : m.out.length ≤ O
 env : m.env.length ≤ 1000
 ok : HisOk m.hist
 len : m.hist.length ≤ st.length
theorem RnI.mono {m : Ses} {I O I' O' : Nat} (h : RnI st m I O) (h1 : I ≤ I') (h2 : O ≤ O') : RnI st m I' O' := ⟨Nat.le_trans h.inn h1, Nat.le_trans h.out h2, h.env, h.ok, h.len⟩
theorem rnd_size (good : chkP v st tr = .none) (few : fewP st tr = true) {m : Ses} (hc : m.conf < 4294967296) {O : Nat} (h : RnI st m 2000 O) (fuel : Nat) (ev : Int) : RnI st (rndM st tr m fuel ev).1 30000 (O + 2000) ∧ ((rndM st tr m fuel ev).1.stat = 1 → (rndM st tr m fuel ev).1.inn.length ≤ 50) := by
 have hn := (chk_none good).1.2.2.2.1
 have hg := ga_few good m.conf m.env ev
 have hk := tkn_len (tr := tr) hn m ev
 unfold rndM
 split
 ·exact ⟨⟨Nat.le_trans h.inn (by decide), by have := h.out; simp only; omega, h.env, h.ok, h.len⟩, fun e => absurd e (by simp)⟩
 ·have key : RnI st (rndS st tr m (tknM st tr m ev) (gaP st tr m.conf m.env ev).2) 30000 (O + 2000) := by
   generalize tknM st tr m ev = l at *
   generalize (gaP st tr m.conf m.env ev).2 = n at *
   have h1 := h.inn
   have h2 := h.out
   unfold rndS
   split
   ·exact ⟨by simp only [List.length_append, List.length_replicate]; omega, by simp only; omega, h.env, h.ok, h.len⟩
   ·obtain ⟨⟨s1, s2, s3⟩, s4, s5⟩ := stp_size (tr := tr) few hn { m with inn := m.inn ++ List.replicate n 1001 } 26000 (by simp only [List.length_append, List.length_replicate]; omega) h.env hc h.ok h.len l
    exact ⟨by simp only; omega, by simp only [List.length_append]; omega, s3, s4, Nat.le_of_eq s5⟩
  generalize rndS st tr m (tknM st tr m ev) (gaP st tr m.conf m.env ev).2 = m1 at *
  obtain ⟨_, t2, t3, t4, t5⟩ := tooL_same m1
  refine ⟨⟨by simp only; rw [t4]; exact key.inn, by simp only; rw [t5]; exact key.out, by simp only; rw [t3]; exact key.env, by simp only; rw [t2]; exact key.ok, by simp only; rw [t2]; exact key.len⟩, fun e => ?_⟩
  simp only at e ⊢
  rw [t4]
  unfold tooL at e
  split at e
  ·exact absurd e (by simp)
  ·omega
theorem fst_size (good : chkP v st tr = .none) (few : fewP st tr = true) : RnI st (fstM v st) 2000 2000 ∧ (fstM v st).conf < 4294967296 := by
 obtain ⟨⟨h0, h8, _, hn, _⟩, _⟩ := chk_none good
 have hz : Szs (ses0 st v) 0 0 := ⟨Nat.le_refl _, Nat.le_refl _, by show (List.replicate v.toNat (0 : Int)).length ≤ 1000; simp; omega⟩
 obtain ⟨a1, a2⟩ := entN_size few 1 (ses0 st v) 0 0 hz st.length (Nat.le_refl _)
 have b1 := entN_lt (st := st) 1 (ses0 st v) (by show (0 : Nat) < _; decide) st.length (by omega)
 obtain ⟨⟨c1, c2, c3⟩, c4⟩ := entN_size few (setP st (entM st 1 (ses0 st v)).hist 0 (rdS st 0).f2) (entN st 1 (ses0 st v) st.length) _ _ a1 st.length (Nat.le_refl _)
 have d1 := entN_lt (st := st) (setP st (entM st 1 (ses0 st v)).hist 0 (rdS st 0).f2) (entN st 1 (ses0 st v) st.length) b1 st.length (by omega)
 have e : fstM v st = entN st (setP st (entM st 1 (ses0 st v)).hist 0 (rdS st 0).f2) (entN st 1 (ses0 st v) st.length) st.length := rfl
 rw [← e] at c1 c2 c3 c4 d1
 have hh : (fstM v st).hist = List.replicate st.length 0 := c4.trans a2
 exact ⟨⟨by omega, by omega, c3, fun x hx => by rw [hh] at hx; rw [(List.mem_replicate.1 hx).2]; omega, by rw [hh]; simp⟩, d1⟩
theorem setl_size (good : chkP v st tr = .none) (few : fewP st tr = true) : ∀ (F : Nat) (m : Ses) (fuel O : Nat), m.conf < 4294967296 → RnI st m 30000 O → (m.stat = 1 → m.inn.length ≤ 2000) →
  RnI st (setlM st tr F m fuel) 30000 (O + 4000 * F) ∧ ((setlM st tr F m fuel).stat = 1 → (setlM st tr F m fuel).inn.length ≤ 2000) ∧ (setlM st tr F m fuel).conf < 4294967296 := by
 have hn := (chk_none good).1.2.2.2.1
 intro F
 induction F with
 | zero => intro m fuel O hc h h1; exact ⟨h.mono (Nat.le_refl _) (by omega), h1, hc⟩
 | succ F ih =>
  intro m fuel O hc h h1
  simp only [setlM]
  by_cases hs : m.stat ≠ 1
  ·rw [if_pos hs]; exact ⟨h.mono (Nat.le_refl _) (by omega), h1, hc⟩
  ·rw [if_neg hs]
   obtain ⟨a1, a2⟩ := rnd_size good few hc (O := O) ⟨h1 (Classical.not_not.1 hs), h.out, h.env, h.ok, h.len⟩ fuel 0
   have a3 := rnd_lt (tr := tr) hn m hc fuel 0
   generalize rndM st tr m fuel 0 = x at *
   have a2' : x.1.stat = 1 → x.1.inn.length ≤ 2000 := fun h => Nat.le_trans (a2 h) (by decide)
   split
   ·obtain ⟨b1, b2⟩ := ih x.1 x.2.1 (O + 2000) a3 a1 a2'
    exact ⟨b1.mono (Nat.le_refl _) (by omega), b2⟩
   ·split
    ·exact ⟨a1.mono (Nat.le_refl _) (by omega), a2', a3⟩
    ·rename_i e r hi
     split
     ·exact ⟨a1.mono (Nat.le_refl _) (by omega), a2', a3⟩
     ·rename_i hs1
      have hs1 := Classical.not_not.1 hs1
      have hr : r.length ≤ 2000 := by have := a2 hs1; rw [hi, List.length_cons] at this; omega
      obtain ⟨c1, c2⟩ := rnd_size good few (m := { x.1 with inn := r }) a3 (O := O + 2000) ⟨hr, a1.out, a1.env, a1.ok, a1.len⟩ x.2.1 e
      have c3 := rnd_lt (tr := tr) hn { x.1 with inn := r } a3 x.2.1 e
      obtain ⟨b1, b2⟩ := ih _ (rndM st tr { x.1 with inn := r } x.2.1 e).2.1 (O + 2000 + 2000) c3 c1 (fun h => Nat.le_trans (c2 h) (by decide))
      exact ⟨b1.mono (Nat.le_refl _) (by omega), b2⟩
end
end Go.Proofs.YtikilglbhnplaaaGreatDoor
end
