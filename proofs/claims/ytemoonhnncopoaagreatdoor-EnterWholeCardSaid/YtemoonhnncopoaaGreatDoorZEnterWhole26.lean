/- Texts of this claim, merged (Rwhole, Ewp, ErealLaw, EwholeLaw, Laid5, Laid5z). -/
import Derived.Test.YtemoonhnncopoaaGreatDoorRows
import Derived.LaidSub
import Derived.LaidHandle
import Derived.LaidLaws
import Derived.Lib.LaidU8
import Derived.Deep.DeepLaidRun
import Derived.Test.YtemoonhnncopoaaGreatDoorZEnterWhole25
import Derived.Test.YtemoonhnncopoaaGreatDoorZEnterWhole21
import Derived.Test.YtemoonhnncopoaaGreatDoorZEnterWhole24
set_option linter.unusedVariables false
set_option linter.unusedSimpArgs false
set_option maxRecDepth 100000
set_option maxHeartbeats 32000000
section
namespace Go.Proofs.YtemoonhnncopoaaGreatDoor
open Go.RowKit Go.Proofs.YtemoonhnncopoaaGreatDoorW.PrintWords Go.Proofs.YtemoonhnncopoaaGreatDoorW.PrintLast
open PX (T V)
def cntK (st : List Sta) (x : Nat) (s : Int) : Nat := ((kidsP st s).filter (fun k => x.testBit k.toNat)).length
def wholeS (st : List Sta) (x : Nat) (s : Nat) : Bool :=
 !x.testBit s || (decide (s < st.length) && !pastP st (s : Int) && (decide (s = 0) || x.testBit (rdS st (s : Int)).f1.toNat) &&
  (!decide ((rdS st (s : Int)).f0 = 2) || decide (cntK st x (s : Int) = 1)) && (!decide ((rdS st (s : Int)).f0 = 3) || decide (cntK st x (s : Int) = (kidsP st (s : Int)).length)))
def wholeF (st : List Sta) (x : Nat) (q : Nat) : Bool := (List.range' q (32 - q)).all (wholeS st x)
def wholeP (st : List Sta) (x : Nat) : Bool := x.testBit 0 && wholeF st x 0
theorem wholeF_step (st : List Sta) (x q : Nat) (h : q < 32) : wholeF st x q = (wholeS st x q && wholeF st x (q + 1)) := by
 unfold wholeF
 obtain ⟨m, hm⟩ : ∃ m, 32 - q = m + 1 := ⟨31 - q, by omega⟩
 rw [hm, show 32 - (q + 1) = m by omega, List.range'_succ, List.all_cons]
theorem wholeF_end (st : List Sta) (x : Nat) : wholeF st x 32 = true := rfl
section
variable {A B : Option Addr} {ca cb : Nat} {st : List Sta} {tr : List Tra}
theorem rwhole_any (v : Int) (w : World) (hM : ChM w A ca st B cb tr) (good : chkP v st tr = .none) (x : Nat) (hx : x < 4294967296) :
  Calls Tryz.prog 41 #[ckV v A B st.length tr.length ca cb, .int .u32 (x : Int)] w fun e w' => e = .returned (.bool (wholeP st x)) ∧ Below w.heap.size w w' := by
 have hb0 : Below w.heap.size w (w.alloc (.cells #[.int .i64 v, .slice A st.length ca, .slice B tr.length cb] 47)) := (Below.refl _ w).alloc (Nat.le_refl _) _
 have HB0 := Lib.hid hb0
 have HM := Lib.hid (hM.below hb0)
 have HX := Lib.hid (blk_new w (.cells #[.int .i64 v, .slice A st.length ca, .slice B tr.length cb] 47))
 have HSz := hb0.size
 have hl : st.length ≤ 24 := (chk_none good).1.2.2.2.1
 have HA := Lib.hid (good_ahead good)
 generalize hG : wholeP st x = G
 have HG : Hid ((x.testBit 0 && wholeF st x 0) = G) := Lib.hid hG
 clear hb0 hM hG good
 go_enter Tryz.func41, Tryz.ntmps41
 go_wp2_with fail
 generalize w.alloc (.cells #[.int .i64 v, .slice A st.length ca, .slice B tr.length cb] 47) = w0 at *
 refine (hasb_any x 0 hx (by omega) w0).mono ?_
 cases h0 : x.testBit 0 with
 | false =>
  have HG2 : Hid (false = G) := Lib.hid (by rw [← HG.out, h0]; rfl)
  clear h0
  rintro e w1 ⟨rfl, hb1⟩
  have HB1 := Lib.hid (HB0.out.trans (hb1.mono HSz))
  clear hb1
  go_wp2_with fail
  go_ret
  exact ⟨by rw [← HG2.out]; rfl, HB1.out⟩
 | true =>
  have HG2 : Hid (wholeF st x 0 = G) := Lib.hid (by rw [← HG.out, h0]; rfl)
  clear h0 HG
  rintro e w1 ⟨rfl, hb1⟩
  have HB1 := Lib.hid hb1
  clear hb1
  go_wp2_with fail
  go_loopw [5] (fun i wr => ∃ q : Nat, i = .int .i64 q ∧ q ≤ 32 ∧ Hid (wholeF st x q = G) ∧ Hid (Below w0.heap.size w0 wr)) (fun i _ => 32 - (intOf i).toNat)
  case atStart => exact ⟨0, rfl, by omega, HG2, HB1⟩
  case round =>
   clear HB1 HG2
   obtain ⟨q, rfl, hq, HE, HB⟩ := hrel
   by_cases hlt : q < 32
   ·have p1 : ((q : Int) < 32) = True := eq_true (by omega)
    have HE2 : Hid ((wholeS st x q && wholeF st x (q + 1)) = G) := Lib.hid (by rw [← HE.out, wholeF_step st x q hlt])
    clear HE
    go_wp2_with fail
    refine (hasb_any x q hx (by omega) wr).mono ?_
    cases hh : x.testBit q with
    | false =>
     have HE3 : Hid (wholeF st x (q + 1) = G) := Lib.hid (by rw [← HE2.out]; unfold wholeS; rw [hh]; rfl)
     clear hh HE2
     rintro e w2 ⟨rfl, hb2⟩
     have HB2 := Lib.hid (below_then HB.out HB.out.size hb2)
     clear hb2
     go_wp2_with fail
     go_roundw
     case rel => exact ⟨q + 1, by go_num, by omega, HE3, HB2⟩
     case measure => simp [intOf]; omega
    | true =>
     rintro e w2 ⟨rfl, hb2⟩
     have HB2 := Lib.hid (below_then HB.out HB.out.size hb2)
     clear hb2 HB
     have hk := (HB2.out.block _ (lt_of_block HX.out)).trans HX.out
     obtain ⟨y0, y1, y2⟩ : w2.cell? ⟨w.heap.size, 0, none⟩ = some (.int .i64 v) ∧ w2.cell? ⟨w.heap.size, 1, none⟩ = some (.slice A st.length ca) ∧ w2.cell? ⟨w.heap.size, 2, none⟩ = some (.slice B tr.length cb) := ⟨blk_cell hk 0, blk_cell hk 1, blk_cell hk 2⟩
     clear hk
     by_cases hl2 : q < st.length
     rotate_left
     ·have d1 : decide ((q : Int) ≥ (st.length : Int)) = true := decide_eq_true (by omega)
      have d1' : decide (st.length ≤ q) = true := decide_eq_true (by omega)
      have HE3 : Hid (false = G) := Lib.hid (by rw [← HE2.out]; unfold wholeS; rw [hh, decide_eq_false hl2]; rfl)
      clear hh HE2 hl2
      go_wp2_with fail
      go_ret
      exact ⟨by rw [← HE3.out]; rfl, HB0.out.trans (HB2.out.mono HSz)⟩
     have d1 : decide ((q : Int) ≥ (st.length : Int)) = false := decide_eq_false (by omega)
     have d1' : decide (st.length ≤ q) = false := decide_eq_false (by omega)
     have HTh : Hid (thS st (q : Int)) := Lib.hid ⟨by omega, by omega⟩
     have HE3 : Hid ((!pastP st (q : Int) && (decide (q = 0) || x.testBit (rdS st (q : Int)).f1.toNat) && (!decide ((rdS st (q : Int)).f0 = 2) || decide (cntK st x (q : Int) = 1)) && (!decide ((rdS st (q : Int)).f0 = 3) || decide (cntK st x (q : Int) = (kidsP st (q : Int)).length)) && wholeF st x (q + 1)) = G) := Lib.hid (by
      rw [← HE2.out]; unfold wholeS; rw [hh, decide_eq_true hl2]; simp)
     clear hh HE2
     go_wp2_with fail
     refine (past_any (HM.out.below HB2.out) v (q : Int) HTh.out).mono ?_
     generalize hpp : pastP st (q : Int) = pp at HE3 ⊢
     have HPp := Lib.hid hpp
     rintro e w3 ⟨rfl, hb3⟩
     have HB3 := Lib.hid (below_then HB2.out HB2.out.size hb3)
     clear hb3 HB2 y0 y1 y2 hpp HPp
     cases pp with
     | true =>
      have HE4 : Hid (false = G) := Lib.hid (by rw [← HE3.out]; simp)
      clear HE3
      go_wp2_with fail
      go_ret
      exact ⟨by rw [← HE4.out]; rfl, HB0.out.trans (HB3.out.mono HSz)⟩
     | false =>
      have hk := (HB3.out.block _ (lt_of_block HX.out)).trans HX.out
      obtain ⟨y0, y1, y2⟩ : w3.cell? ⟨w.heap.size, 0, none⟩ = some (.int .i64 v) ∧ w3.cell? ⟨w.heap.size, 1, none⟩ = some (.slice A st.length ca) ∧ w3.cell? ⟨w.heap.size, 2, none⟩ = some (.slice B tr.length cb) := ⟨blk_cell hk 0, blk_cell hk 1, blk_cell hk 2⟩
      clear hk
      obtain ⟨ad, A2, c2, A3, c3, A4, c4, eA, q0, q1, _⟩ := PAll.at_T54 (HM.out.below HB3.out).cs (q : Int) HTh.out.1 HTh.out.2
      rw [Int.toNat_natCast] at q0 q1
      have hpar := ahead_at HA.out HTh.out
      have hcase : (q = 0) ∨ (0 < q ∧ x.testBit (rdS st (q : Int)).f1.toNat = false) ∨ (0 < q ∧ x.testBit (rdS st (q : Int)).f1.toNat = true) := by
       rcases Nat.eq_zero_or_pos q with h | h
       ·exact .inl h
       ·cases hb : x.testBit (rdS st (q : Int)).f1.toNat with
        | false => exact .inr (.inl ⟨h, rfl⟩)
        | true => exact .inr (.inr ⟨h, rfl⟩)
      have p3 : ((q : Int) < (st.length : Int)) = True := eq_true (by omega)
      rcases hcase with hz | ⟨hz, hb⟩ | ⟨hz, hb⟩
      case' inl =>
       have d2 : decide ((q : Int) > 0) = false := decide_eq_false (by omega)
       have d2' : decide (0 < q) = false := decide_eq_false (by omega)
       have HE4 : Hid (((!decide ((rdS st (q : Int)).f0 = 2) || decide (cntK st x (q : Int) = 1)) && (!decide ((rdS st (q : Int)).f0 = 3) || decide (cntK st x (q : Int) = (kidsP st (q : Int)).length)) && wholeF st x (q + 1)) = G) := Lib.hid (by
        rw [← HE3.out, decide_eq_true hz]; simp)
       obtain ⟨w4, HB4, e4⟩ : ∃ w4, Hid (Below w0.heap.size w0 w4) ∧ w4 = w3 := ⟨w3, HB3, rfl⟩
       have x0 : w4.cell? ⟨w.heap.size, 0, none⟩ = some (.int .i64 v) := by rw [e4]; exact y0
       have x1 : w4.cell? ⟨w.heap.size, 1, none⟩ = some (.slice A st.length ca) := by rw [e4]; exact y1
       have x2 : w4.cell? ⟨w.heap.size, 2, none⟩ = some (.slice B tr.length cb) := by rw [e4]; exact y2
       clear HE3 hz hpar
       subst eA
       rw [← e4]
       clear e4 y0 y1 y2 q0 q1 HB3
       go_wp2_with fail
      case' inr.inl =>
       have d2 : decide ((q : Int) > 0) = true := decide_eq_true (by omega)
       have d2' : decide (0 < q) = true := decide_eq_true (by omega)
       have HE4 : Hid (false = G) := Lib.hid (by rw [← HE3.out, hb, decide_eq_false (by omega)]; simp)
       obtain ⟨pn, hpn⟩ : ∃ pn : Nat, (rdS st (q : Int)).f1 = (pn : Int) := ⟨(rdS st (q : Int)).f1.toNat, by have := hpar.2 (by omega); omega⟩
       have hpl : pn ≤ 1000000 := by have := hpar.1; omega
       rw [hpn, Int.toNat_natCast] at hb
       have q1' := q1
       rw [show (PAll.rd_T54 st (q : Int)).f1 = (pn : Int) from hpn] at q1'
       have HBt := Lib.hid hb
       clear HE3 hz hpar q1 hpn hb
       subst eA
       go_wp2_with fail
       refine (hasb_any x pn hx hpl w3).mono ?_
       rw [HBt.out]
       rintro e w4 ⟨rfl, hb4⟩
       have HB4 := Lib.hid (below_then HB3.out HB3.out.size hb4)
       clear hb4
       go_wp2_with fail
       go_ret
       exact ⟨by rw [← HE4.out]; rfl, HB0.out.trans (HB4.out.mono HSz)⟩
      case' inr.inr =>
       have d2 : decide ((q : Int) > 0) = true := decide_eq_true (by omega)
       have d2' : decide (0 < q) = true := decide_eq_true (by omega)
       have HE4 : Hid (((!decide ((rdS st (q : Int)).f0 = 2) || decide (cntK st x (q : Int) = 1)) && (!decide ((rdS st (q : Int)).f0 = 3) || decide (cntK st x (q : Int) = (kidsP st (q : Int)).length)) && wholeF st x (q + 1)) = G) := Lib.hid (by
        rw [← HE3.out, hb]; simp)
       obtain ⟨pn, hpn⟩ : ∃ pn : Nat, (rdS st (q : Int)).f1 = (pn : Int) := ⟨(rdS st (q : Int)).f1.toNat, by have := hpar.2 (by omega); omega⟩
       have hpl : pn ≤ 1000000 := by have := hpar.1; omega
       rw [hpn, Int.toNat_natCast] at hb
       have q1' := q1
       rw [show (PAll.rd_T54 st (q : Int)).f1 = (pn : Int) from hpn] at q1'
       have HBt := Lib.hid hb
       clear HE3 hz hpar q1 hpn hb
       subst eA
       go_wp2_with fail
       refine (hasb_any x pn hx hpl w3).mono ?_
       rw [HBt.out]
       rintro e w4 ⟨rfl, hb4⟩
       have HB4 := Lib.hid (below_then HB3.out HB3.out.size hb4)
       clear hb4 y0 y1 y2 q0 q1'
       have hk := (HB4.out.block _ (lt_of_block HX.out)).trans HX.out
       have x0 : w4.cell? ⟨w.heap.size, 0, none⟩ = some (.int .i64 v) := blk_cell hk 0
       have x1 : w4.cell? ⟨w.heap.size, 1, none⟩ = some (.slice (some ad) st.length ca) := blk_cell hk 1
       have x2 : w4.cell? ⟨w.heap.size, 2, none⟩ = some (.slice B tr.length cb) := blk_cell hk 2
       clear hk HB3 HBt
       go_wp2_with fail
      all_goals
       refine (rkids_any (HM.out.below HB4.out) v (q : Int) (by omega)).mono ?_
       rintro e w5 ⟨u, rfl, hu, hb5⟩
       obtain ⟨E, cap, rfl⟩ := Kd.R_slice hu
       obtain ⟨_, hcap, hE⟩ := Kd.R_reads' hu
       have HR := Lib.hid (Rd.of hE)
       have HB5 := Lib.hid (below_then HB4.out HB4.out.size hb5)
       have hkl := kids_len st (q : Int)
       have hkp : ∀ k ∈ kidsP st (q : Int), 0 ≤ k ∧ k < (st.length : Int) := fun k hk => (mem_kidsP.1 hk).1
       have HKp := Lib.hid hkp
       have HCn : Hid (((kidsP st (q : Int)).filter (fun k => x.testBit k.toNat)).length = cntK st x (q : Int)) := Lib.hid rfl
       generalize kidsP st (q : Int) = ks at *
       clear hu hE hb5 hcap hkp x0 x1 x2
       go_wp2_with fail
       go_loopw [8, 9] (fun c i wr => ∃ (j n : Nat), c = .int .i64 n ∧ i = .int .i64 j ∧ j ≤ ks.length ∧ n ≤ j ∧ Hid (((ks.drop j).filter (fun k => x.testBit k.toNat)).length + n = cntK st x (q : Int)) ∧ Hid (Below w0.heap.size w0 wr) ∧ Hid (Rd wr E ks)) (fun _ i _ => ks.length - (intOf i).toNat)
       case atStart => exact ⟨0, 0, rfl, rfl, Nat.zero_le _, Nat.le_refl _, Lib.hid (by rw [List.drop_zero]; exact HCn.out), HB5, HR⟩
       case round =>
        clear HB5 HR HCn
        obtain ⟨j, n, rfl, rfl, hj, hn, HN, HB, HR⟩ := hrel
        by_cases hlt3 : j < ks.length
        ·obtain ⟨ad2, rfl, a0⟩ := HR.out j hlt3
         have hds : ks.drop j = ks[j] :: ks.drop (j + 1) := List.drop_eq_getElem_cons hlt3
         have hn2 := HN.out
         rw [hds, List.filter_cons] at hn2
         have hk0 := HKp.out ks[j] (List.getElem_mem hlt3)
         have p4 : ((j : Int) < (ks.length : Int)) = True := eq_true (by omega)
         clear hds HN
         generalize ks[j] = k at *
         obtain ⟨kn, rfl⟩ : ∃ kn : Nat, k = (kn : Int) := ⟨k.toNat, by omega⟩
         rw [Int.toNat_natCast] at hn2
         have hkn : kn ≤ 1000000 := by omega
         clear hk0
         cases hbk : x.testBit kn with
         | true =>
          have HN2 : Hid (((ks.drop (j + 1)).filter (fun k => x.testBit k.toNat)).length + (n + 1) = cntK st x (q : Int)) := Lib.hid (by rw [← hn2, if_pos hbk, List.length_cons]; omega)
          have HBk := Lib.hid hbk
          clear hn2 hbk
          go_wp2_with fail
          refine (hasb_any x kn hx hkn wr).mono ?_
          rw [HBk.out]
          rintro e w6 ⟨rfl, hb6⟩
          have HB6 := Lib.hid (below_then HB.out HB.out.size hb6)
          have HR6 := Lib.hid (HR.out.chg' (S := fun _ => False) (Chg.of_below hb6) (fun _ _ => .inl (fun h => h)))
          clear hb6 a0
          go_wp2_with fail
          go_roundw
          case rel => exact ⟨j + 1, n + 1, by go_num, by go_num, by omega, by omega, HN2, HB6, HR6⟩
          case measure => simp [intOf]; omega
         | false =>
          have HN2 : Hid (((ks.drop (j + 1)).filter (fun k => x.testBit k.toNat)).length + n = cntK st x (q : Int)) := Lib.hid (by rw [← hn2, if_neg (by rw [hbk]; simp)])
          have HBk := Lib.hid hbk
          clear hn2 hbk
          go_wp2_with fail
          refine (hasb_any x kn hx hkn wr).mono ?_
          rw [HBk.out]
          rintro e w6 ⟨rfl, hb6⟩
          have HB6 := Lib.hid (below_then HB.out HB.out.size hb6)
          have HR6 := Lib.hid (HR.out.chg' (S := fun _ => False) (Chg.of_below hb6) (fun _ _ => .inl (fun h => h)))
          clear hb6 a0
          go_wp2_with fail
          go_roundw
          case rel => exact ⟨j + 1, n, rfl, by go_num, by omega, by omega, HN2, HB6, HR6⟩
          case measure => simp [intOf]; omega
        ·obtain rfl : j = ks.length := by omega
         have hn2 : n = cntK st x (q : Int) := by have := HN.out; rw [List.drop_length] at this; simpa using this
         have HE5 := HE4.out
         rw [← hn2] at HE5
         have hk := (HB.out.block _ (lt_of_block HX.out)).trans HX.out
         have x1 : wr.cell? ⟨w.heap.size, 1, none⟩ = some (.slice (some ad) st.length ca) := blk_cell hk 1
         obtain ⟨ad3, A2, c2, A3, c3, A4, c4, eA, q0, _⟩ := PAll.at_T54 (HM.out.below HB.out).cs (q : Int) HTh.out.1 HTh.out.2
         obtain rfl := Option.some.inj eA
         rw [Int.toNat_natCast] at q0
         have HKd : Hid (PAll.rd_T54 st (q : Int) = rdS st (q : Int)) := Lib.hid rfl
         clear hk hn2 HN HE4 eA
         have fin : ∀ (G' : Bool), (false = G) → G = false := fun _ h => h.symm
         by_cases k2 : (rdS st (q : Int)).f0 = 2
         ·have e2 : ((PAll.rd_T54 st (q : Int)).f0 == 2) = true := beq_iff_eq.mpr k2
          have e3 : ((PAll.rd_T54 st (q : Int)).f0 == 3) = false := beq_eq_false_iff_ne.mpr (by rw [show (PAll.rd_T54 st (q : Int)).f0 = 2 from k2]; decide)
          rw [decide_eq_true k2, decide_eq_false (show ¬ (rdS st (q : Int)).f0 = 3 by omega)] at HE5
          by_cases n1 : n = 1
          ·have en : ((n : Int) != 1) = false := by rw [n1]; rfl
           have HE6 : Hid (wholeF st x (q + 1) = G) := Lib.hid (by rw [← HE5, decide_eq_true n1]; rfl)
           clear HE5 k2 n1
           go_wp2_with fail
           go_roundw
           case rel => exact ⟨q + 1, by go_num, by omega, HE6, HB⟩
           case measure => simp [intOf]; omega
          ·have en : ((n : Int) != 1) = true := bne_iff_ne.mpr (by omega)
           have HE6 : Hid (false = G) := Lib.hid (by rw [← HE5, decide_eq_false n1]; rfl)
           clear HE5 k2 n1
           go_wp2_with fail
           go_ret
           exact ⟨by rw [← HE6.out]; rfl, HB0.out.trans (HB.out.mono HSz)⟩
         ·have e2 : ((PAll.rd_T54 st (q : Int)).f0 == 2) = false := beq_eq_false_iff_ne.mpr k2
          by_cases k3 : (rdS st (q : Int)).f0 = 3
          ·have e3 : ((PAll.rd_T54 st (q : Int)).f0 == 3) = true := beq_iff_eq.mpr k3
           rw [decide_eq_false k2, decide_eq_true k3] at HE5
           by_cases n1 : n = ks.length
           ·have en : ((n : Int) != (ks.length : Int)) = false := by rw [n1]; simp
            have HE6 : Hid (wholeF st x (q + 1) = G) := Lib.hid (by rw [← HE5, decide_eq_true n1]; rfl)
            clear HE5 k2 k3 n1
            go_wp2_with fail
            go_roundw
            case rel => exact ⟨q + 1, by go_num, by omega, HE6, HB⟩
            case measure => simp [intOf]; omega
           ·have en : ((n : Int) != (ks.length : Int)) = true := bne_iff_ne.mpr (by omega)
            have HE6 : Hid (false = G) := Lib.hid (by rw [← HE5, decide_eq_false n1]; rfl)
            clear HE5 k2 k3 n1
            go_wp2_with fail
            go_ret
            exact ⟨by rw [← HE6.out]; rfl, HB0.out.trans (HB.out.mono HSz)⟩
          ·have e3 : ((PAll.rd_T54 st (q : Int)).f0 == 3) = false := beq_eq_false_iff_ne.mpr k3
           rw [decide_eq_false k2, decide_eq_false k3] at HE5
           have HE6 : Hid (wholeF st x (q + 1) = G) := Lib.hid (by rw [← HE5]; rfl)
           clear HE5 k2 k3
           go_wp2_with fail
           go_roundw
           case rel => exact ⟨q + 1, by go_num, by omega, HE6, HB⟩
           case measure => simp [intOf]; omega
   ·obtain rfl : q = 32 := by omega
    have HE3 : Hid (true = G) := Lib.hid (by rw [← HE.out, wholeF_end])
    clear HE
    go_wp2_with fail
    go_ret
    exact ⟨by rw [← HE3.out]; rfl, HB0.out.trans (HB.out.mono HSz)⟩
end
end Go.Proofs.YtemoonhnncopoaaGreatDoor
end
section
namespace Go.Proofs.YtemoonhnncopoaaGreatDoor
open Go.RowKit Go.Proofs.YtemoonhnncopoaaGreatDoorW.PrintWords
open PX (T V)
theorem one_of {α : Type} {p : α → Bool} {k : α} (l : List α) (hn : l.Nodup) (hk : k ∈ l) (hp : p k = true) (h : ∀ j ∈ l, p j = true → j = k) : (l.filter p).length = 1 := by
 induction l with
 | nil => cases hk
 | cons a l ih =>
  obtain ⟨ha, hn⟩ := List.nodup_cons.1 hn
  rcases List.mem_cons.1 hk with rfl | hk
  ·rw [List.filter_cons, if_pos hp]
   have : l.filter p = [] := List.filter_eq_nil_iff.2 (fun j hj hpj => ha (by have := h j (List.mem_cons_of_mem _ hj) hpj; rw [← this]; exact hj))
   rw [this]; rfl
  ·have hpa : ¬ p a = true := fun hpa => ha (by rw [h a (List.mem_cons_self ..) hpa]; exact hk)
   rw [List.filter_cons, if_neg hpa]
   exact ih hn hk (fun j hj => h j (List.mem_cons_of_mem _ hj))
theorem kidsF_nodup (s : Int) (l : List Sta) : ∀ i : Int, (kidsF s l i).Nodup := by
 induction l with
 | nil => intro i; exact List.nodup_nil
 | cons a l ih =>
  intro i
  simp only [kidsF]
  split
  ·refine List.nodup_cons.2 ⟨fun h => ?_, ih _⟩
   obtain ⟨j, x, _, h2, _⟩ := (mem_kidsF s l (i + 1) i).1 h
   omega
  ·exact ih _
theorem bit_one {n : Nat} (h : n.testBit 0 = false) (j : Nat) : (n + 1).testBit j = (decide (j = 0) || n.testBit j) := by
 rw [Nat.testBit_zero] at h
 have h2 : n % 2 = 0 := by
  have : ¬ n % 2 = 1 := of_decide_eq_false h
  omega
 cases j with
 | zero => rw [Nat.testBit_zero, decide_eq_true (show (n + 1) % 2 = 1 by omega)]; rfl
 | succ j =>
  rw [Nat.testBit_succ, Nat.testBit_succ, show (n + 1) / 2 = n / 2 by omega, decide_eq_false (by omega), Bool.false_or]
theorem kids_iff {v : Int} {st : List Sta} {tr : List Tra} (good : chkP v st tr = .none) (hs : List Int) {s : Int} (h0 : 0 ≤ s) (k : Int) : k ∈ (shOf st hs).kids s ↔ k ∈ kidsP st s := by
 have ok := sh_ok good hs
 rw [ok.kid, mem_kidsP]
 constructor
 ·rintro ⟨h1, h2, h3, h4⟩
  refine ⟨⟨by omega, h2⟩, h3, ?_⟩
  have h5 : (rdS st k).f0 < 5 := h4
  unfold histP
  rw [Bool.or_eq_false_iff, beq_eq_false_iff_ne, beq_eq_false_iff_ne]
  omega
 ·rintro ⟨⟨h1, h2⟩, h3, h4⟩
  refine ⟨?_, h2, h3, ?_⟩
  ·rcases Int.lt_or_le 0 k with hk | hk
   ·exact hk
   ·exfalso
    obtain rfl : k = 0 := by omega
    have : (rdS st 0).f1 = -1 := ok.root
    omega
  ·have hb := ok.kinds k h1 h2
   unfold histP at h4
   rw [Bool.or_eq_false_iff, beq_eq_false_iff_ne, beq_eq_false_iff_ne] at h4
   have h5 : (shOf st hs).kind k = (rdS st k).f0 := rfl
   omega
theorem whole_of {v : Int} {st : List Sta} {tr : List Tra} (good : chkP v st tr = .none) (hs : List Int) {T : Nat}
  (h1 : ∀ x : Int, Ent.has T x → x < (shOf st hs).n ∧ (shOf st hs).kind x < 5 ∧ 0 < x ∧ (Ent.has T ((shOf st hs).par x) ∨ (shOf st hs).par x = 0))
  (h2 : ∀ x : Int, (x = 0 ∨ Ent.has T x) → (shOf st hs).kind x = 2 → ∃ k, k ∈ (shOf st hs).kids x ∧ Ent.has T k ∧ ∀ j, j ∈ (shOf st hs).kids x → Ent.has T j → j = k)
  (h3 : ∀ x : Int, Ent.has T x → (shOf st hs).kind x = 3 → ∀ k, k ∈ (shOf st hs).kids x → Ent.has T k) : wholeP st (T + 1) = true ∧ T < 16777216 := by
 have ok := sh_ok good hs
 obtain ⟨⟨_, _, hn1, hn, _⟩, hz, _⟩ := chk_none good
 have b0 : T.testBit 0 = false := by
  cases hb : T.testBit 0 with
  | false => rfl
  | true => have := (h1 0 ⟨Int.le_refl _, hb⟩).2.2.1; omega
 have hk0 : (rdS st 0).f0 = 2 := (state_par (hz 0 (Int.le_refl _) (by omega))).1 rfl
 refine ⟨?_, ?_⟩
 ·unfold wholeP
  rw [bit_one b0, decide_eq_true rfl, Bool.true_or, Bool.true_and]
  unfold wholeF
  rw [List.all_eq_true]
  intro q hq
  rw [List.mem_range'_1] at hq
  unfold wholeS
  rw [bit_one b0]
  by_cases hb : q = 0 ∨ T.testBit q = true
  ·have hx : (q : Int) = 0 ∨ Ent.has T (q : Int) := by
    rcases hb with hb | hb
    ·exact .inl (by omega)
    ·exact .inr ⟨by omega, by simpa using hb⟩
   have hin : q < st.length ∧ (rdS st (q : Int)).f0 < 5 ∧ (q = 0 ∨ (T + 1).testBit (rdS st (q : Int)).f1.toNat = true) := by
    rcases hx with hx | hx
    ·obtain rfl : q = 0 := by omega
     exact ⟨by omega, by show (rdS st 0).f0 < 5; omega, .inl rfl⟩
    ·obtain ⟨a1, a2, a3, a4⟩ := h1 _ hx
     have a1' : (q : Int) < (st.length : Int) := a1
     refine ⟨by omega, a2, .inr ?_⟩
     rw [bit_one b0]
     rcases a4 with a4 | a4
     ·have : T.testBit (rdS st (q : Int)).f1.toNat = true := a4.2
      rw [this]; simp
     ·have : (rdS st (q : Int)).f1 = 0 := a4
      rw [this]; simp
   obtain ⟨c1, c2, c3⟩ := hin
   have hpast : pastP st (q : Int) = false := by unfold pastP; exact decide_eq_false (by omega)
   have hbit : ∀ k : Int, 0 < k → ((T + 1).testBit k.toNat = true ↔ Ent.has T k) := by
    intro k hk
    rw [bit_one b0, decide_eq_false (by omega), Bool.false_or]
    exact ⟨fun h => ⟨by omega, h⟩, fun h => h.2⟩
   have kpos : ∀ k, k ∈ kidsP st (q : Int) → 0 < k ∧ k ∈ (shOf st hs).kids (q : Int) := fun k hk => by
    have := (kids_iff good hs (by omega) k).2 hk
    exact ⟨((ok.kid _ _).1 this).1, this⟩
   have hk2 : (!decide ((rdS st (q : Int)).f0 = 2) || decide (cntK st (T + 1) (q : Int) = 1)) = true := by
    by_cases e : (rdS st (q : Int)).f0 = 2
    ·obtain ⟨k, k1, k2, k3⟩ := h2 _ hx e
     have km := (kids_iff good hs (by omega) k).1 k1
     have : cntK st (T + 1) (q : Int) = 1 := by
      refine one_of _ (kidsF_nodup _ _ _) km ((hbit k (kpos k km).1).2 k2) (fun j hj hp => ?_)
      exact k3 j (kpos j hj).2 ((hbit j (kpos j hj).1).1 hp)
     rw [decide_eq_true this]; simp
    ·rw [decide_eq_false e]; rfl
   have hk3 : (!decide ((rdS st (q : Int)).f0 = 3) || decide (cntK st (T + 1) (q : Int) = (kidsP st (q : Int)).length)) = true := by
    by_cases e : (rdS st (q : Int)).f0 = 3
    ·have hx' : Ent.has T (q : Int) := by
      rcases hx with hx | hx
      ·rw [hx, hk0] at e; cases e
      ·exact hx
     have : cntK st (T + 1) (q : Int) = (kidsP st (q : Int)).length := by
      unfold cntK
      rw [List.filter_eq_self.2 (fun k hk => (hbit k (kpos k hk).1).2 (h3 _ hx' e k (kpos k hk).2))]
     rw [decide_eq_true this]; simp
    ·rw [decide_eq_false e]; rfl
   have hc3 : (decide (q = 0) || (T + 1).testBit (rdS st (q : Int)).f1.toNat) = true := by
    rcases c3 with c3 | c3
    ·rw [decide_eq_true c3]; rfl
    ·rw [c3]; simp
   rw [decide_eq_true c1, hpast, hc3, hk2, hk3]
   simp
  ·rw [decide_eq_false (fun h => hb (.inl h)), Bool.eq_false_iff.2 (fun h => hb (.inr h))]
   rfl
 ·refine Nat.lt_of_not_le (fun hle => ?_)
  obtain ⟨i, hi, hbit⟩ := Nat.exists_ge_and_testBit_of_ge_two_pow (n := 24) (x := T) (by simpa using hle)
  have := (h1 (i : Int) ⟨by omega, by simpa using hbit⟩).1
  have h4 : ((i : Int)) < (st.length : Int) := this
  omega
theorem one_whole {v : Int} {st : List Sta} {tr : List Tra} (good : chkP v st tr = .none) {s : Int} (h0 : 0 < s) (h1 : s < (st.length : Int)) (h5 : (rdS st s).f0 < 5) :
  wholeP st (setP st [] 0 [s] + 1) = true ∧ setP st [] 0 [s] < 16777216 ∧ (setP st [] 0 [s]).testBit s.toNat = true := by
 have ok := sh_ok good []
 have hk : kindP st s ≠ 0 := (kindP_ne good s).2 ⟨by omega, h1⟩
 have hkk : kindP st s = (rdS st s).f0 := if_pos ⟨by omega, h1⟩
 have hreal : realP st [] [s] = [s] := by
  have e1 : realL st [] s = [s] := if_neg (by omega)
  unfold realP
  simp only [List.foldl_cons, List.foldl_nil, realS]
  rw [if_neg hk, e1]
  simp only [realX, List.foldl_cons, List.foldl_nil]
  rw [if_pos ⟨hk, rfl⟩]; rfl
 have hset : setP st [] 0 [s] = (Ent.abvE (shOf st []) (Ent.dwnE (shOf st []) 4000) (Ent.dwnE (shOf st []) 4000 (0, 4000) s) s 0).1 := by
  unfold setP
  rw [hreal]
  simp only [List.foldl_cons, List.foldl_nil, setD, setA]
  rw [if_pos hk]
 have hin : inP st s 0 = true := by
  unfold inP
  rw [in_first (chk_none good).2.1 s.toNat s h0 h1 (Nat.le_refl _)]; rfl
 have hk0 : (shOf st []).kind 0 = 2 := (state_par ((chk_none good).2.1 0 (Int.le_refl _) (by omega))).1 rfl
 obtain ⟨a1, a2, a3, a4⟩ := Ent.set_one ok (f := 4000) h0 h1 h5 hk0 hin (l := 4000) (Nat.le_refl _) (by omega) _ rfl
 rw [← hset] at a1 a2 a3 a4
 obtain ⟨w1, w2⟩ := whole_of good [] a2 a3 a4
 exact ⟨w1, w2, a1.2⟩
end Go.Proofs.YtemoonhnncopoaaGreatDoor
end
section
namespace Go.Proofs.YtemoonhnncopoaaGreatDoor
open Go.RowKit Go.Proofs.YtemoonhnncopoaaGreatDoorW.PrintWords Go.Proofs.YtemoonhnncopoaaGreatDoorW.PrintLast
open PX (T V)
theorem u32Arg {w : World} {v : Value} {xs : List Int} (h : (Rep.int .u32).slice.ok (fun b => b < w.heap.size) w [v] xs) :
  ∃ A cap, v = .slice A xs.length cap ∧ xs.length ≤ cap ∧ (Kd.int .u32).C w A xs.length xs ∧ ∀ x ∈ xs, 0 ≤ x ∧ x < 4294967296 := by
 obtain ⟨A, cap, hv, hl, hC⟩ := repK_slice 63 (repK_int .u32) rfl _ _ _ _ h
 rw [List.map_id] at hv hl hC
 refine ⟨A, cap, by simpa using hv, hl, hC, fun x hx => ?_⟩
 obtain ⟨cs', h1⟩ := slice_all h x hx
 have := bounds_u32 h1.2
 omega
end Go.Proofs.YtemoonhnncopoaaGreatDoor
end
section
namespace Go.Proofs.YtemoonhnncopoaaGreatDoor
open Go.RowKit Go.Proofs.YtemoonhnncopoaaGreatDoorW.PrintWords Go.Proofs.YtemoonhnncopoaaGreatDoorW.PrintLast
open PX (T V)
theorem EnterWhole_walk (w : World) (hw : LaidZ w) (cs : Array Value) (x0 : Int × List StaT × List TraT × Unit) (v1 v2 : Value) (hs : List Int) (s : Int) (h0 : RChart.ok (fun b => b < w.heap.size) w cs.toList x0) (h1 : (Rep.int .u32).slice.ok (fun b => b < w.heap.size) w [v1] hs) (h2 : (Rep.int .i64).ok (fun b => b < w.heap.size) w [v2] s) :
  Calls Tryz.prog 9 #[.agg cs, v1, v2] w fun e w' => e = .returned (.bool true) ∧ Below w.heap.size w w' := by
 obtain ⟨A, ca, B, cb, st, tr, hcs, hM⟩ := chartArg h0
 obtain ⟨H, hc, rfl, hhc, hH, hhb⟩ := u32Arg h1
 obtain ⟨h2, _⟩ := h2
 obtain rfl : v2 = .int .i64 s := by simpa using h2
 rw [hcs]
 generalize x0.1 = v at *
 clear h0 hcs h1 h2 hH hhb
 have hb0 : Below w.heap.size w (w.alloc (.cells #[.int .i64 v, .slice A st.length ca, .slice B tr.length cb] 47)) := (Below.refl _ w).alloc (Nat.le_refl _) _
 have HB0 := Lib.hid hb0
 have HWE := Lib.hid (hw.below hb0)
 have HM := Lib.hid (hM.below hb0)
 have HG := Lib.hid (blk_new w (.cells #[.int .i64 v, .slice A st.length ca, .slice B tr.length cb] 47))
 clear hb0 hw hM
 go_enter Tryz.func9, Tryz.ntmps9
 go_wp2_with fail
 generalize w.alloc (.cells #[.int .i64 v, .slice A st.length ca, .slice B tr.length cb] 47) = w0 at HB0 HWE HM HG ⊢
 have hfin : ∀ wr, Below w0.heap.size w0 wr → Below w.heap.size w wr := fun wr h => HB0.out.trans (h.mono HB0.out.size)
 have HFin := Lib.hid hfin
 clear hfin
 refine (up08 _ HWE.out).mono ?_
 rintro e w1 ⟨rfl, hb1⟩
 have HB1 := Lib.hid hb1
 have hk := (hb1.block _ (lt_of_block HG.out)).trans HG.out
 obtain ⟨y0, y1, y2⟩ : w1.cell? ⟨w.heap.size, 0, none⟩ = some (.int .i64 v) ∧ w1.cell? ⟨w.heap.size, 1, none⟩ = some (.slice A st.length ca) ∧ w1.cell? ⟨w.heap.size, 2, none⟩ = some (.slice B tr.length cb) := ⟨blk_cell hk 0, blk_cell hk 1, blk_cell hk 2⟩
 clear hk hb1
 go_wp2_with fail
 refine (fewc_any (HM.out.below HB1.out) v).mono ?_
 cases hf : fewP st tr with
 | false =>
  rintro e w2 ⟨rfl, hb2⟩
  go_wp2_with fail
  go_ret
  exact ⟨rfl, HFin.out _ (below_then HB1.out HB1.out.size hb2)⟩
 | true =>
  have HF := Lib.hid hf
  clear hf
  rintro e w2 ⟨rfl, hb2⟩
  have HB2 := Lib.hid (below_then HB1.out HB1.out.size hb2)
  clear y0 y1 y2 hb2
  by_cases c1 : (hs.length : Int) > 40
  ·have d1 : decide ((hs.length : Int) > 40) = true := decide_eq_true c1
   clear c1
   go_wp2_with fail
   go_ret
   exact ⟨rfl, HFin.out _ HB2.out⟩
  have d1 : decide ((hs.length : Int) > 40) = false := decide_eq_false c1
  have hk := (HB2.out.block _ (lt_of_block HG.out)).trans HG.out
  obtain ⟨y0, y1, y2⟩ : w2.cell? ⟨w.heap.size, 0, none⟩ = some (.int .i64 v) ∧ w2.cell? ⟨w.heap.size, 1, none⟩ = some (.slice A st.length ca) ∧ w2.cell? ⟨w.heap.size, 2, none⟩ = some (.slice B tr.length cb) := ⟨blk_cell hk 0, blk_cell hk 1, blk_cell hk 2⟩
  clear hk c1
  go_wp2_with fail
  refine (tnew_any v A B ca cb st tr HF.out _ (HWE.out.toLaid.below HB2.out) (HM.out.below HB2.out)).mono ?_
  rintro e w3 ⟨⟨p, ev, rfl, h⟩, hb3⟩
  have HB3 := Lib.hid (below_then HB2.out HB2.out.size hb3)
  clear y0 y1 y2 hb3
  rcases h with ⟨he, g, rfl, rfl, hg, hT⟩ | ⟨he, rfl, hev⟩
  rotate_left
  ·rcases er_some hev he with ⟨c, rfl⟩ | ⟨c, rfl⟩
   all_goals
    clear hev he
    go_wp2_with fail
    go_ret
    exact ⟨rfl, HFin.out _ HB3.out⟩
  have HT3 := Lib.hid hT
  have HGood := Lib.hid he
  obtain ⟨⟨_, _, hn1, hn, hn2⟩, hz, _⟩ := chk_none he
  have hk0 : (rdS st 0).f0 = 2 := (state_par (hz 0 (Int.le_refl _) (by omega))).1 rfl
  obtain ⟨l1, l0⟩ := ini_one he (s := 0) ⟨Int.le_refl _, by omega⟩ (.inl hk0)
  have hini := (sh_ok he []).init 0 (Int.le_refl _) (by show (0 : Int) < (st.length : Int); omega) hk0
  obtain ⟨tt, hf2⟩ : ∃ tt, (rdS st 0).f2 = [tt] := by
   match hf : (rdS st 0).f2, l1 with
   | [a], _ => exact ⟨a, rfl⟩
  have hi1 : inP st tt 0 = true ∧ (rdS st tt).f0 < 5 := by
   have e : (shOf st []).ini 0 = tt := by show rd (rdS st 0).f2 0 = tt; rw [hf2]; rfl
   rw [e] at hini; exact hini
  have hi2 : 0 < tt ∧ tt < (st.length : Int) := by
   have h := hi1.1
   unfold inP at h
   rw [Bool.and_eq_true] at h
   have := inC_lt h.2
   omega
  have HA1 := Lib.hid (one_whole he (s := tt) (by omega) (by omega) hi1.2)
  have hone : (decide (kindP st s ≥ 1) = false) ∨ (decide (kindP st s ≥ 1) = true ∧ decide (kindP st s ≤ 4) = false) ∨ (decide (kindP st s ≥ 1) = true ∧ decide (kindP st s ≤ 4) = true ∧ (s != 0) = false) ∨ (decide (kindP st s ≥ 1) = true ∧ decide (kindP st s ≤ 4) = true ∧ (s != 0) = true) := by
   by_cases a1 : kindP st s ≥ 1
   ·by_cases a2 : kindP st s ≤ 4
    ·by_cases a3 : s = 0
     ·exact .inr (.inr (.inl ⟨decide_eq_true a1, decide_eq_true a2, by rw [a3]; rfl⟩))
     ·exact .inr (.inr (.inr ⟨decide_eq_true a1, decide_eq_true a2, bne_iff_ne.mpr a3⟩))
    ·exact .inr (.inl ⟨decide_eq_true a1, decide_eq_false a2⟩)
   ·exact .inl (decide_eq_false a1)
  have HIni : Hid (∀ wx, Below w0.heap.size w0 wx → ∃ A2 c2, (∃ ad, A = some ad ∧ wx.cell? ⟨ad.block, ad.off + 2, none⟩ = some (.slice A2 1 c2)) ∧ Hid (1 ≤ c2) ∧ Hid (NumsC wx A2 1 [tt])) := Lib.hid (fun wx hb => by
   obtain ⟨ad, A2, c2, A3, c3, A4, c4, eA, q0, _, q2, _, _, l2, g2, _⟩ := PAll.at_T54 (HM.out.below hb).cs 0 (Int.le_refl _) (by omega)
   rw [show (PAll.rd_T54 st 0).f2 = [tt] from hf2] at q2 l2 g2
   rw [show (0 : Int).toNat * 5 = 0 from rfl, addr0] at q2
   exact ⟨A2, c2, ⟨ad, eA, q2⟩, Lib.hid l2, Lib.hid g2⟩)
  clear hT he hg hz hk0 l1 l0 hini hf2 hi1 hi2
  have hk := (HB3.out.block _ (lt_of_block HG.out)).trans HG.out
  obtain ⟨y0, y1, y2⟩ : w3.cell? ⟨w.heap.size, 0, none⟩ = some (.int .i64 v) ∧ w3.cell? ⟨w.heap.size, 1, none⟩ = some (.slice A st.length ca) ∧ w3.cell? ⟨w.heap.size, 2, none⟩ = some (.slice B tr.length cb) := ⟨blk_cell hk 0, blk_cell hk 1, blk_cell hk 2⟩
  clear hk
  rcases hone with d1 | ⟨d1, d2⟩ | ⟨d1, d2, d3⟩ | ⟨d1, d2, d3⟩
  case' inl =>
   go_wp2_with fail
   refine (tkind_any HT3.out s).mono ?_
   rintro e w4 ⟨rfl, hb4⟩
   have HB4 := Lib.hid (below_then HB3.out HB3.out.size hb4)
   have HT4 := Lib.hid (HT3.out.below hb4)
   clear hb4 y0 y1 y2
  case' inr.inl =>
   go_wp2_with fail
   refine (tkind_any HT3.out s).mono ?_
   rintro e w5 ⟨rfl, hb5⟩
   have HB5 := Lib.hid (below_then HB3.out HB3.out.size hb5)
   have HT5 := Lib.hid (HT3.out.below hb5)
   clear hb5
   go_wp2_with fail
   refine (tkind_any HT5.out s).mono ?_
   rintro e w4 ⟨rfl, hb4⟩
   have HB4 := Lib.hid (below_then HB5.out HB5.out.size hb4)
   have HT4 := Lib.hid (HT5.out.below hb4)
   clear hb4 y0 y1 y2 HB5 HT5
  case' inr.inr.inl =>
   go_wp2_with fail
   refine (tkind_any HT3.out s).mono ?_
   rintro e w5 ⟨rfl, hb5⟩
   have HB5 := Lib.hid (below_then HB3.out HB3.out.size hb5)
   have HT5 := Lib.hid (HT3.out.below hb5)
   clear hb5
   go_wp2_with fail
   refine (tkind_any HT5.out s).mono ?_
   rintro e w4 ⟨rfl, hb4⟩
   have HB4 := Lib.hid (below_then HB5.out HB5.out.size hb4)
   have HT4 := Lib.hid (HT5.out.below hb4)
   clear hb4 y0 y1 y2 HB5 HT5
  case' inr.inr.inr =>
   go_wp2_with fail
   refine (tkind_any HT3.out s).mono ?_
   rintro e w5 ⟨rfl, hb5⟩
   have HB5 := Lib.hid (below_then HB3.out HB3.out.size hb5)
   have HT5 := Lib.hid (HT3.out.below hb5)
   clear hb5
   go_wp2_with fail
   refine (tkind_any HT5.out s).mono ?_
   rintro e w4 ⟨rfl, hb4⟩
   have HB4 := Lib.hid (below_then HB5.out HB5.out.size hb4)
   have HT4 := Lib.hid (HT5.out.below hb4)
   clear hb4 y0 y1 y2 HB5 HT5
  all_goals
   clear HT3 HB3
   have hk := (HB4.out.block _ (lt_of_block HG.out)).trans HG.out
   obtain ⟨y0, y1, y2⟩ : w4.cell? ⟨w.heap.size, 0, none⟩ = some (.int .i64 v) ∧ w4.cell? ⟨w.heap.size, 1, none⟩ = some (.slice A st.length ca) ∧ w4.cell? ⟨w.heap.size, 2, none⟩ = some (.slice B tr.length cb) := ⟨blk_cell hk 0, blk_cell hk 1, blk_cell hk 2⟩
   clear hk
   obtain ⟨A2, c2, q2, HL2, HG2⟩ := HIni.out w4 HB4.out
   obtain ⟨ad, eA, q2⟩ := q2
   subst eA
   have p9 : ((0 : Int) < (st.length : Int)) = True := eq_true (by omega)
   have p9' : (0 < st.length) = True := eq_true (by omega)
   go_wp2_with fail
   refine (eset_any w4 (HWE.out.below HB4.out) HT4.out HGood.out HF.out (H := none) (hc := 0) (hs := []) (nilC _ _) (Nat.le_refl _) (by decide) (by simp) 0 A2 c2 [tt] HG2.out HL2.out (by simp)).mono ?_
   obtain ⟨a1, a2, _⟩ := HA1.out
   have HAw := Lib.hid a1
   clear a1 HA1
   generalize setP st [] 0 [tt] = a at *
   rintro e w5 ⟨rfl, _, hb5⟩
   have HB5 := Lib.hid (below_then HB4.out HB4.out.size hb5)
   have HT5 := Lib.hid (HT4.out.below hb5)
   clear hb5 y0 y1 y2 q2
   have hk := (HB5.out.block _ (lt_of_block HG.out)).trans HG.out
   have x0 : w5.cell? ⟨w.heap.size, 0, none⟩ = some (.int .i64 v) := blk_cell hk 0
   have x1 : w5.cell? ⟨w.heap.size, 1, none⟩ = some (.slice (some ad) st.length ca) := blk_cell hk 1
   have x2 : w5.cell? ⟨w.heap.size, 2, none⟩ = some (.slice B tr.length cb) := blk_cell hk 2
   clear hk
   go_wp2_with fail
   refine (rwhole_any v w5 (HM.out.below HB5.out) HGood.out (a + 1) (by omega)).mono ?_
   rw [HAw.out]
   rintro e w6 ⟨rfl, hb6⟩
   have HB6 := Lib.hid (below_then HB5.out HB5.out.size hb6)
   have HT6 := Lib.hid (HT5.out.below hb6)
   clear hb6 HAw HB4 HB5 HT4 HT5 x0 x1 x2
  ·have hs0 : 0 < s ∧ s < (st.length : Int) ∧ (rdS st s).f0 < 5 := by
    have a1 := of_decide_eq_true d1
    have a2 := of_decide_eq_true d2
    have a3 := bne_iff_ne.mp d3
    have ht := (kindP_ne HGood.out s).1 (by omega)
    have hkk : kindP st s = (rdS st s).f0 := if_pos ht
    have := ht.1
    exact ⟨by omega, ht.2, by omega⟩
   obtain ⟨b1, b2, b3⟩ := one_whole HGood.out hs0.1 hs0.2.1 hs0.2.2
   have HBw := Lib.hid b1
   have HBb := Lib.hid b3
   clear b1 b3 d1 d2
   have hal : Below w6.heap.size w6 (w6.alloc (.cells #[.int .i64 s] 3)) := (Below.refl _ w6).alloc (Nat.le_refl _) _
   have HN := Lib.hid (one_new (blk_new w6 (.cells #[.int .i64 s] 3)))
   have HB7 := Lib.hid (below_then HB6.out HB6.out.size hal)
   have HT7 := Lib.hid (HT6.out.below hal)
   clear hal
   go_wp2_with fail
   generalize w6.alloc (.cells #[.int .i64 s] 3) = w7 at HN HB7 HT7 ⊢
   refine (eset_any w7 (HWE.out.below HB7.out) HT7.out HGood.out HF.out (H := none) (hc := 0) (hs := []) (nilC _ _) (Nat.le_refl _) (by decide) (by simp) 0 (some ⟨w6.heap.size, 0, none⟩) 1 [s] HN.out (Nat.le_refl _) (by simp)).mono ?_
   generalize setP st [] 0 [s] = a2 at *
   rintro e w8 ⟨rfl, _, hb8⟩
   have HB8 := Lib.hid (below_then HB7.out HB7.out.size hb8)
   clear hb8 HN
   have hk := (HB8.out.block _ (lt_of_block HG.out)).trans HG.out
   have x0 : w8.cell? ⟨w.heap.size, 0, none⟩ = some (.int .i64 v) := blk_cell hk 0
   have x1 : w8.cell? ⟨w.heap.size, 1, none⟩ = some (.slice (some ad) st.length ca) := blk_cell hk 1
   have x2 : w8.cell? ⟨w.heap.size, 2, none⟩ = some (.slice B tr.length cb) := blk_cell hk 2
   clear hk
   go_wp2_with fail
   refine (rwhole_any v w8 (HM.out.below HB8.out) HGood.out (a2 + 1) (by omega)).mono ?_
   rw [HBw.out]
   rintro e w9 ⟨rfl, hb9⟩
   have HB9 := Lib.hid (below_then HB8.out HB8.out.size hb9)
   clear hb9 x0 x1 x2
   obtain ⟨sn, rfl⟩ : ∃ sn : Nat, s = (sn : Int) := ⟨s.toNat, by omega⟩
   go_wp2_with fail
   refine (hasb_any a2 sn (by omega) (by omega) w9).mono ?_
   rw [show a2.testBit sn = true from HBb.out]
   rintro e wa ⟨rfl, hba⟩
   have HBa := Lib.hid (below_then HB9.out HB9.out.size hba)
   clear hba
   go_wp2_with fail
   go_ret
   exact ⟨rfl, HFin.out _ HBa.out⟩
  ·go_wp2_with fail
   go_ret
   exact ⟨rfl, HFin.out _ HB6.out⟩
  ·go_wp2_with fail
   go_ret
   exact ⟨rfl, HFin.out _ HB6.out⟩
  ·go_wp2_with fail
   go_ret
   exact ⟨rfl, HFin.out _ HB6.out⟩
end Go.Proofs.YtemoonhnncopoaaGreatDoor
end
section
namespace Go.Proofs.YtemoonhnncopoaaGreatDoor
open Go.ChangeShapes Go.WideShapes Go.RowKit PX Go.Proofs.YtemoonhnncopoaaGreatDoorW.PrintWords
namespace Door
abbrev laid5 : List (String × DataW Unit) := [("math/bits.deBruijn32tab", Rows.laid_math_bits_deBruijn32tab), ("math/bits.deBruijn64tab", Rows.laid_math_bits_deBruijn64tab), ("internal/strconv.uint64pow10", Rows.laid_internal_strconv_uint64pow10), ("strconv.ErrRange", Rows.laid_strconv_ErrRange), ("strconv.ErrSyntax", Rows.laid_strconv_ErrSyntax)]
theorem gRange : Tryz.prog.globalNamed "strconv.ErrRange" = some 3 := by kernel_rfl
theorem gRangeT : (Tryz.prog.globals[3]?).map (·.type) = some 37 := by kernel_rfl
theorem gPow : Tryz.prog.globalNamed "internal/strconv.uint64pow10" = some 4 := by kernel_rfl
theorem gPowT : (Tryz.prog.globals[4]?).map (·.type) = some 261 := by kernel_rfl
theorem powT : Tryz.prog.underlying 261 = some (.array 20 170) := by kernel_rfl
theorem powIs {H : Type} : (Rows.laid_internal_strconv_uint64pow10 : DataW H) = Lib.tabData .u64 Lib.pow10Tab := rfl
theorem laid_of_met5 {W : World} (h : laidMet Tryz.prog laid5 W) : Laid W := by
 obtain ⟨g, t, cs, fuel, p, h1, h2, h3, h4⟩ := Lib.laidMet.reads h (n := "strconv.ErrRange") (d := Rows.laid_strconv_ErrRange) (.tail _ (.tail _ (.tail _ (.head _))))
 obtain rfl := Option.some.inj (gRange.symm.trans h1)
 obtain rfl := Option.some.inj (gRangeT.symm.trans h2)
 obtain ⟨_, u, v, he, _, _⟩ := iface_of_trod Tryz.underlying37 h4
 have hc : cs = #[.iface u v] := Array.eq_one_of_toList he
 subst hc
 obtain ⟨g, t, cs, fuel, p, k1, k2, k3, k4⟩ := Lib.laidMet.reads h (n := "internal/strconv.uint64pow10") (d := Rows.laid_internal_strconv_uint64pow10) (.tail _ (.tail _ (.head _)))
 obtain rfl := Option.some.inj (gPow.symm.trans k1)
 obtain rfl := Option.some.inj (gPowT.symm.trans k2)
 refine ⟨⟨u, v, h3⟩, ?_⟩
 unfold Lib.TabIs
 rw [powIs] at k4
 rw [k3, ← Lib.cells_of_tab powT (by kernel_rfl) (by kernel_rfl) (by kernel_rfl) k4]
theorem laid_of5 {W : World} (h : laidMetH Tryz.prog laid5 W) : Laid W := laid_of_met5 (laidMetH_iff.1 h).1
def cellsOfData : DataW Unit → Array Value
 | .agg l => (l.map fun | .lit (.int k z) => Value.int k z | _ => .nilIface).toArray
 | _ => #[]
noncomputable def laidWorld (os : Os) : World :=
 let N := (World.holding Tryz.prog os ⟨#[], #[], []⟩).heap.size
 let w0 := World.holding Tryz.prog os ⟨#[.cells #[.string ⟨#[118, 97, 108, 117, 101, 32, 111, 117, 116, 32, 111, 102, 32, 114, 97, 110, 103, 101]⟩] 253, .cells #[.string ⟨#[105, 110, 118, 97, 108, 105, 100, 32, 115, 121, 110, 116, 97, 120]⟩] 253], #[], []⟩
 let put (h : Array Obj) (g : Nat) (cs : Array Value) : Array Obj := h.modify g fun
  | .cells _ t frozen => .cells cs t frozen
  | o => o
 { w0 with heap := put (put (put (put (put (put w0.heap
   1 (cellsOfData Rows.laid_math_bits_deBruijn32tab)) 5 (cellsOfData Rows.laid_math_bits_deBruijn64tab)) 4 (cellsOfData Rows.laid_internal_strconv_uint64pow10))
   0 #[.iface 213 (.agg #[.pointer (some ⟨6, 37, none⟩)])]) 3 #[.iface 251 (.pointer (some ⟨N, 0, none⟩))]) 2 #[.iface 251 (.pointer (some ⟨N + 1, 0, none⟩))] }
theorem met5 (os : Os) (args : Array Value) : laidMet Tryz.prog laid5 ((laidWorld os).forCall (fun _ _ => 0) ⟨#[], args, []⟩).memory :=
 laidMet_of_run3 10 (by kernel_rfl) (by kernel_rfl) (by kernel_rfl)
theorem met5H (os : Os) (args : Array Value) : laidMetH Tryz.prog laid5 ((laidWorld os).forCall (fun _ _ => 0) ⟨#[], args, []⟩).memory :=
 laidMetH_of_parts (met5 os args) (by kernel_rfl)
end Door
end Go.Proofs.YtemoonhnncopoaaGreatDoor
end
section
namespace Go.Proofs.YtemoonhnncopoaaGreatDoor
open Go.ChangeShapes Go.WideShapes Go.RowKit PX Go.Proofs.YtemoonhnncopoaaGreatDoorW.PrintWords
namespace Door
theorem gTzT : (Tryz.prog.globals[1]?).map (·.type) = some 228 := by kernel_rfl
theorem tzT : Tryz.prog.underlying 228 = some (.array 32 5) := by kernel_rfl
theorem tzIs {H : Type} : (Rows.laid_math_bits_deBruijn32tab : DataW H) = Lib.tabData .u8 (Lib.deBruijn32tab.map Int.ofNat) := rfl
theorem laid_of5z {W : World} (h : laidMetH Tryz.prog laid5 W) : LaidZ W := by
 refine ⟨laid_of5 h, ?_⟩
 obtain ⟨g, t, cs, fuel, p, k1, k2, k3, k4⟩ := Lib.laidMet.reads (laidMetH_iff.1 h).1 (n := "math/bits.deBruijn32tab") (d := Rows.laid_math_bits_deBruijn32tab) (.head _)
 obtain rfl := Option.some.inj (gTz.symm.trans k1)
 obtain rfl := Option.some.inj (gTzT.symm.trans k2)
 unfold Lib.TabIs
 rw [tzIs] at k4
 rw [k3, ← Lib.cells_of_tab tzT (by kernel_rfl) (by kernel_rfl) (by kernel_rfl) k4]
end Door
end Go.Proofs.YtemoonhnncopoaaGreatDoor
end
