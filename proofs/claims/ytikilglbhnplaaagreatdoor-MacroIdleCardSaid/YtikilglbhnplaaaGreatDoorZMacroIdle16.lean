/- Texts of this claim, merged (Chk, Chup, ChFeww, ActArg, KdArg, ChFew, ChLaw, Actone, Tre, Tset, Tbel). -/
import Derived.OpenShut
import Derived.Deep.RegionLawGrows
import Derived.Laws.BitsAllLaws
import Derived.Test.YtikilglbhnplaaaGreatDoorZMacroIdle15
import Derived.Test.YtikilglbhnplaaaGreatDoorZMacroIdle11
import Derived.Test.YtikilglbhnplaaaGreatDoorZMacroIdle12
import Derived.Test.YtikilglbhnplaaaGreatDoorZMacroIdle13
import Derived.Test.YtikilglbhnplaaaGreatDoorZMacroIdle1
import Derived.Test.YtikilglbhnplaaaGreatDoorZMacroIdle6
import Derived.Test.YtikilglbhnplaaaGreatDoorZMacroIdle7
import Derived.Test.YtikilglbhnplaaaGreatDoorZMacroIdle14
set_option linter.unusedVariables false
set_option linter.unusedSimpArgs false
set_option maxRecDepth 100000
set_option maxHeartbeats 16000000
section
namespace Go.Proofs.YtikilglbhnplaaaGreatDoor
open Go.RowKit Go.Proofs.YtikilglbhnplaaaGreatDoorW.PrintWords
open PX (T V)
def findBad (f : Int → Int) : Nat → Int → Option (Int × Int)
 | 0, _ => none
 | n + 1, i => if f i ≠ 0 then some (i, f i) else findBad f n (i + 1)
theorem findBad_none (f : Int → Int) (n : Nat) : ∀ i : Int, findBad f n i = none ↔ ∀ j : Int, i ≤ j → j < i + n → f j = 0 := by
 induction n with
 | zero => intro i; simp [findBad]; intro j h1 h2; omega
 | succ n ih =>
  intro i
  simp only [findBad]
  by_cases h : f i = 0
  ·rw [if_neg (fun h' => h' h), ih (i + 1)]
   constructor
   ·intro hh j h1 h2
    by_cases e : j = i
    ·rw [e]; exact h
    ·exact hh j (by omega) (by push_cast at h2; omega)
   ·intro hh j h1 h2
    exact hh j (by omega) (by push_cast; omega)
  ·rw [if_pos h]
   constructor
   ·intro hh; cases hh
   ·intro hh; exact absurd (hh i (Int.le_refl _) (by push_cast; omega)) h
noncomputable def chkP (v : Int) (st : List Sta) (tr : List Tra) : Er :=
 if v < 0 ∨ 8 < v ∨ st.length < 1 ∨ 24 < st.length ∨ 40 < tr.length then .code 3
 else match findBad (stateP v st) st.length 0 with
  | some (i, c) => .spot i c
  | none => match findBad (fun i => transP v st (PAll.rd_T63 tr i)) tr.length 0 with
   | some (i, c) => .spot ((st.length : Int) + i) c
   | none => .none
structure FewC (st : List Sta) (tr : List Tra) : Prop where
 s : ∀ x ∈ st, x.f3.length ≤ 1000 ∧ x.f4.length ≤ 1000 ∧ ∀ a ∈ x.f3 ++ x.f4, a.f3.size ≤ 281474976710656
 t : ∀ x ∈ tr, x.f2.size ≤ 281474976710656 ∧ ∀ a ∈ x.f5, a.f3.size ≤ 281474976710656
theorem rdS_mem (st : List Sta) (q : Nat) (h : q < st.length) : PAll.rd_T66 st (q : Int) ∈ st := by
 have : PAll.rd_T66 st (q : Int) = st[q] := by simp [PAll.rd_T66, List.getD_eq_getElem?_getD, List.getElem?_eq_getElem h]
 rw [this]; exact List.getElem_mem h
theorem rdT_mem (tr : List Tra) (q : Nat) (h : q < tr.length) : PAll.rd_T63 tr (q : Int) ∈ tr := by
 have : PAll.rd_T63 tr (q : Int) = tr[q] := by simp [PAll.rd_T63, List.getD_eq_getElem?_getD, List.getElem?_eq_getElem h]
 rw [this]; exact List.getElem_mem h
theorem state_par {v : Int} {st : List Sta} {i : Int} (h : stateP v st i = 0) : (i = 0 → (PAll.rd_T66 st i).f0 = 2) ∧ parP st i = 0 := by
 unfold stateP at h
 split at h
 ·omega
 ·rename_i h1
  split at h
  ·rename_i h2; exact absurd h h2
  ·rename_i h2
   exact ⟨fun e => Classical.byContradiction fun h' => h1 (.inr (.inr ⟨e, h'⟩)), Classical.not_not.1 h2⟩
theorem par_ok {st : List Sta} {i : Int} (h0 : 0 < i) (h : parP st i = 0) : 0 ≤ (PAll.rd_T66 st i).f1 ∧ ((PAll.rd_T66 st i).f1 = i - 1 ∨ inC st (i - 1) (PAll.rd_T66 st i).f1 = true) := by
 unfold parP at h
 rw [if_neg (by omega)] at h
 split at h
 ·omega
 ·rename_i h1
  split at h
  ·omega
  ·rename_i h2
   refine ⟨by omega, ?_⟩
   by_cases e : (PAll.rd_T66 st i).f1 = i - 1
   ·exact .inl e
   ·exact .inr (by
     cases hh : inC st (i - 1) (PAll.rd_T66 st i).f1 with
     | true => rfl
     | false => exact absurd ⟨e, hh⟩ h2)
theorem ahead_of {v : Int} {st : List Sta} (h : ∀ j : Int, 0 ≤ j → j < (st.length : Int) → stateP v st j = 0) : Ahead st := by
 intro i h0 h1
 obtain ⟨p1, p2⟩ := state_par (h i h0 h1)
 by_cases z : i = 0
 ·subst z
  have hk := p1 rfl
  have hp : (PAll.rd_T66 st 0).f1 = -1 := by
   unfold parP at p2
   rw [if_pos rfl] at p2
   split at p2
   ·assumption
   ·omega
  exact ⟨by omega, fun h => by omega, fun _ => by rw [hk]; rfl⟩
 ·obtain ⟨q1, q2⟩ := par_ok (by omega) p2
  refine ⟨?_, fun _ => q1, fun h => absurd h z⟩
  rcases q2 with q2 | q2
  ·omega
  ·have := inC_lt q2; omega
theorem check_any (v : Int) (A B : Option Addr) (ca cb : Nat) (st : List Sta) (tr : List Tra) (hF : FewC st tr) (w : World) (hw : Laid w) (hM : ChM w A ca st B cb tr) :
  Calls Tryz.prog 35 #[ckV v A B st.length tr.length ca cb] w fun e w' => ∃ ev, e = .returned ev ∧ ErV w.heap.size w' ev (chkP v st tr) ∧ Below w.heap.size w w' := by
 have hb1 : Below w.heap.size w (w.alloc (.cells #[.int .i64 v, .slice A st.length ca, .slice B tr.length cb] 25)) := (Below.refl _ w).alloc (Nat.le_refl _) _
 by_cases hbad : v < 0 ∨ 8 < v ∨ st.length < 1 ∨ 24 < st.length ∨ 40 < tr.length
 ·have HR : Hid (chkP v st tr = .code 3) := Lib.hid (by unfold chkP; rw [if_pos hbad])
  have HB1 := Lib.hid hb1
  have hor : decide (v < 0) = true ∨ (decide (v < 0) = false ∧ decide (v > 8) = true) ∨ (decide (v < 0) = false ∧ decide (v > 8) = false ∧ decide ((st.length : Int) < 1) = true) ∨ (decide (v < 0) = false ∧ decide (v > 8) = false ∧ decide ((st.length : Int) < 1) = false ∧ decide ((st.length : Int) > 24) = true) ∨ (decide (v < 0) = false ∧ decide (v > 8) = false ∧ decide ((st.length : Int) < 1) = false ∧ decide ((st.length : Int) > 24) = false ∧ decide ((tr.length : Int) > 40) = true) := by
   by_cases c1 : v < 0
   ·exact .inl (decide_eq_true c1)
   by_cases c2 : 8 < v
   ·exact .inr (.inl ⟨decide_eq_false c1, decide_eq_true c2⟩)
   by_cases c3 : st.length < 1
   ·exact .inr (.inr (.inl ⟨decide_eq_false c1, decide_eq_false c2, decide_eq_true (by omega)⟩))
   by_cases c4 : 24 < st.length
   ·exact .inr (.inr (.inr (.inl ⟨decide_eq_false c1, decide_eq_false c2, decide_eq_false (by omega), decide_eq_true (by omega)⟩)))
   exact .inr (.inr (.inr (.inr ⟨decide_eq_false c1, decide_eq_false c2, decide_eq_false (by omega), decide_eq_false (by omega), decide_eq_true (by omega)⟩)))
  clear hbad hb1
  go_enter Tryz.func35, Tryz.ntmps35
  rcases hor with q1 | ⟨q1, q2⟩ | ⟨q1, q2, q3⟩ | ⟨q1, q2, q3, q4⟩ | ⟨q1, q2, q3, q4, q5⟩
  all_goals
   go_wp2_with fail
   go_ret
   exact ⟨_, rfl, by rw [HR.out]; rfl, HB1.out⟩
 have hb0 : Below w.heap.size w ((w.alloc (.cells #[.int .i64 v, .slice A st.length ca, .slice B tr.length cb] 25)).alloc (.cells #[.int .i64 v, .slice A st.length ca, .slice B tr.length cb] 136)) := hb1.alloc (by simp) _
 have HB0 := Lib.hid hb0
 have HW := Lib.hid (hw.below hb0)
 have HM := Lib.hid (hM.below hb0)
 have HFs := Lib.hid hF.s
 have HFt := Lib.hid hF.t
 obtain ⟨hk1, hk2, _, _⟩ := boxed2 (Below.refl _ ((w.alloc (.cells #[.int .i64 v, .slice A st.length ca, .slice B tr.length cb] 25)).alloc (.cells #[.int .i64 v, .slice A st.length ca, .slice B tr.length cb] 136)))
 have HCC := Lib.hid hk1
 have HCK := Lib.hid hk2
 have hP : chkP v st tr = match findBad (stateP v st) st.length 0 with
  | some (i, c) => .spot i c
  | none => match findBad (fun i => transP v st (PAll.rd_T63 tr i)) tr.length 0 with
   | some (i, c) => .spot ((st.length : Int) + i) c
   | none => .none := by unfold chkP; rw [if_neg hbad]
 have HP := Lib.hid hP
 have q1 : decide (v < 0) = false := decide_eq_false (by omega)
 have q2 : decide (v > 8) = false := decide_eq_false (by omega)
 have q3 : decide ((st.length : Int) < 1) = false := decide_eq_false (by omega)
 have q4 : decide ((st.length : Int) > 24) = false := decide_eq_false (by omega)
 have q5 : decide ((tr.length : Int) > 40) = false := decide_eq_false (by omega)
 have hn : st.length ≤ 24 := by omega
 have hm : tr.length ≤ 40 := by omega
 have hlt0 : w.heap.size + 1 < ((w.alloc (.cells #[.int .i64 v, .slice A st.length ca, .slice B tr.length cb] 25)).alloc (.cells #[.int .i64 v, .slice A st.length ca, .slice B tr.length cb] 136)).heap.size := by simp
 clear hbad hb1 hb0 hw hM hF hk1 hk2 hP
 go_enter Tryz.func35, Tryz.ntmps35
 go_wp2_with fail
 generalize hw0 : (w.alloc (.cells #[.int .i64 v, .slice A st.length ca, .slice B tr.length cb] 25)).alloc (.cells #[.int .i64 v, .slice A st.length ca, .slice B tr.length cb] 136) = w0 at HB0 HW HM HCC HCK hlt0 ⊢
 have hfin : ∀ wr, Below w0.heap.size w0 wr → Below w.heap.size w wr := fun wr h => HB0.out.trans (h.mono HB0.out.size)
 have HFin := Lib.hid hfin
 clear hw0 hfin q1 q2 q3 q4 q5
 go_loopw [41] (fun i wr => ∃ q : Nat, i = .int .i64 q ∧ q ≤ st.length ∧ Hid (Below w0.heap.size w0 wr) ∧ Hid (findBad (stateP v st) st.length 0 = findBad (stateP v st) (st.length - q) (q : Int)) ∧ Hid (∀ j : Int, 0 ≤ j → j < (q : Int) → stateP v st j = 0)) (fun i _ => st.length - (intOf i).toNat)
 case atStart => exact ⟨0, rfl, Nat.zero_le _, Lib.hid (Below.refl _ _), Lib.hid rfl, Lib.hid (fun j h1 h2 => by omega)⟩
 case round =>
  obtain ⟨q, rfl, hq, HB, HE, HZ⟩ := hrel
  have hcc := (HB.out.block _ (lt_of_block HCC.out)).trans HCC.out
  have hck := (HB.out.block _ (lt_of_block HCK.out)).trans HCK.out
  obtain ⟨y0, y1, y2⟩ := chk_cells hck
  by_cases hlt : q < st.length
  ·have p1 : ((q : Int) < (st.length : Int)) = True := eq_true (by omega)
   have hmem := HFs.out _ (rdS_mem st q hlt)
   have HMem := Lib.hid hmem
   have HE2 := HE.out
   rw [show st.length - q = (st.length - (q + 1)) + 1 by omega] at HE2
   simp only [findBad] at HE2
   have HE := Lib.hid HE2
   clear hcc hck hmem HE2
   go_wp2_with fail
   refine (state_any v A B ca cb st tr (q : Int) (by omega) (by omega) (by omega) HMem.out.2.2 HMem.out.1 HMem.out.2.1 _ (HW.out.below HB.out) (HM.out.below HB.out)).mono ?_
   by_cases hz : stateP v st (q : Int) = 0
   ·have HE3 : Hid (findBad (stateP v st) st.length 0 = findBad (stateP v st) (st.length - (q + 1)) ((q + 1 : Nat) : Int)) := Lib.hid (by rw [HE.out, if_neg (fun h => h hz)]; push_cast; rfl)
    have HZ2 : Hid (∀ j : Int, 0 ≤ j → j < ((q + 1 : Nat) : Int) → stateP v st j = 0) := Lib.hid (fun j h1 h2 => by
     by_cases e : j = (q : Int)
     ·rw [e]; exact hz
     ·exact HZ.out j h1 (by push_cast at h2; omega))
    rw [hz]
    clear hz HE HZ
    rintro e w2 ⟨rfl, hb2⟩
    have HB2 := Lib.hid (below_then HB.out HB.out.size hb2)
    clear hb2 y0 y1 y2
    go_wp2_with fail
    go_roundw
    case rel => exact ⟨q + 1, by go_num, by omega, HB2, HE3, HZ2⟩
    case measure => simp [intOf]; omega
   ·have HR : Hid (chkP v st tr = .spot q (stateP v st (q : Int))) := Lib.hid (by rw [HP.out, HE.out, if_pos hz])
    have d1 : (stateP v st (q : Int) == 0) = false := by simp [hz]
    have d2 : (stateP v st (q : Int) != 0) = true := by simp [hz]
    generalize stateP v st (q : Int) = c at HR d1 d2 ⊢
    clear hz HE HZ
    rintro e w2 ⟨rfl, hb2⟩
    have HB2 := Lib.hid (below_then HB.out HB.out.size hb2)
    clear hb2 y0 y1 y2
    go_wp2_with fail
    go_ret
    exact ⟨_, rfl, by rw [HR.out]; exact ⟨w2.heap.size, rfl, by have := HB2.out.size; have := HB0.out.size; omega, blk_new w2 _⟩, HFin.out _ (HB2.out.alloc HB2.out.size _)⟩
  ·obtain rfl : q = st.length := by omega
   have ha : Ahead st := ahead_of (v := v) (fun j h1 h2 => HZ.out j h1 h2)
   have HP1 : Hid (chkP v st tr = match findBad (fun i => transP v st (PAll.rd_T63 tr i)) tr.length 0 with
    | some (i, c) => .spot ((st.length : Int) + i) c
    | none => .none) := Lib.hid (by rw [HP.out, HE.out, Nat.sub_self]; rfl)
   have z0 : wr.cell? ⟨w.heap.size, 0, none⟩ = some (.int .i64 v) := blk_cell hcc 0
   have z1 : wr.cell? ⟨w.heap.size, 1, none⟩ = some (.slice A st.length ca) := blk_cell hcc 1
   have z2 : wr.cell? ⟨w.heap.size, 2, none⟩ = some (.slice B tr.length cb) := blk_cell hcc 2
   have p1 : ((st.length : Int) < (st.length : Int)) = False := eq_false (by omega)
   have HB1 := HB
   clear hcc hck HP HE HZ hq hlt HB
   go_wp2_with fail
   go_loopw [58] (fun i wr => ∃ q : Nat, i = .int .i64 q ∧ q ≤ tr.length ∧ Hid (Below w0.heap.size w0 wr) ∧ Hid (findBad (fun i => transP v st (PAll.rd_T63 tr i)) tr.length 0 = findBad (fun i => transP v st (PAll.rd_T63 tr i)) (tr.length - q) (q : Int))) (fun i _ => tr.length - (intOf i).toNat)
   case atStart => exact ⟨0, rfl, Nat.zero_le _, HB1, Lib.hid rfl⟩
   case round =>
    clear HB1 y0 y1 y2 z0 z1 z2
    obtain ⟨q, rfl, hq, HB, HE⟩ := hrel
    by_cases hlt : q < tr.length
    ·have p2 : ((q : Int) < (tr.length : Int)) = True := eq_true (by omega)
     have hmem := HFt.out _ (rdT_mem tr q hlt)
     obtain ⟨ad, A3, c3, A5, c5, rfl, a0, a1, a2, a3, a4, a5, l3, g3, l5, g5⟩ := PAll.at_T63 (HM.out.below HB.out).ct (q : Int) (by omega) (by omega)
     rw [Int.toNat_natCast] at a0 a1 a2 a3 a4 a5
     have HE2 := HE.out
     rw [show tr.length - q = (tr.length - (q + 1)) + 1 by omega] at HE2
     simp only [findBad] at HE2
     generalize PAll.rd_T63 tr (q : Int) = x at a0 a1 a2 a3 a4 a5 l3 g3 l5 g5 hmem HE2
     obtain ⟨f0, f1, f2, f3, f4, f5⟩ := x
     simp only at a0 a1 a2 a3 a4 a5 l3 g3 l5 g5 hmem
     have HMem := Lib.hid hmem
     have HE := Lib.hid HE2
     have HBA := Lib.hid (HB.out.alloc HB.out.size (.cells #[.int .i64 f0, .int .i64 f1, .string f2, .slice A3 f3.length c3, .bool f4, .slice A5 f5.length c5] 63))
     have HMA := Lib.hid (HM.out.below HBA.out)
     have H3 := Lib.hid (Kd.C_alloc g3 (.cells #[.int .i64 f0, .int .i64 f1, .string f2, .slice A3 f3.length c3, .bool f4, .slice A5 f5.length c5] 63))
     have H5 := Lib.hid (Kd.C_alloc g5 (.cells #[.int .i64 f0, .int .i64 f1, .string f2, .slice A3 f3.length c3, .bool f4, .slice A5 f5.length c5] 63))
     have hck := (HBA.out.block _ (lt_of_block HCK.out)).trans HCK.out
     obtain ⟨y0, y1, y2⟩ := chk_cells hck
     clear hmem HE2 g3 g5 hck
     go_wp2_with fail
     refine (trans_any v A (some ad) ca cb st tr ha (by omega) f0 f1 f2 HMem.out.1 A3 c3 f3 l3 f4 A5 c5 f5 l5 HMem.out.2 _ (HW.out.below HBA.out) HMA.out H3.out H5.out).mono ?_
     by_cases hz : transP v st ⟨f0, f1, f2, f3, f4, f5⟩ = 0
     ·have HE3 : Hid (findBad (fun i => transP v st (PAll.rd_T63 tr i)) tr.length 0 = findBad (fun i => transP v st (PAll.rd_T63 tr i)) (tr.length - (q + 1)) ((q + 1 : Nat) : Int)) := Lib.hid (by rw [HE.out, if_neg (fun h => h hz)]; push_cast; rfl)
      rw [hz]
      clear hz HE
      rintro e w2 ⟨rfl, hb2⟩
      have HB2 := Lib.hid (below_then HBA.out HBA.out.size hb2)
      clear hb2 y0 y1 y2 a0 a1 a2 a3 a4 a5
      go_wp2_with fail
      go_roundw
      case rel => exact ⟨q + 1, by go_num, by omega, HB2, HE3⟩
      case measure => simp [intOf]; omega
     ·have HR : Hid (chkP v st tr = .spot ((st.length : Int) + q) (transP v st ⟨f0, f1, f2, f3, f4, f5⟩)) := Lib.hid (by rw [HP1.out, HE.out, if_pos hz])
      have d1 : (transP v st ⟨f0, f1, f2, f3, f4, f5⟩ == 0) = false := by simp [hz]
      have d2 : (transP v st ⟨f0, f1, f2, f3, f4, f5⟩ != 0) = true := by simp [hz]
      generalize transP v st ⟨f0, f1, f2, f3, f4, f5⟩ = c at HR d1 d2 ⊢
      clear hz HE
      rintro e w2 ⟨rfl, hb2⟩
      have HB2 := Lib.hid (below_then HBA.out HBA.out.size hb2)
      have hcc := (HB2.out.block _ (lt_of_block HCC.out)).trans HCC.out
      have z1 : w2.cell? ⟨w.heap.size, 1, none⟩ = some (.slice A st.length ca) := blk_cell hcc 1
      clear hb2 y0 y1 y2 a0 a1 a2 a3 a4 a5 hcc
      go_wp2_with fail
      go_ret
      exact ⟨_, rfl, by rw [HR.out]; exact ⟨w2.heap.size, rfl, by have := HB2.out.size; have := HB0.out.size; omega, blk_new w2 _⟩, HFin.out _ (HB2.out.alloc HB2.out.size _)⟩
    ·obtain rfl : q = tr.length := by omega
     have HR : Hid (chkP v st tr = .none) := Lib.hid (by rw [HP1.out, HE.out, Nat.sub_self]; rfl)
     have p2 : ((tr.length : Int) < (tr.length : Int)) = False := eq_false (by omega)
     go_wp2_with fail
     go_ret
     exact ⟨_, rfl, by rw [HR.out]; rfl, HFin.out _ HB.out⟩
end Go.Proofs.YtikilglbhnplaaaGreatDoor
end
section
namespace Go.Proofs.YtikilglbhnplaaaGreatDoor
open Go.RowKit Go.Proofs.YtikilglbhnplaaaGreatDoorW.PrintWords
open PX (T V)
theorem nilC {α : Type} (d : Kd α) (w : World) : d.C w none ([] : List α).length [] := ⟨rfl, by simp, fun h => by simp at h⟩
theorem one_new {W : World} {g ty : Nat} {x : Int} (h : W.heap[g]? = some (.cells #[.int .i64 x] ty (0, 0))) : (Kd.int .i64).C W (some ⟨g, 0, none⟩) ([x] : List Int).length [x] := by
 refine ⟨rfl, by simp, fun _ => ⟨_, rfl, ?_⟩⟩
 intro j p hj
 match j, hj with
 | 0, hj =>
  simp only [List.getElem?_cons_zero, Option.some.injEq] at hj
  subst hj
  refine ⟨[.int .i64 x], rfl, rfl, ?_⟩
  intro i u hi
  rw [add_at]
  match i, hi with
  | 0, hi => simp only [List.getElem?_cons_zero, Option.some.injEq] at hi; subst hi; exact blk_cell h 0
  | n + 1, hi => simp at hi
 | n + 1, hj => simp at hj
theorem states2 {W : World} {g : Nat} {k0 p0 k1 p1 : Int} {i0 : List Int} {A0 : Option Addr} {c0 : Nat}
  (h : W.heap[g]? = some (.cells #[.int .i64 k0, .int .i64 p0, .slice A0 i0.length c0, .slice none 0 0, .slice none 0 0, .int .i64 k1, .int .i64 p1, .slice none 0 0, .slice none 0 0, .slice none 0 0] 66 (0, 0)))
  (hc : i0.length ≤ c0) (hi : (Kd.int .i64).C W A0 i0.length i0) :
  Kd.C PAll.k66 W (some ⟨g, 0, none⟩) ([⟨k0, p0, i0, [], []⟩, ⟨k1, p1, [], [], []⟩] : List Sta).length [⟨k0, p0, i0, [], []⟩, ⟨k1, p1, [], [], []⟩] := by
 refine ⟨rfl, by simp, fun _ => ⟨_, rfl, ?_⟩⟩
 intro j p hj
 match j, hj with
 | 0, hj =>
  simp only [List.getElem?_cons_zero, Option.some.injEq] at hj
  subst hj
  refine ⟨_, rfl, PAll.k66_mk W _ (A2 := A0) (c2 := c0) hc hi (A3 := none) (c3 := 0) (Nat.le_refl _) (nilC _ W) (A4 := none) (c4 := 0) (Nat.le_refl _) (nilC _ W), ?_⟩
  intro i u hu
  rw [add_at]
  match i, hu with
  | 0, hu => simp only [List.getElem?_cons_zero, List.getElem?_cons_succ, Option.some.injEq] at hu; subst hu; exact blk_cell h 0
  | 1, hu => simp only [List.getElem?_cons_zero, List.getElem?_cons_succ, Option.some.injEq] at hu; subst hu; exact blk_cell h 1
  | 2, hu => simp only [List.getElem?_cons_zero, List.getElem?_cons_succ, Option.some.injEq] at hu; subst hu; exact blk_cell h 2
  | 3, hu => simp only [List.getElem?_cons_zero, List.getElem?_cons_succ, Option.some.injEq] at hu; subst hu; exact blk_cell h 3
  | 4, hu => simp only [List.getElem?_cons_zero, List.getElem?_cons_succ, Option.some.injEq] at hu; subst hu; exact blk_cell h 4
  | n + 5, hu => simp at hu
 | 1, hj =>
  simp only [List.getElem?_cons_zero, List.getElem?_cons_succ, Option.some.injEq] at hj
  subst hj
  refine ⟨_, rfl, PAll.k66_mk W _ (A2 := none) (c2 := 0) (Nat.le_refl _) (nilC _ W) (A3 := none) (c3 := 0) (Nat.le_refl _) (nilC _ W) (A4 := none) (c4 := 0) (Nat.le_refl _) (nilC _ W), ?_⟩
  intro i u hu
  rw [add_at]
  match i, hu with
  | 0, hu => simp only [List.getElem?_cons_zero, List.getElem?_cons_succ, Option.some.injEq] at hu; subst hu; exact blk_cell h 5
  | 1, hu => simp only [List.getElem?_cons_zero, List.getElem?_cons_succ, Option.some.injEq] at hu; subst hu; exact blk_cell h 6
  | 2, hu => simp only [List.getElem?_cons_zero, List.getElem?_cons_succ, Option.some.injEq] at hu; subst hu; exact blk_cell h 7
  | 3, hu => simp only [List.getElem?_cons_zero, List.getElem?_cons_succ, Option.some.injEq] at hu; subst hu; exact blk_cell h 8
  | 4, hu => simp only [List.getElem?_cons_zero, List.getElem?_cons_succ, Option.some.injEq] at hu; subst hu; exact blk_cell h 9
  | n + 5, hu => simp at hu
 | n + 2, hj => simp at hj
abbrev least2 : List Sta := [⟨2, -1, [1], [], []⟩, ⟨1, 0, [], [], []⟩]
theorem chk2 : chkP 0 least2 [] = .none := by
 have a0 : stateP 0 least2 0 = 0 := by simp [stateP, parP, kidsP, kidsF, iniP, histP, inC, inF, actsP, PAll.rd_T66, rd]
 have a1 : stateP 0 least2 1 = 0 := by simp [stateP, parP, kidsP, kidsF, iniP, histP, inC, inF, actsP, PAll.rd_T66, rd]
 unfold chkP
 rw [if_neg (by simp)]
 simp [findBad, a0, a1]
end Go.Proofs.YtikilglbhnplaaaGreatDoor
end
section
namespace Go.Proofs.YtikilglbhnplaaaGreatDoor
open Go.RowKit Go.Proofs.YtikilglbhnplaaaGreatDoorW.PrintWords
open PX (T V)
def fewAP (l : List Ac) : Bool := (l.all fun a => decide (a.f3.size ≤ 500)) && decide (l.length ≤ 20)
def fewS (x : Sta) : Bool := fewAP x.f3 && fewAP x.f4 && decide (x.f2.length ≤ 20)
def fewT (x : Tra) : Bool := fewAP x.f5 && decide (x.f3.length ≤ 20) && decide (x.f2.size ≤ 500)
def fewP (st : List Sta) (tr : List Tra) : Bool := decide (st.length ≤ 40) && decide (tr.length ≤ 60) && st.all fewS && tr.all fewT
theorem rdA_eq (l : List Ac) (q : Nat) (h : q < l.length) : PAll.rd_T125 l (q : Int) = l[q] := by
 unfold PAll.rd_T125; rw [List.getD_eq_getElem?_getD, show ((q : Int)).toNat = q from rfl, List.getElem?_eq_getElem h]; rfl
theorem rdSt_eq (l : List Sta) (q : Nat) (h : q < l.length) : PAll.rd_T66 l (q : Int) = l[q] := by
 unfold PAll.rd_T66; rw [List.getD_eq_getElem?_getD, show ((q : Int)).toNat = q from rfl, List.getElem?_eq_getElem h]; rfl
theorem rdTr_eq (l : List Tra) (q : Nat) (h : q < l.length) : PAll.rd_T63 l (q : Int) = l[q] := by
 unfold PAll.rd_T63; rw [List.getD_eq_getElem?_getD, show ((q : Int)).toNat = q from rfl, List.getElem?_eq_getElem h]; rfl
theorem fewA_any (A : Option Addr) (c : Nat) (l : List Ac) (w : World) (h : ActsC w A l.length l) (hl : l.length ≤ 9223372036854775807) :
  Calls Tryz.prog 32 #[.slice A l.length c] w fun e w' => e = .returned (.bool (fewAP l)) ∧ w' = w := by
 have HC := Lib.hid h
 generalize hG : fewAP l = G
 have HG : Hid ((l.all (fun a => decide (a.f3.size ≤ 500)) && decide (l.length ≤ 20)) = G) := Lib.hid hG
 clear h hG
 go_enter Tryz.func32, Tryz.ntmps32
 go_wp2_with fail
 go_loopw [3] (fun i wr => ∃ q : Nat, i = .int .i64 q ∧ q ≤ l.length ∧ Hid (((l.drop q).all (fun a => decide (a.f3.size ≤ 500)) && decide (l.length ≤ 20)) = G) ∧ wr = w) (fun i _ => l.length - (intOf i).toNat)
 case atStart => exact ⟨0, rfl, Nat.zero_le _, Lib.hid (by rw [List.drop_zero]; exact HG.out), rfl⟩
 case round =>
  clear HG
  obtain ⟨q, rfl, hq, HE, rfl⟩ := hrel
  by_cases hlt : q < l.length
  ·obtain ⟨ad, rfl, q0, q1, q2, q3⟩ := PAll.at_T125 HC.out (q : Int) (by omega) (by omega)
   rw [Int.toNat_natCast] at q0 q1 q2 q3
   have p1 : ((q : Int) < (l.length : Int)) = True := eq_true (by omega)
   have HE2 := HE.out
   rw [List.drop_eq_getElem_cons hlt, List.all_cons, ← rdA_eq l q hlt] at HE2
   clear HE
   generalize (PAll.rd_T125 l (q : Int)).f3 = s at *
   by_cases c1 : s.size ≤ 500
   ·have d1 : decide ((s.size : Int) > 500) = false := decide_eq_false (by omega)
    have d1' : decide (500 < s.size) = false := decide_eq_false (by omega)
    have HE3 : Hid (((l.drop (q + 1)).all (fun a => decide (a.f3.size ≤ 500)) && decide (l.length ≤ 20)) = G) := Lib.hid (by rw [← HE2, decide_eq_true c1, Bool.true_and])
    clear HE2 c1
    go_wp2_with fail
    go_roundw
    case rel => exact ⟨q + 1, by go_num, by omega, HE3, by trivial⟩
    case measure => simp [intOf]; omega
   ·have d1 : decide ((s.size : Int) > 500) = true := decide_eq_true (by omega)
    have d1' : decide (500 < s.size) = true := decide_eq_true (by omega)
    have HE3 : Hid (false = G) := Lib.hid (by rw [← HE2, decide_eq_false c1]; rfl)
    clear HE2 c1
    go_wp2_with fail
    go_ret
    exact ⟨by rw [← HE3.out]; rfl, rfl⟩
  ·obtain rfl : q = l.length := by omega
   have hE3 : decide ((l.length : Int) ≤ 20) = G := by rw [← HE.out, List.drop_length, List.all_nil, Bool.true_and, decide_eq_decide]; omega
   have HE3 := Lib.hid hE3
   have p1 : ((l.length : Int) < (l.length : Int)) = False := eq_false (by omega)
   generalize hln : (l.length : Int) = ln at *
   clear HE hE3
   go_wp2_with fail
   go_ret
   exact ⟨by rw [← HE3.out]; rfl, rfl⟩
section
variable {A B : Option Addr} {ca cb : Nat} {st : List Sta} {tr : List Tra} {w : World}
theorem fewc_any (h : ChM w A ca st B cb tr) (v : Int) : Calls Tryz.prog 8 #[ckV v A B st.length tr.length ca cb] w fun e w' => e = .returned (.bool (fewP st tr)) ∧ Below w.heap.size w w' := by
 have hb0 : Below w.heap.size w (w.alloc (.cells #[.int .i64 v, .slice A st.length ca, .slice B tr.length cb] 25)) := (Below.refl _ w).alloc (Nat.le_refl _) _
 have HB0 := Lib.hid hb0
 have HM := Lib.hid (h.below hb0)
 have hg := blk_new w (.cells #[.int .i64 v, .slice A st.length ca, .slice B tr.length cb] 25)
 have y1 : (w.alloc (.cells #[.int .i64 v, .slice A st.length ca, .slice B tr.length cb] 25)).cell? ⟨w.heap.size, 1, none⟩ = some (.slice A st.length ca) := blk_cell hg 1
 have y2 : (w.alloc (.cells #[.int .i64 v, .slice A st.length ca, .slice B tr.length cb] 25)).cell? ⟨w.heap.size, 2, none⟩ = some (.slice B tr.length cb) := blk_cell hg 2
 generalize hG : fewP st tr = G
 have HG : Hid ((decide (st.length ≤ 40) && decide (tr.length ≤ 60) && st.all fewS && tr.all fewT) = G) := Lib.hid hG
 clear h hb0 hg hG
 go_enter Tryz.func8, Tryz.ntmps8
 by_cases c1 : st.length ≤ 40
 rotate_left
 ·have d1 : decide ((st.length : Int) > 40) = true := decide_eq_true (by omega)
  have d1' : decide (40 < st.length) = true := decide_eq_true (by omega)
  have HR : Hid (false = G) := Lib.hid (by rw [← HG.out, decide_eq_false c1]; rfl)
  clear c1 HG
  go_wp2_with fail
  go_ret
  exact ⟨by rw [← HR.out]; rfl, HB0.out⟩
 by_cases c2 : tr.length ≤ 60
 rotate_left
 ·have d1 : decide ((st.length : Int) > 40) = false := decide_eq_false (by omega)
  have d1' : decide (40 < st.length) = false := decide_eq_false (by omega)
  have d2 : decide ((tr.length : Int) > 60) = true := decide_eq_true (by omega)
  have d2' : decide (60 < tr.length) = true := decide_eq_true (by omega)
  have HR : Hid (false = G) := Lib.hid (by rw [← HG.out, decide_eq_false c2, Bool.and_false]; rfl)
  clear c1 c2 HG
  go_wp2_with fail
  go_ret
  exact ⟨by rw [← HR.out]; rfl, HB0.out⟩
 have d1 : decide ((st.length : Int) > 40) = false := decide_eq_false (by omega)
 have d1' : decide (40 < st.length) = false := decide_eq_false (by omega)
 have d2 : decide ((tr.length : Int) > 60) = false := decide_eq_false (by omega)
 have d2' : decide (60 < tr.length) = false := decide_eq_false (by omega)
 have HG2 : Hid ((st.all fewS && tr.all fewT) = G) := Lib.hid (by rw [← HG.out, decide_eq_true c1, decide_eq_true c2]; rfl)
 clear HG
 go_wp2_with fail
 generalize w.alloc (.cells #[.int .i64 v, .slice A st.length ca, .slice B tr.length cb] 25) = w1 at *
 go_loopw [3] (fun i wr => ∃ q : Nat, i = .int .i64 q ∧ q ≤ st.length ∧ Hid (((st.drop q).all fewS && tr.all fewT) = G) ∧ wr = w1) (fun i _ => st.length - (intOf i).toNat)
 case atStart => exact ⟨0, rfl, Nat.zero_le _, Lib.hid (by rw [List.drop_zero]; exact HG2.out), rfl⟩
 case round =>
  clear HG2 d1 d1' d2 d2'
  obtain ⟨q, rfl, hq, HE, rfl⟩ := hrel
  by_cases hlt : q < st.length
  ·obtain ⟨ad, A2, c2, A3, c3, A4, c4, rfl, q0, q1, q2, q3, q4, l2, g2, l3, g3, l4, g4⟩ := PAll.at_T66 HM.out.cs (q : Int) (by omega) (by omega)
   rw [Int.toNat_natCast] at q0 q1 q2 q3 q4
   have p1 : ((q : Int) < (st.length : Int)) = True := eq_true (by omega)
   have HE2 := HE.out
   rw [List.drop_eq_getElem_cons hlt, List.all_cons, ← rdSt_eq st q hlt] at HE2
   unfold fewS at HE2
   have HG3 := Lib.hid g3
   have HG4 := Lib.hid g4
   have hl3 := g3.2.1
   have hl4 := g4.2.1
   clear HE g2 g3 g4 l2 l3 l4
   generalize (PAll.rd_T66 st (q : Int)).f2 = f2 at *
   generalize (PAll.rd_T66 st (q : Int)).f3 = f3 at *
   generalize (PAll.rd_T66 st (q : Int)).f4 = f4 at *
   go_wp2_with fail
   refine (fewA_any A3 c3 f3 wr HG3.out hl3).mono ?_
   rintro e w2 ⟨rfl, h2⟩
   rw [h2]
   clear h2
   go_wp2_with fail
   refine (fewA_any A4 c4 f4 wr HG4.out hl4).mono ?_
   rintro e w2 ⟨rfl, h2⟩
   rw [h2]
   clear h2
   have hcase : (fewAP f3 = false) ∨ (fewAP f3 = true ∧ fewAP f4 = false) ∨ (fewAP f3 = true ∧ fewAP f4 = true ∧ ¬ f2.length ≤ 20) ∨ (fewAP f3 = true ∧ fewAP f4 = true ∧ f2.length ≤ 20) := by
    cases fewAP f3 <;> cases fewAP f4 <;> by_cases e : f2.length ≤ 20 <;> simp [e]
   rcases hcase with a1 | ⟨a1, a2⟩ | ⟨a1, a2, a3⟩ | ⟨a1, a2, a3⟩
   ·have HR : Hid (false = G) := Lib.hid (by rw [← HE2, a1]; rfl)
    rw [a1]
    clear HE2 a1
    go_wp2_with fail
    go_ret
    exact ⟨by rw [← HR.out]; rfl, HB0.out⟩
   ·have HR : Hid (false = G) := Lib.hid (by rw [← HE2, a2, Bool.and_false]; rfl)
    rw [a1, a2]
    clear HE2 a1 a2
    go_wp2_with fail
    go_ret
    exact ⟨by rw [← HR.out]; rfl, HB0.out⟩
   ·have HR : Hid (false = G) := Lib.hid (by rw [← HE2, decide_eq_false a3, Bool.and_false]; rfl)
    have d3 : decide ((f2.length : Int) > 20) = true := decide_eq_true (by omega)
    have d3' : decide (20 < f2.length) = true := decide_eq_true (by omega)
    rw [a1, a2]
    clear HE2 a1 a2 a3
    go_wp2_with fail
    go_ret
    exact ⟨by rw [← HR.out]; rfl, HB0.out⟩
   ·have HR : Hid (((st.drop (q + 1)).all fewS && tr.all fewT) = G) := Lib.hid (by rw [← HE2, a1, a2, decide_eq_true a3]; rfl)
    have d3 : decide ((f2.length : Int) > 20) = false := decide_eq_false (by omega)
    have d3' : decide (20 < f2.length) = false := decide_eq_false (by omega)
    rw [a1, a2]
    clear HE2 a1 a2 a3
    go_wp2_with fail
    go_roundw
    case rel => exact ⟨q + 1, by go_num, by omega, HR, by trivial⟩
    case measure => simp [intOf]; omega
  ·obtain rfl : q = st.length := by omega
   have HG2 : Hid (tr.all fewT = G) := Lib.hid (by rw [← HE.out, List.drop_length]; rfl)
   have p1 : ((st.length : Int) < (st.length : Int)) = False := eq_false (by omega)
   clear HE
   go_wp2_with fail
   go_loopw [6] (fun i wz => ∃ q : Nat, i = .int .i64 q ∧ q ≤ tr.length ∧ Hid ((tr.drop q).all fewT = G) ∧ wz = wr) (fun i _ => tr.length - (intOf i).toNat)
   case atStart => exact ⟨0, rfl, Nat.zero_le _, Lib.hid (by rw [List.drop_zero]; exact HG2.out), rfl⟩
   case round =>
    clear HG2 p1
    obtain ⟨q, rfl, hq, HE, rfl⟩ := hrel
    by_cases hlt : q < tr.length
    ·obtain ⟨ad, A3, c3, A5, c5, rfl, q0, q1, q2, q3, q4, q5, l3, g3, l5, g5⟩ := PAll.at_T63 HM.out.ct (q : Int) (by omega) (by omega)
     rw [Int.toNat_natCast] at q0 q1 q2 q3 q4 q5
     have p1 : ((q : Int) < (tr.length : Int)) = True := eq_true (by omega)
     have HE2 := HE.out
     rw [List.drop_eq_getElem_cons hlt, List.all_cons, ← rdTr_eq tr q hlt] at HE2
     unfold fewT at HE2
     have HG5 := Lib.hid g5
     have hl5 := g5.2.1
     clear HE g3 g5 l3 l5
     generalize (PAll.rd_T63 tr (q : Int)).f2 = f2 at *
     generalize (PAll.rd_T63 tr (q : Int)).f3 = f3 at *
     generalize (PAll.rd_T63 tr (q : Int)).f5 = f5 at *
     go_wp2_with fail
     refine (fewA_any A5 c5 f5 _ HG5.out hl5).mono ?_
     rintro e w2 ⟨rfl, h2⟩
     rw [h2]
     clear h2
     have hcase : (fewAP f5 = false) ∨ (fewAP f5 = true ∧ ¬ f3.length ≤ 20) ∨ (fewAP f5 = true ∧ f3.length ≤ 20 ∧ ¬ f2.size ≤ 500) ∨ (fewAP f5 = true ∧ f3.length ≤ 20 ∧ f2.size ≤ 500) := by
      cases fewAP f5 <;> by_cases e : f3.length ≤ 20 <;> by_cases e' : f2.size ≤ 500 <;> simp [e, e']
     rcases hcase with a1 | ⟨a1, a2⟩ | ⟨a1, a2, a3⟩ | ⟨a1, a2, a3⟩
     ·have HR : Hid (false = G) := Lib.hid (by rw [← HE2, a1]; rfl)
      rw [a1]
      clear HE2 a1
      go_wp2_with fail
      go_ret
      exact ⟨by rw [← HR.out]; rfl, HB0.out⟩
     ·have HR : Hid (false = G) := Lib.hid (by rw [← HE2, decide_eq_false a2, Bool.and_false]; rfl)
      have d3 : decide ((f3.length : Int) > 20) = true := decide_eq_true (by omega)
      have d3' : decide (20 < f3.length) = true := decide_eq_true (by omega)
      rw [a1]
      clear HE2 a1 a2
      go_wp2_with fail
      go_ret
      exact ⟨by rw [← HR.out]; rfl, HB0.out⟩
     ·have HR : Hid (false = G) := Lib.hid (by rw [← HE2, decide_eq_false a3, Bool.and_false]; rfl)
      have d3 : decide ((f3.length : Int) > 20) = false := decide_eq_false (by omega)
      have d3' : decide (20 < f3.length) = false := decide_eq_false (by omega)
      have d4 : decide ((f2.size : Int) > 500) = true := decide_eq_true (by omega)
      have d4' : decide (500 < f2.size) = true := decide_eq_true (by omega)
      rw [a1]
      clear HE2 a1 a2 a3
      go_wp2_with fail
      go_ret
      exact ⟨by rw [← HR.out]; rfl, HB0.out⟩
     ·have HR : Hid ((tr.drop (q + 1)).all fewT = G) := Lib.hid (by rw [← HE2, a1, decide_eq_true a2, decide_eq_true a3]; rfl)
      have d3 : decide ((f3.length : Int) > 20) = false := decide_eq_false (by omega)
      have d3' : decide (20 < f3.length) = false := decide_eq_false (by omega)
      have d4 : decide ((f2.size : Int) > 500) = false := decide_eq_false (by omega)
      have d4' : decide (500 < f2.size) = false := decide_eq_false (by omega)
      rw [a1]
      clear HE2 a1 a2 a3
      go_wp2_with fail
      go_roundw
      case rel => exact ⟨q + 1, by go_num, by omega, HR, by trivial⟩
      case measure => simp [intOf]; omega
    ·obtain rfl : q = tr.length := by omega
     have HR : Hid (true = G) := Lib.hid (by rw [← HE.out, List.drop_length]; rfl)
     have p1 : ((tr.length : Int) < (tr.length : Int)) = False := eq_false (by omega)
     clear HE
     go_wp2_with fail
     go_ret
     exact ⟨by rw [← HR.out]; rfl, HB0.out⟩
end
end Go.Proofs.YtikilglbhnplaaaGreatDoor
end
section
namespace Go.Proofs.YtikilglbhnplaaaGreatDoor
open Go.RowKit Go.Proofs.YtikilglbhnplaaaGreatDoorW.PrintWords
def RAct : Rep (Int × Int × Int × ByteArray × Unit) := (Rep.int .i64).pair ((Rep.int .i64).pair ((Rep.int .i64).pair (Rep.str.pair Rep.unit)))
theorem RAct.reads : Reads Tryz.prog 125 RAct :=
 reads_struct Tryz.underlying125 (fields_cons rfl (reads_int Tryz.underlying3 (by kernel_rfl)) (fields_cons rfl (reads_int Tryz.underlying3 (by kernel_rfl)) (fields_cons rfl (reads_int Tryz.underlying3 (by kernel_rfl)) (fields_cons rfl (reads_str Tryz.underlying9 (by kernel_rfl)) (fields_nil _ _))))) (by kernel_rfl)
end Go.Proofs.YtikilglbhnplaaaGreatDoor
end
section
namespace Go.Proofs.YtikilglbhnplaaaGreatDoor
open Go.RowKit Go.Proofs.YtikilglbhnplaaaGreatDoorW.PrintWords
def RepK {α β : Type} (R : Rep α) (d : Kd β) (f : α → β) : Prop := ∀ F w cs x, R.ok F w cs x → d.K w (f x) cs
theorem repK_int (k : IntKind) : RepK (Rep.int k) (Kd.int k) id := fun F w cs x h => h.1
theorem repK_slice {α β : Type} {R : Rep α} {d : Kd β} {f : α → β} (e : Nat) (h : RepK R d f) (hs : R.size = d.sz) : RepK R.slice (Kd.slice e d) (List.map f) := by
 intro F w cs xs hx
 rcases hx with ⟨a, cap, rfl, rfl⟩ | ⟨b, off, cap, rfl, hF, hlt, hne, hl, hcap, hel⟩
 ·exact ⟨a, cap, rfl, Nat.zero_le _, ⟨rfl, by simp, fun h => by simp at h⟩⟩
 ·unfold maxLen at hcap
  refine ⟨some ⟨b, off, none⟩, cap, by rw [List.length_map], by rw [List.length_map]; exact hl, ⟨rfl, by rw [List.length_map]; omega, fun _ => ⟨_, rfl, ?_⟩⟩⟩
  intro j p hj
  rw [List.getElem?_map] at hj
  obtain ⟨t, ht, rfl⟩ := Option.map_eq_some_iff.1 hj
  obtain ⟨hjl, rfl⟩ := List.getElem?_eq_some_iff.1 ht
  obtain ⟨c, hc, hcell, hok⟩ := hel j hjl
  refine ⟨c, hc.trans hs, h _ _ _ _ hok, ?_⟩
  intro i u hi
  obtain ⟨hil, rfl⟩ := List.getElem?_eq_some_iff.1 hi
  rw [add_at, ← hs, ← Nat.add_assoc]
  exact hcell i hil
end Go.Proofs.YtikilglbhnplaaaGreatDoor
end
section
namespace Go.Proofs.YtikilglbhnplaaaGreatDoor
open Go.RowKit Go.Proofs.YtikilglbhnplaaaGreatDoorW.PrintWords
open PX (T V)
theorem few_of {st : List Sta} {tr : List Tra} (h : fewP st tr = true) : FewC st tr ∧ st.length ≤ 40 ∧ tr.length ≤ 60 := by
 simp only [fewP, Bool.and_eq_true, decide_eq_true_eq, List.all_eq_true] at h
 obtain ⟨⟨⟨h1, h2⟩, h3⟩, h4⟩ := h
 refine ⟨⟨fun x hx => ?_, fun x hx => ?_⟩, h1, h2⟩
 ·have := h3 x hx
  simp only [fewS, fewAP, Bool.and_eq_true, decide_eq_true_eq, List.all_eq_true] at this
  obtain ⟨⟨⟨a1, a2⟩, b1, b2⟩, _⟩ := this
  refine ⟨by omega, by omega, fun a ha => ?_⟩
  rcases List.mem_append.1 ha with ha | ha
  ·have := a1 a ha; omega
  ·have := b1 a ha; omega
 ·have := h4 x hx
  simp only [fewT, fewAP, Bool.and_eq_true, decide_eq_true_eq, List.all_eq_true] at this
  obtain ⟨⟨⟨a1, a2⟩, _⟩, c1⟩ := this
  exact ⟨by omega, fun a ha => by have := a1 a ha; omega⟩
abbrev ActT := Int × Int × Int × ByteArray × Unit
abbrev StaT := Int × Int × List Int × List ActT × List ActT × Unit
abbrev TraT := Int × Int × ByteArray × List Int × Bool × List ActT × Unit
def RSta : Rep StaT := (Rep.int .i64).pair ((Rep.int .i64).pair ((Rep.int .i64).slice.pair (RAct.slice.pair (RAct.slice.pair Rep.unit))))
def RTra : Rep TraT := (Rep.int .i64).pair ((Rep.int .i64).pair (Rep.str.pair ((Rep.int .i64).slice.pair (Rep.bool.pair (RAct.slice.pair Rep.unit)))))
def RChart : Rep (Int × List StaT × List TraT × Unit) := (Rep.int .i64).pair (RSta.slice.pair (RTra.slice.pair Rep.unit))
theorem ints_reads : Reads Tryz.prog 36 (Rep.int .i64).slice := reads_slice Tryz.underlying36 (by kernel_rfl) (reads_int Tryz.underlying3 (by kernel_rfl)) (by decide)
theorem acts_reads : Reads Tryz.prog 61 RAct.slice := reads_slice Tryz.underlying61 (by kernel_rfl) RAct.reads (by decide)
theorem RSta.reads : Reads Tryz.prog 66 RSta :=
 reads_struct Tryz.underlying66 (fields_cons rfl (reads_int Tryz.underlying3 (by kernel_rfl)) (fields_cons rfl (reads_int Tryz.underlying3 (by kernel_rfl)) (fields_cons rfl ints_reads (fields_cons rfl acts_reads (fields_cons rfl acts_reads (fields_nil _ _)))))) (by kernel_rfl)
theorem RTra.reads : Reads Tryz.prog 63 RTra :=
 reads_struct Tryz.underlying63 (fields_cons rfl (reads_int Tryz.underlying3 (by kernel_rfl)) (fields_cons rfl (reads_int Tryz.underlying3 (by kernel_rfl)) (fields_cons rfl (reads_str Tryz.underlying9 (by kernel_rfl)) (fields_cons rfl ints_reads (fields_cons rfl (reads_bool Tryz.underlying4 (by kernel_rfl)) (fields_cons rfl acts_reads (fields_nil _ _))))))) (by kernel_rfl)
theorem RChart.reads : Reads Tryz.prog 25 RChart :=
 reads_struct Tryz.underlying25 (fields_cons rfl (reads_int Tryz.underlying3 (by kernel_rfl)) (fields_cons rfl (reads_slice Tryz.underlying22 (by kernel_rfl) RSta.reads (by decide)) (fields_cons rfl (reads_slice Tryz.underlying23 (by kernel_rfl) RTra.reads (by decide)) (fields_nil _ _)))) (by kernel_rfl)
def acOf (t : ActT) : Ac := ⟨t.1, t.2.1, t.2.2.1, t.2.2.2.1⟩
def staOf (t : StaT) : Sta := ⟨t.1, t.2.1, t.2.2.1.map id, t.2.2.2.1.map acOf, t.2.2.2.2.1.map acOf⟩
def traOf (t : TraT) : Tra := ⟨t.1, t.2.1, t.2.2.1, t.2.2.2.1.map id, t.2.2.2.2.1, t.2.2.2.2.2.1.map acOf⟩
theorem repK_act : RepK RAct PAll.k125 acOf := by
 intro F w cs x h
 obtain ⟨c1, d1, rfl, _, ⟨rfl, _⟩, c2, d2, rfl, _, ⟨rfl, _⟩, c3, d3, rfl, _, ⟨rfl, _⟩, c4, d4, rfl, _, ⟨rfl, _⟩, rfl⟩ := h
 exact PAll.k125_mk w (acOf x)
theorem repK_sta : RepK RSta PAll.k66 staOf := by
 intro F w cs x h
 obtain ⟨c1, d1, rfl, _, ⟨rfl, _⟩, c2, d2, rfl, _, ⟨rfl, _⟩, c3, d3, rfl, _, h3, c4, d4, rfl, _, h4, c5, d5, rfl, _, h5, rfl⟩ := h
 obtain ⟨A2, n2, rfl, l2, g2⟩ := repK_slice 3 (repK_int .i64) rfl _ _ _ _ h3
 obtain ⟨A3, n3, rfl, l3, g3⟩ := repK_slice 125 repK_act rfl _ _ _ _ h4
 obtain ⟨A4, n4, rfl, l4, g4⟩ := repK_slice 125 repK_act rfl _ _ _ _ h5
 exact PAll.k66_mk w (staOf x) (c2 := n2) l2 g2 (c3 := n3) l3 g3 (c4 := n4) l4 g4
theorem repK_tra : RepK RTra PAll.k63 traOf := by
 intro F w cs x h
 obtain ⟨c1, d1, rfl, _, ⟨rfl, _⟩, c2, d2, rfl, _, ⟨rfl, _⟩, c3, d3, rfl, _, ⟨rfl, _⟩, c4, d4, rfl, _, h4, c5, d5, rfl, _, rfl, c6, d6, rfl, _, h6, rfl⟩ := h
 obtain ⟨A3, n3, rfl, l3, g3⟩ := repK_slice 3 (repK_int .i64) rfl _ _ _ _ h4
 obtain ⟨A5, n5, rfl, l5, g5⟩ := repK_slice 125 repK_act rfl _ _ _ _ h6
 exact PAll.k63_mk w (traOf x) (c3 := n3) l3 g3 (c5 := n5) l5 g5
theorem chartArg {w : World} {cs : Array Value} {x : Int × List StaT × List TraT × Unit} (h : RChart.ok (fun b => b < w.heap.size) w cs.toList x) :
  ∃ A ca B cb, ∃ st : List Sta, ∃ tr : List Tra, Value.agg cs = ckV x.1 A B st.length tr.length ca cb ∧ ChM w A ca st B cb tr := by
 obtain ⟨c1, d1, he, _, ⟨rfl, _⟩, c2, d2, rfl, _, h2, c3, d3, rfl, _, h3, rfl⟩ := h
 obtain ⟨A, n, rfl, l, g⟩ := repK_slice 66 repK_sta rfl _ _ _ _ h2
 obtain ⟨B, m, rfl, l', g'⟩ := repK_slice 63 repK_tra rfl _ _ _ _ h3
 refine ⟨A, n, B, m, _, _, ?_, ⟨g, l, g', l'⟩⟩
 have : cs = #[.int .i64 x.1, .slice A (x.2.1.map staOf).length n, .slice B (x.2.2.1.map traOf).length m] := by
  apply Array.ext'
  rw [he]; rfl
 rw [this]
end Go.Proofs.YtikilglbhnplaaaGreatDoor
end
section
namespace Go.Proofs.YtikilglbhnplaaaGreatDoor
open Go.RowKit Go.Proofs.YtikilglbhnplaaaGreatDoorW.PrintWords
open PX (T V)
theorem chk_none {v : Int} {st : List Sta} {tr : List Tra} (h : chkP v st tr = .none) : (0 ≤ v ∧ v ≤ 8 ∧ 1 ≤ st.length ∧ st.length ≤ 24 ∧ tr.length ≤ 40) ∧ (∀ j : Int, 0 ≤ j → j < (st.length : Int) → stateP v st j = 0) ∧ ∀ j : Int, 0 ≤ j → j < (tr.length : Int) → transP v st (PAll.rd_T63 tr j) = 0 := by
 unfold chkP at h
 split at h
 ·cases h
 ·rename_i hb
  refine ⟨by omega, ?_⟩
  cases h1 : findBad (stateP v st) st.length 0 with
  | some x => rw [h1] at h; cases h
  | none =>
   rw [h1] at h
   simp only at h
   cases h2 : findBad (fun i => transP v st (PAll.rd_T63 tr i)) tr.length 0 with
   | some x => rw [h2] at h; cases h
   | none =>
    have a1 := (findBad_none _ _ _).1 h1
    have a2 := (findBad_none _ _ _).1 h2
    exact ⟨fun j h1 h2 => a1 j h1 (by omega), fun j h1 h2 => a2 j h1 (by omega)⟩
end Go.Proofs.YtikilglbhnplaaaGreatDoor
end
section
namespace Go.Proofs.YtikilglbhnplaaaGreatDoor
open Go.RowKit Go.Proofs.YtikilglbhnplaaaGreatDoorW.PrintWords
open PX (T V)
section
variable {ops : Array Oper} {rest : List Oper} {o : Oper} {a : Act} {Q : Exit → Act → World → Prop}
theorem out_append {W : World} (hgd : o.guard = none) (s x : Operand)
  (ho : o.op = .call { callee := .builtin .append, args := #[s, x], argTypes := #[53, 53] })
  (B : Nat) (v : Value) (xs : List Ou) (p q r t : Int) (hs : a.eval s = v) (N : Nat) (hx : a.eval x = .slice (some ⟨N, 0, none⟩) 1 1) (hN : N = W.heap.size)
  (HO : OutR W B v xs) (hB : B ≤ W.heap.size) (hl : xs.length < 1000000)
  (h : ∀ v1 w1, OutR w1 B v1 (xs ++ [⟨p, q, r, t⟩]) → Below B W w1 → W.grownBy w1 v.ownBlock → wpList Tryz.prog ops Q rest (a.put o.dst v1) w1) :
  wpList Tryz.prog ops Q (o :: rest) a (W.alloc (.cells #[.int .i64 p, .int .i64 q, .int .i64 r, .int .i64 t] 185)) := by
 subst hN
 refine Kd.R_append PAll.k185 (w0 := W) B hgd s x 53 185 (.agg #[(.int .i64 0), (.int .i64 0), (.int .i64 0), (.int .i64 0)]) 32 ho Tryz.underlying53 (by kernel_rfl) rfl (by decide) (by omega) v xs (⟨p, q, r, t⟩ : Ou) [.int .i64 p, .int .i64 q, .int .i64 r, .int .i64 t]
  (fun _ => True) (fun _ => False) hs hx (PAll.k185_mkM _ _ _ (⟨p, q, r, t⟩ : Ou)) (fun _ hk => hk.elim) (fun _ _ => trivial) HO (Below.refl _ _) hB (by omega) ?_
 intro v1 w1 h1 h2 h3 h4
 exact h v1 w1 h1 h2 h3
theorem inn_append {W : World} (hgd : o.guard = none) (s x : Operand)
  (ho : o.op = .call { callee := .builtin .append, args := #[s, x], argTypes := #[36, 36] })
  (B : Nat) (v : Value) (xs : List Int) (p : Int) (hs : a.eval s = v) (N : Nat) (hx : a.eval x = .slice (some ⟨N, 0, none⟩) 1 1) (hN : N = W.heap.size)
  (HO : InnR W B v xs) (hB : B ≤ W.heap.size) (hl : xs.length < 1000000)
  (h : ∀ v1 w1, InnR w1 B v1 (xs ++ [p]) → Below B W w1 → W.grownBy w1 v.ownBlock → wpList Tryz.prog ops Q rest (a.put o.dst v1) w1) :
  wpList Tryz.prog ops Q (o :: rest) a (W.alloc (.cells #[.int .i64 p] 3)) := by
 subst hN
 refine Kd.R_append (Kd.int .i64) (w0 := W) B hgd s x 36 3 (.int .i64 0) 8 ho Tryz.underlying36 (by kernel_rfl) rfl (by decide) (by omega) v xs p [.int .i64 p]
  (fun _ => True) (fun _ => False) hs hx rfl (fun _ hk => hk.elim) (fun _ _ => trivial) HO (Below.refl _ _) hB (by omega) ?_
 intro v1 w1 h1 h2 h3 h4
 exact h v1 w1 h1 h2 h3
theorem inn_step {W : World} {K : Act → World → Prop} {E : Prop} (hgd : o.guard = none) (s x : Operand)
  (ho : o.op = .call { callee := .builtin .append, args := #[s, x], argTypes := #[36, 36] })
  (B : Nat) (v : Value) (xs : List Int) (p : Int) (hs : a.eval s = v) (N : Nat) (hx : a.eval x = .slice (some ⟨N, 0, none⟩) 1 1) (hN : N = W.heap.size)
  (HO : InnR W B v xs) (hB : B ≤ W.heap.size) (hl : xs.length < 1000000)
  (h : ∀ v1 w1, InnR w1 B v1 (xs ++ [p]) → Below B W w1 → W.grownBy w1 v.ownBlock → K (a.put o.dst v1) w1) :
  if Region.wanted o (yielded ops a.tmps) = true then Oper.wp Tryz.prog o a (W.alloc (.cells #[.int .i64 p] 3)) K Q else E := by
 have hw : Region.wanted o (yielded ops a.tmps) = true := by simp [Region.wanted, hgd]
 subst hN
 have := Kd.R_append_step (ops := ops) (Q := Q) (Kc := K) (Kd.int .i64) (w0 := W) B hw s x 36 3 (.int .i64 0) 8 ho Tryz.underlying36 (by kernel_rfl) rfl (by decide) (by omega) v xs p [.int .i64 p]
  (fun _ => True) (fun _ => False) hs hx rfl (fun _ hk => hk.elim) (fun _ _ => trivial) HO (Below.refl _ _) hB (by omega) (fun v1 w1 h1 h2 h3 h4 => h v1 w1 h1 h2 h3)
 rw [if_pos hw] at this ⊢
 exact this
theorem out_step {W : World} {K : Act → World → Prop} {E : Prop} (hgd : o.guard = none) (s x : Operand)
  (ho : o.op = .call { callee := .builtin .append, args := #[s, x], argTypes := #[53, 53] })
  (B : Nat) (v : Value) (xs : List Ou) (p q r t : Int) (hs : a.eval s = v) (N : Nat) (hx : a.eval x = .slice (some ⟨N, 0, none⟩) 1 1) (hN : N = W.heap.size)
  (HO : OutR W B v xs) (hB : B ≤ W.heap.size) (hl : xs.length < 1000000)
  (h : ∀ v1 w1, OutR w1 B v1 (xs ++ [⟨p, q, r, t⟩]) → Below B W w1 → W.grownBy w1 v.ownBlock → K (a.put o.dst v1) w1) :
  if Region.wanted o (yielded ops a.tmps) = true then Oper.wp Tryz.prog o a (W.alloc (.cells #[.int .i64 p, .int .i64 q, .int .i64 r, .int .i64 t] 185)) K Q else E := by
 have hw : Region.wanted o (yielded ops a.tmps) = true := by simp [Region.wanted, hgd]
 subst hN
 have := Kd.R_append_step (ops := ops) (Q := Q) (Kc := K) PAll.k185 (w0 := W) B hw s x 53 185 (.agg #[(.int .i64 0), (.int .i64 0), (.int .i64 0), (.int .i64 0)]) 32 ho Tryz.underlying53 (by kernel_rfl) rfl (by decide) (by omega) v xs (⟨p, q, r, t⟩ : Ou) [.int .i64 p, .int .i64 q, .int .i64 r, .int .i64 t]
  (fun _ => True) (fun _ => False) hs hx (PAll.k185_mkM _ _ _ (⟨p, q, r, t⟩ : Ou)) (fun _ hk => hk.elim) (fun _ _ => trivial) HO (Below.refl _ _) hB (by omega) (fun v1 w1 h1 h2 h3 h4 => h v1 w1 h1 h2 h3)
 rw [if_pos hw] at this ⊢
 exact this
end
section
variable {g B : Nat} {w : World} {s : Ds} {ve vo vi : Value}
theorem Doer.putOut (h : Doer g B w s ve vo vi) {w1 : World} {v1 : Value} {xs : List Ou} (hg : w.grownBy w1 vo.ownBlock) (hT : OutR w1 B v1 xs) :
  Doer g B (w1.setCell ⟨g, 1, none⟩ v1) { s with out := xs } ve v1 vi := by
 have hne := Kd.R_ne h.out h.blk (by decide)
 have hblk := (hg.block g (lt_of_block h.blk) hne).trans h.blk
 refine ⟨blk_set hblk 1 _, Kd.R_set (Kd.R_over h.env h.out (int_q (by decide)) hg) hblk (int_q (by decide)) 1 _, Kd.R_set hT hblk (out_q (by decide)) 1 _, Kd.R_set (Kd.R_over h.inn h.out (int_q (by decide)) hg) hblk (int_q (by decide)) 1 _, h.lt, ?_⟩
 have := h.le; have := hg.size; simp [World.setCell]; omega
theorem Doer.putInn (h : Doer g B w s ve vo vi) {w1 : World} {v1 : Value} {xs : List Int} (hg : w.grownBy w1 vi.ownBlock) (hT : InnR w1 B v1 xs) :
  Doer g B (w1.setCell ⟨g, 2, none⟩ v1) { s with inn := xs } ve vo v1 := by
 have hne := Kd.R_ne h.inn h.blk (by decide)
 have hblk := (hg.block g (lt_of_block h.blk) hne).trans h.blk
 refine ⟨blk_set hblk 2 _, Kd.R_set (Kd.R_over h.env h.inn (int_q (by decide)) hg) hblk (int_q (by decide)) 2 _, Kd.R_set (Kd.R_over h.out h.inn (out_q (by decide)) hg) hblk (out_q (by decide)) 2 _, Kd.R_set hT hblk (int_q (by decide)) 2 _, h.lt, ?_⟩
 have := h.le; have := hg.size; simp [World.setCell]; omega
theorem Doer.putEnv {e cap : Nat} {w : World} {s : Ds} {vo vi : Value} (h : Doer g B w s (.slice (some ⟨e, 0, none⟩) s.env.length cap) vo vi) (i n : Int) :
  Doer g B (w.setCell ⟨e, i.toNat, none⟩ (.int .i64 n)) { s with env := s.env.set i.toNat n } (.slice (some ⟨e, 0, none⟩) s.env.length cap) vo vi := by
 obtain ⟨h1, hg⟩ := Kd.R_put h.env i n
 have hg' : w.grownBy (w.setCell ⟨e, i.toNat, none⟩ (.int .i64 n)) (Value.slice (some ⟨e, 0, none⟩) s.env.length cap).ownBlock := hg
 have hne := Kd.R_ne h.env h.blk (by decide)
 refine ⟨(hg'.block g (lt_of_block h.blk) hne).trans h.blk, h1, Kd.R_over h.out h.env (out_q (by decide)) hg', Kd.R_over h.inn h.env (int_q (by decide)) hg', h.lt, ?_⟩
 have := h.le; have := hg.size; omega
end
theorem one_any {g B : Nat} {w : World} {s : Ds} {ve vo vi : Value} (hw : Laid w) (h : Doer g B w s ve vo vi) (k n m : Int) (t : ByteArray) (ht : t.size ≤ 281474976710656) (hlo : s.out.length < 1000000) (hli : s.inn.length < 1000000) :
  Calls Tryz.prog 113 #[.pointer (some ⟨g, 0, none⟩), .agg #[.int .i64 k, .int .i64 n, .int .i64 m, .string t]] w fun e w' => e = .returned (.bool (oneA s ⟨k, n, m, t⟩).2) ∧ Below B w w' ∧ ∃ ve' vo' vi', Doer g B w' (oneA s ⟨k, n, m, t⟩).1 ve' vo' vi' := by
 by_cases hk2 : k = 2
 ·subst hk2
  have hone : oneA s ⟨2, n, m, t⟩ = ({ s with inn := s.inn ++ [n] }, true) := rfl
  rw [hone]
  clear hone
  have hbA := (Below.refl B w).alloc h.le (.cells #[.int .i64 2, .int .i64 n, .int .i64 m, .string t] 125)
  have hd1 := h.below ((Below.refl _ w).alloc (Nat.le_refl _) (.cells #[.int .i64 2, .int .i64 n, .int .i64 m, .string t] 125))
  have hw1 := hw.below ((Below.refl _ w).alloc (Nat.le_refl _) (.cells #[.int .i64 2, .int .i64 n, .int .i64 m, .string t] 125))
  have hac := blk_new w (.cells #[.int .i64 2, .int .i64 n, .int .i64 m, .string t] 125)
  have HD1 := Lib.hid hd1
  have HW1 := Lib.hid hw1
  clear hd1 h hw1
  go_enter Tryz.func113, Tryz.ntmps113
  go_wp2_with fail
  generalize w.alloc (.cells #[.int .i64 2, .int .i64 n, .int .i64 m, .string t] 125) = W at hac HD1 HW1 hbA ⊢
  obtain ⟨⟨c0, c1, c2⟩, f0, f1, f2⟩ := HD1.out.cells
  obtain ⟨a0, a1, a2, a3⟩ : _ ∧ _ ∧ _ ∧ _ := ⟨blk_cell hac 0, blk_cell hac 1, blk_cell hac 2, blk_cell hac 3⟩
  have HB := Lib.hid hbA
  have HAC := Lib.hid hac
  clear hbA hac
  have HN := Lib.hid (HD1.out.below (below_drew (Below.refl _ _)))
  have HBN := Lib.hid (below_drew HB.out)
  have hgl := lt_of_block HD1.out.blk
  have hal : w.heap.size < W.heap.size := lt_of_block HAC.out
  clear HB HD1
  go_region_law (refine inn_step (W := W.drew) rfl (.tmp 15) (.tmp 18) rfl B _ s.inn n rfl _ rfl (by rfl) HN.out.inn HN.out.le hli ?_; intro v1 w1 hT hb1 hg; have hb2 := HBN.out.trans hb1; have hfin := HN.out.putInn hg hT; have hblk := (hg.block g (lt_of_block HN.out.blk) (Kd.R_ne HN.out.inn HN.out.blk (by decide))).trans HN.out.blk; have f2' : w1.frozen? ⟨g, 2, none⟩ = false := blk_free hblk 2; have c2' : w1.cell? ⟨g, 2, none⟩ = some vi := blk_cell hblk 2; have hb3 := hb2.setCell (p := ⟨g, 2, none⟩) HN.out.lt v1; obtain ⟨A1, cap1, rfl⟩ := Kd.R_slice hT; rw [List.length_append, List.length_singleton] at hfin hb3; have HF := Lib.hid hfin; have HB3 := Lib.hid hb3; clear hT hb1 hg hb2 hfin hblk hb3 c0 c1 c2 f0 f1 f2 a0 a1 a2 a3)
  all_goals
   go_wp2_with fail
   go_ret
   exact ⟨rfl, HB3.out, _, _, _, HF.out⟩
 by_cases hk4 : k = 4
 ·subst hk4
  have hone : oneA s ⟨4, n, m, t⟩ = ({ s with out := s.out ++ [⟨4, 0, 0, n⟩] }, true) := rfl
  rw [hone]
  clear hone
  have hbA := (Below.refl B w).alloc h.le (.cells #[.int .i64 4, .int .i64 n, .int .i64 m, .string t] 125)
  have hd1 := h.below ((Below.refl _ w).alloc (Nat.le_refl _) (.cells #[.int .i64 4, .int .i64 n, .int .i64 m, .string t] 125))
  have hw1 := hw.below ((Below.refl _ w).alloc (Nat.le_refl _) (.cells #[.int .i64 4, .int .i64 n, .int .i64 m, .string t] 125))
  have hac := blk_new w (.cells #[.int .i64 4, .int .i64 n, .int .i64 m, .string t] 125)
  have HD1 := Lib.hid hd1
  have HW1 := Lib.hid hw1
  clear hd1 h hw1
  go_enter Tryz.func113, Tryz.ntmps113
  go_wp2_with fail
  generalize w.alloc (.cells #[.int .i64 4, .int .i64 n, .int .i64 m, .string t] 125) = W at hac HD1 HW1 hbA ⊢
  obtain ⟨⟨c0, c1, c2⟩, f0, f1, f2⟩ := HD1.out.cells
  obtain ⟨a0, a1, a2, a3⟩ : _ ∧ _ ∧ _ ∧ _ := ⟨blk_cell hac 0, blk_cell hac 1, blk_cell hac 2, blk_cell hac 3⟩
  have HB := Lib.hid hbA
  have HAC := Lib.hid hac
  clear hbA hac
  have HN := Lib.hid (HD1.out.below (below_drew (Below.refl _ _)))
  have HBN := Lib.hid (below_drew HB.out)
  have hgl := lt_of_block HD1.out.blk
  have hal : w.heap.size < W.heap.size := lt_of_block HAC.out
  clear HB HD1
  go_region_law (refine out_step (W := W.drew) rfl (.tmp 28) (.tmp 32) rfl B _ s.out 4 0 0 n rfl _ rfl (by rfl) HN.out.out HN.out.le hlo ?_; intro v1 w1 hT hb1 hg; have hb2 := HBN.out.trans hb1; have hfin := HN.out.putOut hg hT; have hblk := (hg.block g (lt_of_block HN.out.blk) (Kd.R_ne HN.out.out HN.out.blk (by decide))).trans HN.out.blk; have f2' : w1.frozen? ⟨g, 1, none⟩ = false := blk_free hblk 1; have c2' : w1.cell? ⟨g, 1, none⟩ = some vo := blk_cell hblk 1; have hb3 := hb2.setCell (p := ⟨g, 1, none⟩) HN.out.lt v1; obtain ⟨A1, cap1, rfl⟩ := Kd.R_slice hT; rw [List.length_append, List.length_singleton] at hfin hb3; have HF := Lib.hid hfin; have HB3 := Lib.hid hb3; clear hT hb1 hg hb2 hfin hblk hb3 c0 c1 c2 f0 f1 f2 a0 a1 a2 a3)
  all_goals
   go_wp2_with fail
   go_ret
   exact ⟨rfl, HB3.out, _, _, _, HF.out⟩
 by_cases hk : ¬ (k = 1 ∨ k = 3 ∨ k = 5)
 ·have hone : oneA s ⟨k, n, m, t⟩ = (s, true) := by unfold oneA; simp only; rw [if_neg hk2, if_neg hk4, if_neg hk]
  rw [hone]
  have e1 : (k == 1) = false := by simp; omega
  have e2 : (k == 2) = false := by simp; omega
  have e3 : (k == 3) = false := by simp; omega
  have e4 : (k == 4) = false := by simp; omega
  have e5 : (k == 5) = false := by simp; omega
  clear hone hk hk2 hk4
  have hbA := (Below.refl B w).alloc h.le (.cells #[.int .i64 k, .int .i64 n, .int .i64 m, .string t] 125)
  have hd1 := h.below ((Below.refl _ w).alloc (Nat.le_refl _) (.cells #[.int .i64 k, .int .i64 n, .int .i64 m, .string t] 125))
  have hw1 := hw.below ((Below.refl _ w).alloc (Nat.le_refl _) (.cells #[.int .i64 k, .int .i64 n, .int .i64 m, .string t] 125))
  have hac := blk_new w (.cells #[.int .i64 k, .int .i64 n, .int .i64 m, .string t] 125)
  have HD1 := Lib.hid hd1
  have HW1 := Lib.hid hw1
  clear hd1 h hw1
  go_enter Tryz.func113, Tryz.ntmps113
  go_wp2_with fail
  go_ret
  exact ⟨rfl, hbA, _, _, _, HD1.out⟩
 have hk' : k = 1 ∨ k = 3 ∨ k = 5 := Classical.not_not.1 hk
 cases hv : (valT t s.env).2 with
 | false =>
  have hone : oneA s ⟨k, n, m, t⟩ = (s, false) := by unfold oneA; simp only; rw [if_neg hk2, if_neg hk4, if_pos hk']; simp [hv]
  rw [hone]
  clear hone hk hk2 hk4
  rcases hk' with rfl | rfl | rfl
  ·have hbA := (Below.refl B w).alloc h.le (.cells #[.int .i64 1, .int .i64 n, .int .i64 m, .string t] 125)
   have hd1 := h.below ((Below.refl _ w).alloc (Nat.le_refl _) (.cells #[.int .i64 1, .int .i64 n, .int .i64 m, .string t] 125))
   have hw1 := hw.below ((Below.refl _ w).alloc (Nat.le_refl _) (.cells #[.int .i64 1, .int .i64 n, .int .i64 m, .string t] 125))
   have hac := blk_new w (.cells #[.int .i64 1, .int .i64 n, .int .i64 m, .string t] 125)
   have HD1 := Lib.hid hd1
   have HW1 := Lib.hid hw1
   clear hd1 h hw1
   go_enter Tryz.func113, Tryz.ntmps113
   go_wp2_with fail
   generalize w.alloc (.cells #[.int .i64 1, .int .i64 n, .int .i64 m, .string t] 125) = W at hac HD1 HW1 hbA ⊢
   obtain ⟨⟨c0, c1, c2⟩, f0, f1, f2⟩ := HD1.out.cells
   obtain ⟨a0, a1, a2, a3⟩ : _ ∧ _ ∧ _ ∧ _ := ⟨blk_cell hac 0, blk_cell hac 1, blk_cell hac 2, blk_cell hac 3⟩
   have HB := Lib.hid hbA
   have HAC := Lib.hid hac
   clear hbA hac
   refine (value_any HW1.out HD1.out t ht).mono ?_
   rintro e w2 ⟨rfl, hb2⟩
   have HD2 := Lib.hid (HD1.out.below hb2)
   have HB2 := Lib.hid (below_then HB.out HD1.out.le hb2)
   have HAC2 := Lib.hid ((hb2.block _ (lt_of_block HAC.out)).trans HAC.out)
   clear hb2 HB HD1 HAC HW1 c0 c1 c2 f0 f1 f2 a0 a1 a2 a3
   obtain ⟨⟨c0, c1, c2⟩, f0, f1, f2⟩ := HD2.out.cells
   obtain ⟨a0, a1, a2, a3⟩ : _ ∧ _ ∧ _ ∧ _ := ⟨blk_cell HAC2.out 0, blk_cell HAC2.out 1, blk_cell HAC2.out 2, blk_cell HAC2.out 3⟩
   have HD1 := HD2
   have HB := HB2
   have HAC := HAC2
   clear HD2 HB2 HAC2
   simp only [hv]
   go_wp2_with fail
   go_ret
   exact ⟨rfl, HB.out, _, _, _, HD1.out⟩
  ·have hbA := (Below.refl B w).alloc h.le (.cells #[.int .i64 3, .int .i64 n, .int .i64 m, .string t] 125)
   have hd1 := h.below ((Below.refl _ w).alloc (Nat.le_refl _) (.cells #[.int .i64 3, .int .i64 n, .int .i64 m, .string t] 125))
   have hw1 := hw.below ((Below.refl _ w).alloc (Nat.le_refl _) (.cells #[.int .i64 3, .int .i64 n, .int .i64 m, .string t] 125))
   have hac := blk_new w (.cells #[.int .i64 3, .int .i64 n, .int .i64 m, .string t] 125)
   have HD1 := Lib.hid hd1
   have HW1 := Lib.hid hw1
   clear hd1 h hw1
   go_enter Tryz.func113, Tryz.ntmps113
   go_wp2_with fail
   generalize w.alloc (.cells #[.int .i64 3, .int .i64 n, .int .i64 m, .string t] 125) = W at hac HD1 HW1 hbA ⊢
   obtain ⟨⟨c0, c1, c2⟩, f0, f1, f2⟩ := HD1.out.cells
   obtain ⟨a0, a1, a2, a3⟩ : _ ∧ _ ∧ _ ∧ _ := ⟨blk_cell hac 0, blk_cell hac 1, blk_cell hac 2, blk_cell hac 3⟩
   have HB := Lib.hid hbA
   have HAC := Lib.hid hac
   clear hbA hac
   refine (value_any HW1.out HD1.out t ht).mono ?_
   rintro e w2 ⟨rfl, hb2⟩
   have HD2 := Lib.hid (HD1.out.below hb2)
   have HB2 := Lib.hid (below_then HB.out HD1.out.le hb2)
   have HAC2 := Lib.hid ((hb2.block _ (lt_of_block HAC.out)).trans HAC.out)
   clear hb2 HB HD1 HAC HW1 c0 c1 c2 f0 f1 f2 a0 a1 a2 a3
   obtain ⟨⟨c0, c1, c2⟩, f0, f1, f2⟩ := HD2.out.cells
   obtain ⟨a0, a1, a2, a3⟩ : _ ∧ _ ∧ _ ∧ _ := ⟨blk_cell HAC2.out 0, blk_cell HAC2.out 1, blk_cell HAC2.out 2, blk_cell HAC2.out 3⟩
   have HD1 := HD2
   have HB := HB2
   have HAC := HAC2
   clear HD2 HB2 HAC2
   simp only [hv]
   go_wp2_with fail
   go_ret
   exact ⟨rfl, HB.out, _, _, _, HD1.out⟩
  ·have hbA := (Below.refl B w).alloc h.le (.cells #[.int .i64 5, .int .i64 n, .int .i64 m, .string t] 125)
   have hd1 := h.below ((Below.refl _ w).alloc (Nat.le_refl _) (.cells #[.int .i64 5, .int .i64 n, .int .i64 m, .string t] 125))
   have hw1 := hw.below ((Below.refl _ w).alloc (Nat.le_refl _) (.cells #[.int .i64 5, .int .i64 n, .int .i64 m, .string t] 125))
   have hac := blk_new w (.cells #[.int .i64 5, .int .i64 n, .int .i64 m, .string t] 125)
   have HD1 := Lib.hid hd1
   have HW1 := Lib.hid hw1
   clear hd1 h hw1
   go_enter Tryz.func113, Tryz.ntmps113
   go_wp2_with fail
   generalize w.alloc (.cells #[.int .i64 5, .int .i64 n, .int .i64 m, .string t] 125) = W at hac HD1 HW1 hbA ⊢
   obtain ⟨⟨c0, c1, c2⟩, f0, f1, f2⟩ := HD1.out.cells
   obtain ⟨a0, a1, a2, a3⟩ : _ ∧ _ ∧ _ ∧ _ := ⟨blk_cell hac 0, blk_cell hac 1, blk_cell hac 2, blk_cell hac 3⟩
   have HB := Lib.hid hbA
   have HAC := Lib.hid hac
   clear hbA hac
   refine (value_any HW1.out HD1.out t ht).mono ?_
   rintro e w2 ⟨rfl, hb2⟩
   have HD2 := Lib.hid (HD1.out.below hb2)
   have HB2 := Lib.hid (below_then HB.out HD1.out.le hb2)
   have HAC2 := Lib.hid ((hb2.block _ (lt_of_block HAC.out)).trans HAC.out)
   clear hb2 HB HD1 HAC HW1 c0 c1 c2 f0 f1 f2 a0 a1 a2 a3
   obtain ⟨⟨c0, c1, c2⟩, f0, f1, f2⟩ := HD2.out.cells
   obtain ⟨a0, a1, a2, a3⟩ : _ ∧ _ ∧ _ ∧ _ := ⟨blk_cell HAC2.out 0, blk_cell HAC2.out 1, blk_cell HAC2.out 2, blk_cell HAC2.out 3⟩
   have HD1 := HD2
   have HB := HB2
   have HAC := HAC2
   clear HD2 HB2 HAC2
   simp only [hv]
   go_wp2_with fail
   go_ret
   exact ⟨rfl, HB.out, _, _, _, HD1.out⟩
 | true =>
  have hx : ∃ x, (valT t s.env).1 = x := ⟨_, rfl⟩
  obtain ⟨x, hx⟩ := hx
  rcases hk' with rfl | rfl | rfl
  ·by_cases hn : n < 0 ∨ (s.env.length : Int) ≤ n
   ·have hone : oneA s ⟨1, n, m, t⟩ = (s, false) := by unfold oneA; simp [hv]; omega
    rw [hone]
    have HNN := Lib.hid hn
    clear hone hk hk2 hk4 hn
    have hbA := (Below.refl B w).alloc h.le (.cells #[.int .i64 1, .int .i64 n, .int .i64 m, .string t] 125)
    have hd1 := h.below ((Below.refl _ w).alloc (Nat.le_refl _) (.cells #[.int .i64 1, .int .i64 n, .int .i64 m, .string t] 125))
    have hw1 := hw.below ((Below.refl _ w).alloc (Nat.le_refl _) (.cells #[.int .i64 1, .int .i64 n, .int .i64 m, .string t] 125))
    have hac := blk_new w (.cells #[.int .i64 1, .int .i64 n, .int .i64 m, .string t] 125)
    have HD1 := Lib.hid hd1
    have HW1 := Lib.hid hw1
    clear hd1 h hw1
    go_enter Tryz.func113, Tryz.ntmps113
    go_wp2_with fail
    generalize w.alloc (.cells #[.int .i64 1, .int .i64 n, .int .i64 m, .string t] 125) = W at hac HD1 HW1 hbA ⊢
    obtain ⟨⟨c0, c1, c2⟩, f0, f1, f2⟩ := HD1.out.cells
    obtain ⟨a0, a1, a2, a3⟩ : _ ∧ _ ∧ _ ∧ _ := ⟨blk_cell hac 0, blk_cell hac 1, blk_cell hac 2, blk_cell hac 3⟩
    have HB := Lib.hid hbA
    have HAC := Lib.hid hac
    clear hbA hac
    refine (value_any HW1.out HD1.out t ht).mono ?_
    rintro e w2 ⟨rfl, hb2⟩
    have HD2 := Lib.hid (HD1.out.below hb2)
    have HB2 := Lib.hid (below_then HB.out HD1.out.le hb2)
    have HAC2 := Lib.hid ((hb2.block _ (lt_of_block HAC.out)).trans HAC.out)
    clear hb2 HB HD1 HAC HW1 c0 c1 c2 f0 f1 f2 a0 a1 a2 a3
    obtain ⟨⟨c0, c1, c2⟩, f0, f1, f2⟩ := HD2.out.cells
    obtain ⟨a0, a1, a2, a3⟩ : _ ∧ _ ∧ _ ∧ _ := ⟨blk_cell HAC2.out 0, blk_cell HAC2.out 1, blk_cell HAC2.out 2, blk_cell HAC2.out 3⟩
    have HD1 := HD2
    have HB := HB2
    have HAC := HAC2
    clear HD2 HB2 HAC2
    obtain ⟨E1, cap, rfl⟩ := Kd.R_slice HD1.out.env
    simp only [hv, hx]
    have hn2 : decide (n < 0) = true ∨ decide (n < 0) = false ∧ decide (n ≥ (s.env.length : Int)) = true := by
     rcases HNN.out with h | h
     ·exact .inl (decide_eq_true h)
     ·by_cases h0 : n < 0
      ·exact .inl (decide_eq_true h0)
      ·exact .inr ⟨decide_eq_false h0, decide_eq_true h⟩
    rcases hn2 with q1 | ⟨q1, q2⟩
    all_goals
     go_wp2_with fail
     repeat (go_quiet (fail); try go_wp2)
     go_ret
     exact ⟨rfl, below_drewN' HB.out _, _, _, _, HD1.out.below (pw_below_drewN (Below.refl _ _) _)⟩
   ·have hone : oneA s ⟨1, n, m, t⟩ = ({ s with env := s.env.set n.toNat x }, true) := by unfold oneA; simp [hv, hx]; omega
    rw [hone]
    have HNN := Lib.hid hn
    clear hone hk hk2 hk4 hn
    have hbA := (Below.refl B w).alloc h.le (.cells #[.int .i64 1, .int .i64 n, .int .i64 m, .string t] 125)
    have hd1 := h.below ((Below.refl _ w).alloc (Nat.le_refl _) (.cells #[.int .i64 1, .int .i64 n, .int .i64 m, .string t] 125))
    have hw1 := hw.below ((Below.refl _ w).alloc (Nat.le_refl _) (.cells #[.int .i64 1, .int .i64 n, .int .i64 m, .string t] 125))
    have hac := blk_new w (.cells #[.int .i64 1, .int .i64 n, .int .i64 m, .string t] 125)
    have HD1 := Lib.hid hd1
    have HW1 := Lib.hid hw1
    clear hd1 h hw1
    go_enter Tryz.func113, Tryz.ntmps113
    go_wp2_with fail
    generalize w.alloc (.cells #[.int .i64 1, .int .i64 n, .int .i64 m, .string t] 125) = W at hac HD1 HW1 hbA ⊢
    obtain ⟨⟨c0, c1, c2⟩, f0, f1, f2⟩ := HD1.out.cells
    obtain ⟨a0, a1, a2, a3⟩ : _ ∧ _ ∧ _ ∧ _ := ⟨blk_cell hac 0, blk_cell hac 1, blk_cell hac 2, blk_cell hac 3⟩
    have HB := Lib.hid hbA
    have HAC := Lib.hid hac
    clear hbA hac
    refine (value_any HW1.out HD1.out t ht).mono ?_
    rintro e w2 ⟨rfl, hb2⟩
    have HD2 := Lib.hid (HD1.out.below hb2)
    have HB2 := Lib.hid (below_then HB.out HD1.out.le hb2)
    have HAC2 := Lib.hid ((hb2.block _ (lt_of_block HAC.out)).trans HAC.out)
    clear hb2 HB HD1 HAC HW1 c0 c1 c2 f0 f1 f2 a0 a1 a2 a3
    obtain ⟨⟨c0, c1, c2⟩, f0, f1, f2⟩ := HD2.out.cells
    obtain ⟨a0, a1, a2, a3⟩ : _ ∧ _ ∧ _ ∧ _ := ⟨blk_cell HAC2.out 0, blk_cell HAC2.out 1, blk_cell HAC2.out 2, blk_cell HAC2.out 3⟩
    have HD1 := HD2
    have HB := HB2
    have HAC := HAC2
    clear HD2 HB2 HAC2
    have q1 : decide (n < 0) = false := decide_eq_false (by have := HNN.out; omega)
    have q2 : decide (n ≥ (s.env.length : Int)) = false := decide_eq_false (by have := HNN.out; omega)
    obtain ⟨j, rfl, hj⟩ : ∃ j : Nat, n = (j : Int) ∧ j < s.env.length := ⟨n.toNat, by have := HNN.out; omega, by have := HNN.out; omega⟩
    obtain ⟨e0, cap, rfl, he0, _⟩ := Kd.R_form HD1.out.env (by omega)
    have hcell := Kd.R_cell (0 : Int) HD1.out.env (j : Int) (by omega) (by omega)
    obtain ⟨k0, k1⟩ := hcell
    rw [Int.toNat_natCast] at k0 k1
    have p1 : ((j : Int) < (s.env.length : Int)) = True := eq_true (by omega)
    simp only [hv, hx]
    go_wp2_with fail
    repeat (go_quiet (fail); try go_wp2)
    refine region_quiet_tail 8 (by kernel_rfl) (by kernel_rfl) ?_
    simp only [List.take_succ_cons, List.take_zero, List.drop_succ_cons, List.drop_zero]
    repeat (go_big_quiet_step (fail))
    refine wpQuiet_nil ?_
    intro w' hw'
    obtain ⟨nq2, rfl⟩ := hw'
    go_wp2_with fail
    have HN := Lib.hid ((HD1.out.below (pw_below_drewN (Below.refl _ _) (nq + nq2))).putEnv (j : Int) x)
    have HBN := Lib.hid ((below_drewN' HB.out (nq + nq2)).setCell (p := ⟨e0, j, none⟩) he0 (.int .i64 x))
    go_ret
    exact ⟨rfl, HBN.out, _, _, _, HN.out⟩
  ·have hone : oneA s ⟨3, n, m, t⟩ = ({ s with out := s.out ++ [⟨3, n, m, x⟩] }, true) := by unfold oneA; simp [hv, hx]
   rw [hone]
   clear hone hk hk2 hk4
   have hbA := (Below.refl B w).alloc h.le (.cells #[.int .i64 3, .int .i64 n, .int .i64 m, .string t] 125)
   have hd1 := h.below ((Below.refl _ w).alloc (Nat.le_refl _) (.cells #[.int .i64 3, .int .i64 n, .int .i64 m, .string t] 125))
   have hw1 := hw.below ((Below.refl _ w).alloc (Nat.le_refl _) (.cells #[.int .i64 3, .int .i64 n, .int .i64 m, .string t] 125))
   have hac := blk_new w (.cells #[.int .i64 3, .int .i64 n, .int .i64 m, .string t] 125)
   have HD1 := Lib.hid hd1
   have HW1 := Lib.hid hw1
   clear hd1 h hw1
   go_enter Tryz.func113, Tryz.ntmps113
   go_wp2_with fail
   generalize w.alloc (.cells #[.int .i64 3, .int .i64 n, .int .i64 m, .string t] 125) = W at hac HD1 HW1 hbA ⊢
   obtain ⟨⟨c0, c1, c2⟩, f0, f1, f2⟩ := HD1.out.cells
   obtain ⟨a0, a1, a2, a3⟩ : _ ∧ _ ∧ _ ∧ _ := ⟨blk_cell hac 0, blk_cell hac 1, blk_cell hac 2, blk_cell hac 3⟩
   have HB := Lib.hid hbA
   have HAC := Lib.hid hac
   clear hbA hac
   refine (value_any HW1.out HD1.out t ht).mono ?_
   rintro e w2 ⟨rfl, hb2⟩
   have HD2 := Lib.hid (HD1.out.below hb2)
   have HB2 := Lib.hid (below_then HB.out HD1.out.le hb2)
   have HAC2 := Lib.hid ((hb2.block _ (lt_of_block HAC.out)).trans HAC.out)
   clear hb2 HB HD1 HAC HW1 c0 c1 c2 f0 f1 f2 a0 a1 a2 a3
   obtain ⟨⟨c0, c1, c2⟩, f0, f1, f2⟩ := HD2.out.cells
   obtain ⟨a0, a1, a2, a3⟩ : _ ∧ _ ∧ _ ∧ _ := ⟨blk_cell HAC2.out 0, blk_cell HAC2.out 1, blk_cell HAC2.out 2, blk_cell HAC2.out 3⟩
   have HD1 := HD2
   have HB := HB2
   have HAC := HAC2
   clear HD2 HB2 HAC2
   simp only [hv, hx]
   go_wp2_with fail
   have HN := Lib.hid (HD1.out.below (below_drew (Below.refl _ _)))
   have HBN := Lib.hid (below_drew HB.out)
   have hgl := lt_of_block HD1.out.blk
   have hal : w.heap.size < w2.heap.size := lt_of_block HAC.out
   clear HB HD1
   go_region_law (refine out_step (W := w2.drew) rfl (.tmp 66) (.tmp 73) rfl B _ s.out 3 n m x rfl _ rfl (by rfl) HN.out.out HN.out.le hlo ?_; intro v1 w1 hT hb1 hg; have hb2 := HBN.out.trans hb1; have hfin := HN.out.putOut hg hT; have hblk := (hg.block g (lt_of_block HN.out.blk) (Kd.R_ne HN.out.out HN.out.blk (by decide))).trans HN.out.blk; have f2' : w1.frozen? ⟨g, 1, none⟩ = false := blk_free hblk 1; have c2' : w1.cell? ⟨g, 1, none⟩ = some vo := blk_cell hblk 1; have hb3 := hb2.setCell (p := ⟨g, 1, none⟩) HN.out.lt v1; obtain ⟨A1, cap1, rfl⟩ := Kd.R_slice hT; rw [List.length_append, List.length_singleton] at hfin hb3; have HF := Lib.hid hfin; have HB3 := Lib.hid hb3; clear hT hb1 hg hb2 hfin hblk hb3 c0 c1 c2 f0 f1 f2 a0 a1 a2 a3)
   all_goals
    go_wp2_with fail
    go_ret
    exact ⟨rfl, HB3.out, _, _, _, HF.out⟩
  ·have hone : oneA s ⟨5, n, m, t⟩ = ({ s with out := s.out ++ [⟨5, 0, 0, x⟩] }, true) := by unfold oneA; simp [hv, hx]
   rw [hone]
   clear hone hk hk2 hk4
   have hbA := (Below.refl B w).alloc h.le (.cells #[.int .i64 5, .int .i64 n, .int .i64 m, .string t] 125)
   have hd1 := h.below ((Below.refl _ w).alloc (Nat.le_refl _) (.cells #[.int .i64 5, .int .i64 n, .int .i64 m, .string t] 125))
   have hw1 := hw.below ((Below.refl _ w).alloc (Nat.le_refl _) (.cells #[.int .i64 5, .int .i64 n, .int .i64 m, .string t] 125))
   have hac := blk_new w (.cells #[.int .i64 5, .int .i64 n, .int .i64 m, .string t] 125)
   have HD1 := Lib.hid hd1
   have HW1 := Lib.hid hw1
   clear hd1 h hw1
   go_enter Tryz.func113, Tryz.ntmps113
   go_wp2_with fail
   generalize w.alloc (.cells #[.int .i64 5, .int .i64 n, .int .i64 m, .string t] 125) = W at hac HD1 HW1 hbA ⊢
   obtain ⟨⟨c0, c1, c2⟩, f0, f1, f2⟩ := HD1.out.cells
   obtain ⟨a0, a1, a2, a3⟩ : _ ∧ _ ∧ _ ∧ _ := ⟨blk_cell hac 0, blk_cell hac 1, blk_cell hac 2, blk_cell hac 3⟩
   have HB := Lib.hid hbA
   have HAC := Lib.hid hac
   clear hbA hac
   refine (value_any HW1.out HD1.out t ht).mono ?_
   rintro e w2 ⟨rfl, hb2⟩
   have HD2 := Lib.hid (HD1.out.below hb2)
   have HB2 := Lib.hid (below_then HB.out HD1.out.le hb2)
   have HAC2 := Lib.hid ((hb2.block _ (lt_of_block HAC.out)).trans HAC.out)
   clear hb2 HB HD1 HAC HW1 c0 c1 c2 f0 f1 f2 a0 a1 a2 a3
   obtain ⟨⟨c0, c1, c2⟩, f0, f1, f2⟩ := HD2.out.cells
   obtain ⟨a0, a1, a2, a3⟩ : _ ∧ _ ∧ _ ∧ _ := ⟨blk_cell HAC2.out 0, blk_cell HAC2.out 1, blk_cell HAC2.out 2, blk_cell HAC2.out 3⟩
   have HD1 := HD2
   have HB := HB2
   have HAC := HAC2
   clear HD2 HB2 HAC2
   simp only [hv, hx]
   have HN := HD1
   have HBN := HB
   go_wp2_with (at_builtin; refine out_append rfl (.tmp 85) (.tmp 88) rfl B _ s.out 5 0 0 x rfl _ rfl ?aN85 HN.out.out HN.out.le hlo ?_)
   case aN85 => rfl
   intro v1 w1 hT hb1 hg
   have hb2 := HBN.out.trans hb1
   have hfin := HN.out.putOut hg hT
   have hblk := (hg.block g (lt_of_block HN.out.blk) (Kd.R_ne HN.out.out HN.out.blk (by decide))).trans HN.out.blk
   have f2' : w1.frozen? ⟨g, 1, none⟩ = false := blk_free hblk 1
   have c2' : w1.cell? ⟨g, 1, none⟩ = some vo := blk_cell hblk 1
   have hb3 := hb2.setCell (p := ⟨g, 1, none⟩) HN.out.lt v1
   obtain ⟨A1, cap1, rfl⟩ := Kd.R_slice hT
   rw [List.length_append, List.length_singleton] at hfin hb3
   have HF := Lib.hid hfin
   have HB3 := Lib.hid hb3
   clear hT hb1 hg hb2 hfin hblk hb3 c0 c1 c2 f0 f1 f2 a0 a1 a2 a3
   go_wp2_with fail
   go_ret
   exact ⟨rfl, HB3.out, _, _, _, HF.out⟩
end Go.Proofs.YtikilglbhnplaaaGreatDoor
end
section
namespace Go.Proofs.YtikilglbhnplaaaGreatDoor
open Go.RowKit Go.Proofs.YtikilglbhnplaaaGreatDoorW.PrintWords
open PX (T V)
abbrev rdS (st : List Sta) (i : Int) : Sta := PAll.rd_T66 st i
abbrev thS (st : List Sta) (i : Int) : Prop := 0 ≤ i ∧ i < (st.length : Int)
theorem ahead_at {st : List Sta} (ha : Ahead st) {s : Int} (h : thS st s) : (rdS st s).f1 < s ∧ (0 < s → 0 ≤ (rdS st s).f1) := ⟨(ha s h.1 h.2).1, (ha s h.1 h.2).2.1⟩
def kindP (st : List Sta) (s : Int) : Int := if thS st s then (rdS st s).f0 else 0
def upF (st : List Sta) : Nat → Int → List Int
 | 0, _ => []
 | f + 1, s => if thS st s ∧ 0 ≤ (rdS st s).f1 then (rdS st s).f1 :: upF st f (rdS st s).f1 else []
def upP (st : List Sta) (s : Int) : List Int := upF st (s.toNat + 1) s
theorem upF_two {st : List Sta} (ha : Ahead st) (n : Nat) : ∀ (s : Int) (f g : Nat), s.toNat < f → s.toNat < g → s.toNat ≤ n → upF st f s = upF st g s := by
 induction n with
 | zero =>
  intro s f g hf hg hn
  cases f with
  | zero => omega
  | succ f =>
   cases g with
   | zero => omega
   | succ g =>
    simp only [upF]
    by_cases c : thS st s ∧ 0 ≤ (rdS st s).f1
    ·have := (ahead_at ha c.1).1; omega
    ·rw [if_neg c, if_neg c]
 | succ n ih =>
  intro s f g hf hg hn
  cases f with
  | zero => omega
  | succ f =>
   cases g with
   | zero => omega
   | succ g =>
    simp only [upF]
    by_cases c : thS st s ∧ 0 ≤ (rdS st s).f1
    ·have := (ahead_at ha c.1).1
     have := c.2
     have := c.1.1
     rw [if_pos c, if_pos c, ih _ f g (by omega) (by omega) (by omega)]
    ·rw [if_neg c, if_neg c]
theorem upP_eq {st : List Sta} (ha : Ahead st) (s : Int) : upP st s = if thS st s ∧ 0 ≤ (rdS st s).f1 then (rdS st s).f1 :: upP st (rdS st s).f1 else [] := by
 rw [show upP st s = if thS st s ∧ 0 ≤ (rdS st s).f1 then (rdS st s).f1 :: upF st s.toNat (rdS st s).f1 else [] from rfl]
 unfold upP
 by_cases c : thS st s ∧ 0 ≤ (rdS st s).f1
 ·have := (ahead_at ha c.1).1
  have := c.2
  have := c.1.1
  rw [if_pos c, if_pos c, upF_two ha s.toNat _ s.toNat ((rdS st s).f1.toNat + 1) (by omega) (by omega) (by omega)]
 ·rw [if_neg c, if_neg c]
theorem inC_low (st : List Sta) (s b : Int) (h : s ≤ b ∨ s ≤ 0 ∨ (st.length : Int) ≤ s) : inC st s b = false := by
 rw [inC_eq, if_neg (by omega)]
theorem up_in {st : List Sta} (ha : Ahead st) (b : Int) (n : Nat) : ∀ s : Int, s.toNat ≤ n → (upP st s).contains b = (decide (0 ≤ b) && inC st s b) := by
 have low : ∀ s : Int, ¬ (thS st s ∧ 0 ≤ (rdS st s).f1) → (upP st s).contains b = (decide (0 ≤ b) && inC st s b) := by
  intro s c
  rw [upP_eq ha, if_neg c, inC_low]
  ·simp
  ·by_cases h1 : 0 < s ∧ s < (st.length : Int)
   ·exact absurd ⟨⟨by omega, h1.2⟩, (ahead_at ha ⟨by omega, h1.2⟩).2 h1.1⟩ c
   ·omega
 induction n with
 | zero =>
  intro s hs
  by_cases c : thS st s ∧ 0 ≤ (rdS st s).f1
  ·have := (ahead_at ha c.1).1
   have := c.2
   omega
  ·exact low s c
 | succ n ih =>
  intro s hs
  by_cases c : thS st s ∧ 0 ≤ (rdS st s).f1
  ·have h1 := (ahead_at ha c.1).1
   have h2 := c.2
   have h3 := c.1.2
   rw [upP_eq ha, if_pos c, List.contains_cons, ih _ (by omega), inC_eq st s b]
   by_cases hb : s > b
   ·rw [if_pos ⟨hb, by omega, h3⟩, if_neg (by show ¬ ((rdS st s).f1 ≥ s); omega)]
    by_cases he : (rdS st s).f1 = b
    ·rw [if_pos he]
     simp [he]
     omega
    ·rw [if_neg he]
     have : (b == (rdS st s).f1) = false := by simp; omega
     rw [this, Bool.false_or]
   ·rw [if_neg (by omega), inC_low _ _ _ (by omega)]
    have : (b == (rdS st s).f1) = false := by simp; omega
    rw [this]
    simp
  ·exact low s c
theorem tin_eq {st : List Sta} (ha : Ahead st) (s b : Int) : (upP st s).contains b = (decide (0 ≤ b) && inC st s b) := up_in ha b s.toNat s (Nat.le_refl _)
theorem upF_len (st : List Sta) (f : Nat) : ∀ s : Int, (upF st f s).length ≤ f := by
 induction f with
 | zero => intro s; simp [upF]
 | succ f ih =>
  intro s
  simp only [upF]
  by_cases c : thS st s ∧ 0 ≤ (rdS st s).f1
  ·rw [if_pos c, List.length_cons]; have := ih (rdS st s).f1; omega
  ·rw [if_neg c]; simp
def TrM (w : World) (g : Nat) (v : Int) (st : List Sta) (tr : List Tra) : Prop :=
 ∃ A ca B cb, w.heap[g]? = some (.cells #[.int .i64 v, .slice A st.length ca, .slice B tr.length cb] 83 (0, 0)) ∧ ChM w A ca st B cb tr
theorem TrM.below {w w' : World} {g : Nat} {v : Int} {st : List Sta} {tr : List Tra} (h : TrM w g v st tr) (hb : Below w.heap.size w w') : TrM w' g v st tr := by
 obtain ⟨A, ca, B, cb, h1, h2⟩ := h
 exact ⟨A, ca, B, cb, (hb.block g (lt_of_block h1)).trans h1, h2.below hb⟩
section
variable {g : Nat} {v : Int} {st : List Sta} {tr : List Tra} {w : World}
theorem tthere_any (h : TrM w g v st tr) (s : Int) : Calls Tryz.prog 37 #[.pointer (some ⟨g, 0, none⟩), .int .i64 s] w fun e w' => e = .returned (.bool (decide (thS st s))) ∧ Below w.heap.size w w' := by
 obtain ⟨A, ca, B, cb, h1, h2⟩ := h
 have y1 : w.cell? ⟨g, 1, none⟩ = some (.slice A st.length ca) := blk_cell h1 1
 have y0 : w.cell? ⟨g, 0, none⟩ = some (.int .i64 v) := blk_cell h1 0
 clear h1 h2
 by_cases c : 0 ≤ s
 ·have d1 : decide (s ≥ 0) = true := decide_eq_true c
  have d1' : decide (0 ≤ s) = true := decide_eq_true c
  by_cases c2 : s < (st.length : Int)
  ·have d2 : decide (s < (st.length : Int)) = true := decide_eq_true c2
   have HR : Hid (decide (thS st s) = true) := Lib.hid (decide_eq_true ⟨c, c2⟩)
   clear c c2
   go_enter Tryz.func37, Tryz.ntmps37
   go_wp2_with fail
   go_ret
   exact ⟨by rw [HR.out]; rfl, Below.refl _ _⟩
  ·have d2 : decide (s < (st.length : Int)) = false := decide_eq_false c2
   have HR : Hid (decide (thS st s) = false) := Lib.hid (decide_eq_false (fun h => c2 h.2))
   clear c c2
   go_enter Tryz.func37, Tryz.ntmps37
   go_wp2_with fail
   go_ret
   exact ⟨by rw [HR.out]; rfl, Below.refl _ _⟩
 ·have d1 : decide (s ≥ 0) = false := decide_eq_false c
  have d1' : decide (0 ≤ s) = false := decide_eq_false c
  have HR : Hid (decide (thS st s) = false) := Lib.hid (decide_eq_false (fun h => c h.1))
  clear c
  go_enter Tryz.func37, Tryz.ntmps37
  go_wp2_with fail
  go_ret
  exact ⟨by rw [HR.out]; rfl, Below.refl _ _⟩
theorem trm_at (h : TrM w g v st tr) {s : Int} (hs : thS st s) : ∃ ad ca, w.cell? ⟨g, 0, none⟩ = some (.int .i64 v) ∧ w.cell? ⟨g, 1, none⟩ = some (.slice (some ad) st.length ca) ∧ w.cell? (ad.add (s.toNat * 5)) = some (.int .i64 (rdS st s).f0) ∧ w.cell? ⟨(ad.add (s.toNat * 5)).block, (ad.add (s.toNat * 5)).off + 1, none⟩ = some (.int .i64 (rdS st s).f1) := by
 obtain ⟨A, ca, B, cb, h1, h2⟩ := h
 obtain ⟨ad, A2, c2, A3, c3, A4, c4, rfl, q0, q1, _⟩ := PAll.at_T66 h2.cs s hs.1 hs.2
 exact ⟨ad, ca, blk_cell h1 0, blk_cell h1 1, q0, q1⟩
theorem tkind_any (h : TrM w g v st tr) (s : Int) : Calls Tryz.prog 39 #[.pointer (some ⟨g, 0, none⟩), .int .i64 s] w fun e w' => e = .returned (.int .i64 (kindP st s)) ∧ Below w.heap.size w w' := by
 have H := Lib.hid h
 by_cases c : thS st s
 ·have HR : Hid (kindP st s = (rdS st s).f0) := Lib.hid (if_pos c)
  have HC := Lib.hid c
  have d1 : decide (thS st s) = true := decide_eq_true c
  have D1 := Lib.hid d1
  have p1 : (0 ≤ s) = True := eq_true c.1
  have p2 : (s < (st.length : Int)) = True := eq_true c.2
  clear h d1 c
  go_enter Tryz.func39, Tryz.ntmps39
  go_wp2_with fail
  refine (tthere_any H.out s).mono ?_
  rw [D1.out]
  rintro e w1 ⟨rfl, hb1⟩
  obtain ⟨ad, ca, y0, y1, q0, q1⟩ := trm_at (H.out.below hb1) HC.out
  have HB := Lib.hid hb1
  clear hb1
  go_wp2_with fail
  go_ret
  exact ⟨by rw [HR.out]; rfl, HB.out⟩
 ·have HR : Hid (kindP st s = 0) := Lib.hid (if_neg c)
  have D1 : Hid (decide (thS st s) = false) := Lib.hid (decide_eq_false c)
  clear h c
  go_enter Tryz.func39, Tryz.ntmps39
  go_wp2_with fail
  refine (tthere_any H.out s).mono ?_
  rw [D1.out]
  rintro e w1 ⟨rfl, hb1⟩
  go_wp2_with fail
  go_ret
  exact ⟨by rw [HR.out]; rfl, hb1⟩
theorem tup_any (h : TrM w g v st tr) (ha : Ahead st) (hl : st.length ≤ 1000) (s : Int) : Calls Tryz.prog 11 #[.pointer (some ⟨g, 0, none⟩), .int .i64 s] w fun e w' => ∃ u : Value, e = .returned u ∧ InnR w' w.heap.size u (upP st s) ∧ Below w.heap.size w w' := by
 have H := Lib.hid h
 have HA := Lib.hid ha
 have hend : ∀ (q : Int), ¬ (thS st q ∧ 0 ≤ (rdS st q).f1) → upP st q = [] := fun q c => by rw [upP_eq ha, if_neg c]
 have HE := Lib.hid hend
 clear h ha hend
 go_enter Tryz.func11, Tryz.ntmps11
 go_wp2_with fail
 go_loopw [1, 5] (fun x u wr => ∃ (q : Int) (acc : List Int), x = .int .i64 q ∧ Hid (upP st s = acc ++ upP st q) ∧ Hid (InnR wr w.heap.size u acc) ∧ Hid (Below w.heap.size w wr) ∧ Hid (acc = [] ∨ acc.length + q.toNat ≤ st.length)) (fun x _ _ => (intOf x).toNat)
 case atStart => exact ⟨s, [], rfl, Lib.hid (by simp), Lib.hid (Kd.R_nil _ _ _ _ _), Lib.hid (Below.refl _ _), Lib.hid (.inl rfl)⟩
 case round =>
  obtain ⟨q, acc, rfl, HU, HO, HB, HL⟩ := hrel
  by_cases c : thS st q
  ·have D1 : Hid (decide (thS st q) = true) := Lib.hid (decide_eq_true c)
   have HC := Lib.hid c
   have p1 : (0 ≤ q) = True := eq_true c.1
   have p2 : (q < (st.length : Int)) = True := eq_true c.2
   have hac : acc.length ≤ st.length := HL.out.elim (fun h => by rw [h]; simp) (fun h => by omega)
   by_cases c2 : 0 ≤ (rdS st q).f1
   ·have d2 : decide ((rdS st q).f1 ≥ 0) = true := decide_eq_true c2
    have d2' : decide (0 ≤ (rdS st q).f1) = true := decide_eq_true c2
    have hlt := (ahead_at HA.out c).1
    have HU2 : Hid (upP st s = (acc ++ [(rdS st q).f1]) ++ upP st (rdS st q).f1) := Lib.hid (by rw [HU.out, upP_eq HA.out q, if_pos ⟨c, c2⟩]; simp)
    have HL2 : Hid (acc ++ [(rdS st q).f1] = [] ∨ (acc ++ [(rdS st q).f1]).length + (rdS st q).f1.toNat ≤ st.length) := Lib.hid (by
     right
     rw [List.length_append, List.length_singleton]
     have := c.1
     have := c.2
     rcases HL.out with h | h
     ·rw [h, List.length_nil]; omega
     ·omega)
    have HLt := Lib.hid (show (rdS st q).f1.toNat < q.toNat by have := c.1; omega)
    clear c c2 hlt
    go_wp2_with fail
    refine (tthere_any (H.out.below HB.out) q).mono ?_
    rw [D1.out]
    rintro e w1 ⟨rfl, hb1⟩
    have HB1 := Lib.hid (below_then HB.out HB.out.size hb1)
    have HO1 := Lib.hid (Kd.R_below HO.out hb1)
    obtain ⟨ad, ca, y0, y1, q0, q1⟩ := trm_at (H.out.below HB1.out) HC.out
    clear hb1 HB HO
    have hac2 : acc.length < 1000000 := by omega
    have hsz := HB1.out.size
    go_wp2_with (at_builtin; refine inn_append rfl (.tmp 30) (.tmp 32) rfl w.heap.size _ acc (rdS st q).f1 rfl _ rfl rfl HO1.out hsz hac2 ?_)
    intro v1 w2 h1 h2 h3
    have HB2 := Lib.hid (HB1.out.trans h2)
    have HO2 := Lib.hid h1
    go_wp2_with fail
    go_roundw
    case rel => exact ⟨(rdS st q).f1, _, rfl, HU2, HO2, HB2, HL2⟩
    case measure => have := HLt.out; simp [intOf]; omega
   ·have d2 : decide ((rdS st q).f1 ≥ 0) = false := decide_eq_false c2
    have d2' : decide (0 ≤ (rdS st q).f1) = false := decide_eq_false c2
    have HR : Hid (upP st s = acc) := Lib.hid (by rw [HU.out, HE.out q (fun h => c2 h.2)]; simp)
    clear c c2
    go_wp2_with fail
    refine (tthere_any (H.out.below HB.out) q).mono ?_
    rw [D1.out]
    rintro e w1 ⟨rfl, hb1⟩
    have HB1 := Lib.hid (below_then HB.out HB.out.size hb1)
    have HO1 := Lib.hid (Kd.R_below HO.out hb1)
    obtain ⟨ad, ca, y0, y1, q0, q1⟩ := trm_at (H.out.below HB1.out) HC.out
    clear hb1 HB HO
    go_wp2_with fail
    go_ret
    exact ⟨_, rfl, by rw [HR.out]; exact HO1.out, HB1.out⟩
  ·have D1 : Hid (decide (thS st q) = false) := Lib.hid (decide_eq_false c)
   have HR : Hid (upP st s = acc) := Lib.hid (by rw [HU.out, HE.out q (fun h => c h.1)]; simp)
   clear c
   go_wp2_with fail
   refine (tthere_any (H.out.below HB.out) q).mono ?_
   rw [D1.out]
   rintro e w1 ⟨rfl, hb1⟩
   have HB1 := Lib.hid (below_then HB.out HB.out.size hb1)
   have HO1 := Lib.hid (Kd.R_below HO.out hb1)
   clear hb1 HB HO
   go_wp2_with fail
   go_ret
   exact ⟨_, rfl, by rw [HR.out]; exact HO1.out, HB1.out⟩
end
end Go.Proofs.YtikilglbhnplaaaGreatDoor
end
section
namespace Go.Proofs.YtikilglbhnplaaaGreatDoor
open Go.RowKit Go.Proofs.YtikilglbhnplaaaGreatDoorW.PrintWords
open PX (T V)
theorem idx_ev (l : List Int) (a : Int) (hl : l.length ≤ 1000000) (d : Nat) : ∀ i : Nat, i ≤ l.length → l.length - i = d → ∃ r : Int, Ev (fun k => PAll.slices_Index_int_int.l0 k l a (l.length : Int) i) r ∧ decide (r ≥ 0) = (l.drop i).contains a := by
 induction d with
 | zero =>
  intro i hi hd
  obtain rfl : i = l.length := by omega
  refine ⟨-1, Ev.step (fun k => rfl) ?_, by rw [List.drop_length]; rfl⟩
  simp only [PAll.slices_Index_int_int.l0]
  exact ev_neg (by omega) (Ev.now _)
 | succ d ih =>
  intro i hi hd
  have hlt : i < l.length := by omega
  have hr : rd l (i : Int) = l[i] := by simp [rd, List.getD_eq_getElem?_getD, List.getElem?_eq_getElem hlt]
  rw [List.drop_eq_getElem_cons hlt, List.contains_cons]
  by_cases he : a = l[i]
  ·refine ⟨(i : Int), Ev.step (fun k => rfl) ?_, ?_⟩
   ·simp only [PAll.slices_Index_int_int.l0]
    refine ev_pos (by omega) (ev_pos (by omega) (ev_pos (by omega) ?_))
    rw [hr]
    exact ev_pos he (Ev.now _)
   ·rw [show (a == l[i]) = true by simp [he], Bool.true_or]; exact decide_eq_true (by omega)
  ·obtain ⟨r, h1, h2⟩ := ih (i + 1) (by omega) (by omega)
   refine ⟨r, Ev.step (fun k => rfl) ?_, ?_⟩
   ·simp only [PAll.slices_Index_int_int.l0]
    refine ev_pos (by omega) (ev_pos (by omega) (ev_pos (by omega) ?_))
    rw [hr]
    refine ev_neg he ?_
    rw [w64 (by omega) (by omega)]
    exact h1
   ·rw [h2, show (a == l[i]) = false by simp [he], Bool.false_or]
theorem has_ev (l : List Int) (a : Int) (hl : l.length ≤ 1000000) : Ev (fun k => PAll.slices_Contains_int_int.f k l a) (l.contains a) := by
 obtain ⟨r, h1, h2⟩ := idx_ev l a hl l.length 0 (by omega) (by omega)
 rw [List.drop_zero] at h2
 rw [← h2]
 exact Ev.bind h1 (Ev.now _)
theorem drawn_below {w w' : World} (h : Drawn0 w w') : Below w.heap.size w w' := by
 obtain ⟨n, rfl⟩ := h
 exact below_drewN' (Below.refl _ _) n
section
variable {g : Nat} {v : Int} {st : List Sta} {tr : List Tra} {w : World}
theorem thas_any (A : Option Addr) (c : Nat) (l : List Int) (a : Int) (hl : l.length ≤ 1000000) (hc : l.length ≤ c) (hC : (Kd.int .i64).C w A l.length l) :
  Calls Tryz.prog 59 #[.slice A l.length c, .int .i64 a] w fun e w' => e = .returned (.bool (l.contains a)) ∧ Below w.heap.size w w' := by
 obtain ⟨k, hk⟩ := Ev.rounds (has_ev l a hl)
 refine (PAll.slices_Contains_int_int.calls k A c l a _ w hC hc hk).mono ?_
 rintro e w' ⟨rfl, hb⟩
 exact ⟨rfl, drawn_below hb⟩
theorem tin_any (h : TrM w g v st tr) (ha : Ahead st) (hl : st.length ≤ 1000) (a b : Int) : Calls Tryz.prog 44 #[.pointer (some ⟨g, 0, none⟩), .int .i64 a, .int .i64 b] w fun e w' => e = .returned (.bool (decide (0 ≤ b) && inC st a b)) ∧ Below w.heap.size w w' := by
 have H := Lib.hid h
 have HR : Hid ((upP st a).contains b = (decide (0 ≤ b) && inC st a b)) := Lib.hid (tin_eq ha a b)
 have HA := Lib.hid ha
 have hlen : (upP st a).length ≤ 1000000 := by
  by_cases c : thS st a
  ·have := upF_len st (a.toNat + 1) a
   have := c.1
   have := c.2
   unfold upP; omega
  ·rw [upP_eq ha, if_neg (fun h => c h.1)]; simp
 clear h ha
 go_enter Tryz.func44, Tryz.ntmps44
 go_wp2_with fail
 refine (tup_any H.out HA.out hl a).mono ?_
 rintro e w1 ⟨u, rfl, hu, hb1⟩
 obtain ⟨A, cap, rfl⟩ := Kd.R_slice hu
 obtain ⟨_, hcap, hC⟩ := Kd.R_reads' hu
 have HC := Lib.hid hC
 have HB1 := Lib.hid hb1
 clear hu hC hb1
 go_wp2_with fail
 refine (thas_any A cap (upP st a) b hlen hcap HC.out).mono ?_
 rintro e w2 ⟨rfl, hb2⟩
 go_wp2_with fail
 go_ret
 exact ⟨by rw [← HR.out]; simp, below_then HB1.out HB1.out.size hb2⟩
end
def setN (st : List Sta) (p : Int → Bool) : Nat → Nat
 | 0 => 0
 | n + 1 => setN st p n + if (rdS st (n : Int)).f0 < 5 ∧ p (n : Int) = true then 2 ^ n else 0
theorem setN_lt (st : List Sta) (p : Int → Bool) (n : Nat) : setN st p n < 2 ^ n := by
 induction n with
 | zero => simp [setN]
 | succ n ih =>
  simp only [setN]
  rw [Nat.pow_succ]
  split <;> omega
theorem setN_bit (st : List Sta) (p : Int → Bool) (n : Nat) : ∀ s : Nat, (setN st p n).testBit s = (decide (s < n) && (decide ((rdS st (s : Int)).f0 < 5) && p (s : Int))) := by
 induction n with
 | zero => intro s; simp [setN]
 | succ n ih =>
  intro s
  simp only [setN]
  by_cases hc : (rdS st (n : Int)).f0 < 5 ∧ p (n : Int) = true
  ·rw [if_pos hc, Nat.add_comm]
   rcases Nat.lt_trichotomy s n with h | h | h
   ·rw [Nat.testBit_two_pow_add_gt h, ih s, decide_eq_true h, decide_eq_true (show s < n + 1 by omega)]
   ·subst h
    rw [Nat.testBit_two_pow_add_eq, Nat.testBit_lt_two_pow (setN_lt st p s), decide_eq_true (by omega), decide_eq_true hc.1, hc.2]
    rfl
   ·rw [Nat.testBit_lt_two_pow, decide_eq_false (by omega)]
    ·rfl
    ·have := setN_lt st p n
     have h2 : 2 ^ (n + 1) ≤ 2 ^ s := Nat.pow_le_pow_right (by omega) h
     rw [Nat.pow_succ] at h2
     omega
  ·rw [if_neg hc, Nat.add_zero, ih s]
   by_cases h : s = n
   ·subst h
    rw [decide_eq_false (by omega), Bool.false_and]
    have : (decide ((rdS st (s : Int)).f0 < 5) && p (s : Int)) = false := by
     cases hp : p (s : Int)
     ·simp
     ·rw [decide_eq_false (fun h => hc ⟨h, hp⟩)]; rfl
    rw [this]; simp
   ·by_cases h2 : s < n
    ·rw [decide_eq_true h2, decide_eq_true (show s < n + 1 by omega)]
    ·rw [decide_eq_false h2, decide_eq_false (show ¬ s < n + 1 by omega)]
theorem or_new {x q : Nat} (h : x < 2 ^ q) (hq : q < 32) : bits .or .u32 (x : Int) (2 ^ q % 4294967296) = ((x + 2 ^ q : Nat) : Int) := by
 have h2 : 2 ^ q < 4294967296 := Nat.lt_of_lt_of_le (Nat.pow_lt_pow_right (by omega) hq) (by decide)
 have h3 : ((2 : Int) ^ q % 4294967296) = ((2 ^ q : Nat) : Int) := by
  have : ((2 : Int) ^ q) = ((2 ^ q : Nat) : Int) := by simp
  rw [this]
  omega
 rw [h3, u32_or_nat x (2 ^ q) (by omega) h2, Nat.or_comm]
 have := Nat.two_pow_add_eq_or_of_lt h 1
 rw [Nat.mul_one] at this
 rw [← this, Nat.add_comm]
def Asks (F : Nat) (g1 g2 : Nat) (w : World) (n : Nat) (p : Int → Bool) : Prop :=
 ∀ wr, Below w.heap.size w wr → ∀ s : Nat, s < n → Calls Tryz.prog F #[.int .i64 (s : Int), .pointer (some ⟨g1, 0, none⟩), .pointer (some ⟨g2, 0, none⟩)] wr fun e w' => e = .returned (.bool (p (s : Int))) ∧ Below wr.heap.size wr w'
section
variable {g : Nat} {v : Int} {st : List Sta} {tr : List Tra} {w : World}
theorem tset_any (h : TrM w g v st tr) (hl : st.length ≤ 24) (F g1 g2 : Nat) (hrun : ∀ args w, (callFunc F args).run Tryz.prog w = .ok (.enter F args) w) (p : Int → Bool) (hp : Asks F g1 g2 w st.length p) :
  Calls Tryz.prog 47 #[.pointer (some ⟨g, 0, none⟩), .func (.func F) #[] #[.pointer (some ⟨g1, 0, none⟩), .pointer (some ⟨g2, 0, none⟩)]] w fun e w' => e = .returned (.int .u32 (setN st p st.length : Nat)) ∧ Below w.heap.size w w' := by
 have HP := Lib.hid hp
 obtain ⟨A, ca, B, cb, h1, h2⟩ := h
 have y1 : w.cell? ⟨g, 1, none⟩ = some (.slice A st.length ca) := blk_cell h1 1
 have HCs := Lib.hid h2.cs
 clear hp h1 h2
 go_enter Tryz.func47, Tryz.ntmps47
 go_wp2_with fail
 go_loopw [5, 14] (fun o x wr => ∃ q : Nat, x = .int .i64 q ∧ q ≤ st.length ∧ o = .int .u32 (setN st p q : Nat) ∧ Hid (Below w.heap.size w wr)) (fun _ x _ => st.length - (intOf x).toNat)
 case atStart => exact ⟨0, rfl, Nat.zero_le _, rfl, Lib.hid (Below.refl _ _)⟩
 case round =>
  obtain ⟨q, rfl, hq, rfl, HB⟩ := hrel
  by_cases hlt : q < st.length
  ·have p1 : ((q : Int) < (st.length : Int)) = True := eq_true (by omega)
   obtain ⟨ad, A2, c2, A3, c3, A4, c4, rfl, q0, q1, q2, q3, q4, _⟩ := PAll.at_T66 (Kd.C_below HCs.out HB.out) (q : Int) (by omega) (by omega)
   rw [Int.toNat_natCast] at q0 q1 q2 q3 q4
   have HAl := Lib.hid ((HB.out.alloc HB.out.size (.cells #[.int .i64 (PAll.rd_T66 st q).f0, .int .i64 (PAll.rd_T66 st q).f1, .slice A2 (PAll.rd_T66 st q).f2.length c2, .slice A3 (PAll.rd_T66 st q).f3.length c3, .slice A4 (PAll.rd_T66 st q).f4.length c4] 66)))
   by_cases hk : (PAll.rd_T66 st q).f0 < 5
   ·have d1 : decide ((PAll.rd_T66 st q).f0 < 5) = true := decide_eq_true hk
    go_wp2_with fail
    refine (HP.out _ HAl.out q hlt).mono ?_
    cases hpq : p (q : Int) with
    | true =>
     have HS : Hid (setN st p (q + 1) = setN st p q + 2 ^ q) := Lib.hid (by simp only [setN]; rw [if_pos ⟨hk, hpq⟩])
     have HLt := Lib.hid (setN_lt st p q)
     have hq24 : q < 32 := by omega
     clear hpq
     rintro e w2 ⟨rfl, hb2⟩
     have HB2 := Lib.hid (below_then HAl.out HAl.out.size hb2)
     clear hb2
     go_wp2_with fail
     go_roundw
     case rel => exact ⟨q + 1, by go_num, by omega, by rw [HS.out, or_new HLt.out hq24], HB2⟩
     case measure => simp [intOf]; omega
    | false =>
     have HS : Hid (setN st p (q + 1) = setN st p q) := Lib.hid (by simp only [setN]; rw [if_neg (fun h => by rw [hpq] at h; cases h.2)]; rfl)
     clear hpq
     rintro e w2 ⟨rfl, hb2⟩
     have HB2 := Lib.hid (below_then HAl.out HAl.out.size hb2)
     clear hb2
     go_wp2_with fail
     go_roundw
     case rel => exact ⟨q + 1, by go_num, by omega, by rw [HS.out], HB2⟩
     case measure => simp [intOf]; omega
   ·have d1 : decide ((PAll.rd_T66 st q).f0 < 5) = false := decide_eq_false hk
    have HS : Hid (setN st p (q + 1) = setN st p q) := Lib.hid (by simp only [setN]; rw [if_neg (fun h => hk h.1)]; rfl)
    go_wp2_with fail
    go_roundw
    case rel => exact ⟨q + 1, by go_num, by omega, by rw [HS.out], HAl⟩
    case measure => simp [intOf]; omega
  ·obtain rfl : q = st.length := by omega
   have p1 : ((st.length : Int) < (st.length : Int)) = False := eq_false (by omega)
   go_wp2_with fail
   go_ret
   exact ⟨rfl, HB.out⟩
end
end Go.Proofs.YtikilglbhnplaaaGreatDoor
end
section
namespace Go.Proofs.YtikilglbhnplaaaGreatDoor
open Go.RowKit Go.Proofs.YtikilglbhnplaaaGreatDoorW.PrintWords Go.Proofs.YtikilglbhnplaaaGreatDoorW.PrintLast
open PX (T V)
abbrev inP (st : List Sta) (a b : Int) : Bool := decide (0 ≤ b) && inC st a b
section
variable {g : Nat} {v : Int} {st : List Sta} {tr : List Tra} {w : World}
theorem belfn_any (h : TrM w g v st tr) (ha : Ahead st) (hl : st.length ≤ 1000) (g1 g2 : Nat) (s x : Int) (h1 : w.heap[g1]? = some (.cells #[.pointer (some ⟨g, 0, none⟩)] 33 (0, 0))) (h2 : w.heap[g2]? = some (.cells #[.int .i64 s] 3 (0, 0))) :
  Calls Tryz.prog 48 #[.int .i64 x, .pointer (some ⟨g1, 0, none⟩), .pointer (some ⟨g2, 0, none⟩)] w fun e w' => e = .returned (.bool (inP st x s)) ∧ Below w.heap.size w w' := by
 have H := Lib.hid h
 have HA := Lib.hid ha
 have y1 : w.cell? ⟨g1, 0, none⟩ = some (.pointer (some ⟨g, 0, none⟩)) := blk_cell h1 0
 have y2 : w.cell? ⟨g2, 0, none⟩ = some (.int .i64 s) := blk_cell h2 0
 clear h ha h1 h2
 go_enter Tryz.func48, Tryz.ntmps48
 go_wp2_with fail
 refine (tin_any H.out HA.out hl x s).mono ?_
 rintro e w1 ⟨rfl, hb1⟩
 go_wp2_with fail
 go_ret
 exact ⟨rfl, hb1⟩
theorem joinfn_any (h : TrM w g v st tr) (ha : Ahead st) (hl : st.length ≤ 1000) (g1 g2 : Nat) (s x : Int) (h1 : w.heap[g1]? = some (.cells #[.pointer (some ⟨g, 0, none⟩)] 33 (0, 0))) (h2 : w.heap[g2]? = some (.cells #[.int .i64 s] 3 (0, 0))) :
  Calls Tryz.prog 43 #[.int .i64 x, .pointer (some ⟨g1, 0, none⟩), .pointer (some ⟨g2, 0, none⟩)] w fun e w' => e = .returned (.bool (!inP st x s)) ∧ Below w.heap.size w w' := by
 have H := Lib.hid h
 have HA := Lib.hid ha
 have y1 : w.cell? ⟨g1, 0, none⟩ = some (.pointer (some ⟨g, 0, none⟩)) := blk_cell h1 0
 have y2 : w.cell? ⟨g2, 0, none⟩ = some (.int .i64 s) := blk_cell h2 0
 clear h ha h1 h2
 go_enter Tryz.func43, Tryz.ntmps43
 go_wp2_with fail
 refine (tin_any H.out HA.out hl x s).mono ?_
 rintro e w1 ⟨rfl, hb1⟩
 go_wp2_with fail
 go_ret
 exact ⟨by simp [inP], hb1⟩
def belP (st : List Sta) (s : Int) : Nat := setN st (fun x => inP st x s) st.length
theorem tbel_any (h : TrM w g v st tr) (ha : Ahead st) (hl : st.length ≤ 24) (s : Int) :
  Calls Tryz.prog 17 #[.pointer (some ⟨g, 0, none⟩), .int .i64 s] w fun e w' => e = .returned (.int .u32 (belP st s : Nat)) ∧ Below w.heap.size w w' := by
 have hmf : ∀ (fn : Fn) (first cap : Array Value) (w : World), (Instr.makeFunc fn first cap).run Tryz.prog w = .ok (.func fn first cap) w := fun _ _ _ _ => rfl
 have hrun : ∀ args w, (callFunc 48 args).run Tryz.prog w = .ok (.enter 48 args) w := fun _ _ => rfl
 have hb0 : Below w.heap.size w ((w.alloc (.cells #[.pointer (some ⟨g, 0, none⟩)] 33)).alloc (.cells #[.int .i64 s] 3)) := ((Below.refl _ w).alloc (Nat.le_refl _) _).alloc (by simp) _
 have HB0 := Lib.hid hb0
 obtain ⟨hk1, hk2, hlt0, hsz⟩ := boxed2 (Below.refl _ ((w.alloc (.cells #[.pointer (some ⟨g, 0, none⟩)] 33)).alloc (.cells #[.int .i64 s] 3)))
 have HK1 := Lib.hid hk1
 have HK2 := Lib.hid hk2
 have y1 : ((w.alloc (.cells #[.pointer (some ⟨g, 0, none⟩)] 33)).alloc (.cells #[.int .i64 s] 3)).cell? ⟨w.heap.size, 0, none⟩ = some (.pointer (some ⟨g, 0, none⟩)) := blk_cell hk1 0
 have H := Lib.hid (h.below hb0)
 have HA := Lib.hid ha
 clear h ha hb0 hk1 hk2
 go_enter Tryz.func17, Tryz.ntmps17
 go_wp2_with fail
 generalize (w.alloc (.cells #[.pointer (some ⟨g, 0, none⟩)] 33)).alloc (.cells #[.int .i64 s] 3) = w0 at HB0 HK1 HK2 y1 H hlt0 ⊢
 have HAs : Hid (Asks 48 w.heap.size (w.heap.size + 1) w0 st.length (fun x => inP st x s)) := Lib.hid (fun wr hb x hx => belfn_any (H.out.below hb) HA.out (by omega) w.heap.size (w.heap.size + 1) s x ((hb.block _ (lt_of_block HK1.out)).trans HK1.out) ((hb.block _ (lt_of_block HK2.out)).trans HK2.out))
 go_wp2_with fail
 refine (tset_any H.out hl 48 w.heap.size (w.heap.size + 1) hrun _ HAs.out).mono ?_
 rintro e w1 ⟨rfl, hb1⟩
 go_wp2_with fail
 go_ret
 exact ⟨rfl, below_then HB0.out HB0.out.size hb1⟩
end
theorem addr0 (a : Addr) : a.add 0 = a := by cases a; simp [Addr.add]
def firstAt (p : Int → Bool) : List Int → Int → Int
 | [], _ => -1
 | a :: l, i => if p a = true then i else firstAt p l (i + 1)
theorem firstAt_pos (p : Int → Bool) (l : List Int) : ∀ i : Int, 0 ≤ i → decide (firstAt p l i ≥ 0) = l.any p := by
 induction l with
 | nil => intro i h; rfl
 | cons a l ih =>
  intro i h
  simp only [List.any_cons]
  by_cases hp : p a = true
  ·have e : firstAt p (a :: l) i = i := if_pos hp
   rw [e, hp, Bool.true_or]; exact decide_eq_true h
  ·have e : firstAt p (a :: l) i = firstAt p l (i + 1) := if_neg hp
   rw [e, Bool.eq_false_iff.mpr hp, Bool.false_or]; exact ih (i + 1) (by omega)
def AsksL (F : Nat) (g1 g2 : Nat) (w : World) (l : List Int) (p : Int → Bool) : Prop :=
 ∀ wr, Below w.heap.size w wr → ∀ x, x ∈ l → Calls Tryz.prog F #[.int .i64 x, .pointer (some ⟨g1, 0, none⟩), .pointer (some ⟨g2, 0, none⟩)] wr fun e w' => e = .returned (.bool (p x)) ∧ Below wr.heap.size wr w'
section
variable {w : World}
theorem fidx_any (F g1 g2 : Nat) (hrun : ∀ args w, (callFunc F args).run Tryz.prog w = .ok (.enter F args) w) (S : Option Addr) (c : Nat) (l : List Int) (hS : (Kd.int .i64).C w S l.length l) (hc : l.length ≤ c) (hl : l.length ≤ 1000000) (p : Int → Bool) (hp : AsksL F g1 g2 w l p) :
  Calls Tryz.prog 88 #[.slice S l.length c, .func (.func F) #[] #[.pointer (some ⟨g1, 0, none⟩), .pointer (some ⟨g2, 0, none⟩)]] w fun e w' => e = .returned (.int .i64 (firstAt p l 0)) ∧ Below w.heap.size w w' := by
 have HP := Lib.hid hp
 have HS := Lib.hid hS
 clear hS hp
 go_enter Tryz.func88, Tryz.ntmps88
 go_wp2_with fail
 go_loopw [8] (fun i wr => ∃ q : Nat, i = .int .i64 q ∧ q ≤ l.length ∧ Hid (Below w.heap.size w wr) ∧ Hid (firstAt p l 0 = firstAt p (l.drop q) q)) (fun i _ => l.length - (intOf i).toNat)
 case atStart => exact ⟨0, rfl, Nat.zero_le _, Lib.hid (Below.refl _ _), Lib.hid (by simp)⟩
 case round =>
  obtain ⟨q, rfl, hq, HB, HE⟩ := hrel
  by_cases hlt : q < l.length
  ·obtain ⟨ad, rfl, a0⟩ := nums_at (Kd.C_below HS.out HB.out) q hlt
   have hds : l.drop q = l[q] :: l.drop (q + 1) := List.drop_eq_getElem_cons hlt
   have HE2 := HE.out
   rw [hds] at HE2
   have HMe := Lib.hid (show l[q] ∈ l from List.getElem_mem hlt)
   have p1 : ((q : Int) < (l.length : Int)) = True := eq_true (by omega)
   clear hds HE
   generalize l[q] = a at *
   have HE := Lib.hid HE2
   clear HE2
   go_wp2_with fail
   refine (HP.out _ HB.out a HMe.out).mono ?_
   cases hp : p a with
   | true =>
    have HE3 : Hid (firstAt p l 0 = (q : Int)) := Lib.hid (by have := HE.out; simp only [firstAt] at this; rw [if_pos hp] at this; exact this)
    clear hp
    rintro e w2 ⟨rfl, hb2⟩
    have HB2 := Lib.hid (below_then HB.out HB.out.size hb2)
    clear hb2 a0
    go_wp2_with fail
    go_ret
    exact ⟨by rw [HE3.out]; rfl, HB2.out⟩
   | false =>
    have HE3 : Hid (firstAt p l 0 = firstAt p (l.drop (q + 1)) ((q + 1 : Nat) : Int)) := Lib.hid (by have := HE.out; simp only [firstAt] at this; rw [if_neg (by rw [hp]; simp)] at this; rw [this]; rfl)
    clear hp
    rintro e w2 ⟨rfl, hb2⟩
    have HB2 := Lib.hid (below_then HB.out HB.out.size hb2)
    clear hb2 a0
    go_wp2_with fail
    go_roundw
    case rel => exact ⟨q + 1, by go_num, by omega, HB2, HE3⟩
    case measure => simp [intOf]; omega
  ·obtain rfl : q = l.length := by omega
   have HE3 : Hid (firstAt p l 0 = -1) := Lib.hid (by rw [HE.out, List.drop_length]; rfl)
   go_wp2_with fail
   go_ret
   exact ⟨by rw [HE3.out]; rfl, HB.out⟩
theorem fhas_any (F g1 g2 : Nat) (hrun : ∀ args w, (callFunc F args).run Tryz.prog w = .ok (.enter F args) w) (S : Option Addr) (c : Nat) (l : List Int) (hS : (Kd.int .i64).C w S l.length l) (hc : l.length ≤ c) (hl : l.length ≤ 1000000) (p : Int → Bool) (hp : AsksL F g1 g2 w l p) :
  Calls Tryz.prog 45 #[.slice S l.length c, .func (.func F) #[] #[.pointer (some ⟨g1, 0, none⟩), .pointer (some ⟨g2, 0, none⟩)]] w fun e w' => e = .returned (.bool (l.any p)) ∧ Below w.heap.size w w' := by
 have HP := Lib.hid hp
 have HS := Lib.hid hS
 have HR := Lib.hid (firstAt_pos p l 0 (Int.le_refl _))
 clear hS hp
 go_enter Tryz.func45, Tryz.ntmps45
 go_wp2_with fail
 refine (fidx_any F g1 g2 hrun S c l HS.out hc hl p HP.out).mono ?_
 rintro e w1 ⟨rfl, hb1⟩
 go_wp2_with fail
 go_ret
 exact ⟨by rw [← HR.out]; rfl, hb1⟩
end
def joinF (st : List Sta) (l : List Int) : List Int → Int
 | [] => -1
 | s :: r => if kindP st s = 2 ∧ l.any (fun x => !inP st x s) = false then s else joinF st l r
def joinP (st : List Sta) (l : List Int) : Int := match l with | [] => -1 | a :: _ => joinF st l (upP st a)
section
variable {g : Nat} {v : Int} {st : List Sta} {tr : List Tra} {w : World}
theorem tjoin_any (h : TrM w g v st tr) (ha : Ahead st) (hl : st.length ≤ 1000) (S : Option Addr) (c : Nat) (l : List Int) (hS : (Kd.int .i64).C w S l.length l) (hc : l.length ≤ c) (hll : l.length ≤ 1000000) :
  Calls Tryz.prog 14 #[.pointer (some ⟨g, 0, none⟩), .slice S l.length c] w fun e w' => e = .returned (.int .i64 (joinP st l)) ∧ Below w.heap.size w w' := by
 have hmf : ∀ (fn : Fn) (first cap : Array Value) (w : World), (Instr.makeFunc fn first cap).run Tryz.prog w = .ok (.func fn first cap) w := fun _ _ _ _ => rfl
 have hrun : ∀ args w, (callFunc 43 args).run Tryz.prog w = .ok (.enter 43 args) w := fun _ _ => rfl
 have hb0 : Below w.heap.size w (w.alloc (.cells #[.pointer (some ⟨g, 0, none⟩)] 33)) := (Below.refl _ w).alloc (Nat.le_refl _) _
 have HB0 := Lib.hid hb0
 have hk1 := blk_new w (.cells #[.pointer (some ⟨g, 0, none⟩)] 33)
 have HK1 := Lib.hid hk1
 have y1 : (w.alloc (.cells #[.pointer (some ⟨g, 0, none⟩)] 33)).cell? ⟨w.heap.size, 0, none⟩ = some (.pointer (some ⟨g, 0, none⟩)) := blk_cell hk1 0
 have H := Lib.hid (h.below hb0)
 have HA := Lib.hid ha
 have HS := Lib.hid (Kd.C_below hS hb0)
 clear h hb0 hk1 hS
 by_cases hz : l.length = 0
 ·obtain rfl : l = [] := List.eq_nil_of_length_eq_zero hz
  go_enter Tryz.func14, Tryz.ntmps14
  go_wp2_with fail
  go_ret
  exact ⟨rfl, HB0.out⟩
 have d1 : ((l.length : Int) == 0) = false := by rw [beq_eq_false_iff_ne]; omega
 have hpos : 0 < l.length := by omega
 obtain ⟨ad, rfl, a0⟩ := nums_at HS.out 0 hpos
 replace a0 : (w.alloc (.cells #[.pointer (some ⟨g, 0, none⟩)] 33)).cell? ad = some (.int .i64 (l[0]'hpos)) := by rw [addr0] at a0; exact a0
 have hup : (upP st (l[0]'hpos)).length ≤ 1000000 := by
  by_cases c : thS st (l[0]'hpos)
  ·have := upF_len st ((l[0]'hpos).toNat + 1) (l[0]'hpos)
   have := c.1
   have := c.2
   unfold upP; omega
  ·rw [upP_eq ha, if_neg (fun h => c h.1)]; simp
 have HJ : Hid (joinP st l = joinF st l (upP st (l[0]'hpos))) := Lib.hid (by cases l with | nil => simp at hz | cons a r => rfl)
 have p0 : ((0 : Int) < (l.length : Int)) = True := eq_true (by omega)
 have p0' : (0 < l.length) = True := eq_true (by omega)
 generalize l[0]'hpos = a at *
 clear hz hpos
 go_enter Tryz.func14, Tryz.ntmps14
 go_wp2_with fail
 generalize w.alloc (.cells #[.pointer (some ⟨g, 0, none⟩)] 33) = w0 at HB0 HK1 y1 H HS a0 ⊢
 have HB1 := Lib.hid (below_drew HB0.out)
 refine start_ (n := 7) (S := fun w' => w'.cell? ⟨w.heap.size, 0, none⟩ = some (.pointer (some ⟨g, 0, none⟩)) ∧ w'.cell? ad = some (.int .i64 a)) (ds := [4]) (tf7 0) (by kernel_rfl) rfl (by kernel_rfl) ⟨y1, a0⟩ (fun hHeld => ?_)
 refine nxt_ (v := ?_) (a' := ?_) rfl rfl (by kernel_rfl) (fun _ _ _ h => h) (Or.inl ⟨by rfl, ?_⟩) hHeld ?_ ?_
 rotate_left
 ·rintro w' ⟨s0, s1⟩
  go_simp
  first | done | with_reducible rfl
 rotate_left
 ·simp only [Act.put, List.setIfInBounds_toArray, List.set_cons_zero, List.set_cons_succ, i64_w, i32_w]
  first | done | rfl
 iterate 2
  refine pxt_ (v := ?_) (a' := ?_) rfl rfl (by kernel_rfl) (fun _ _ _ h => h) (Or.inl ⟨by rfl, ?_⟩) ?_ ?_
  rotate_left
  ·intro w'
   go_simp
   first | done | with_reducible rfl
  rotate_left
  ·simp only [Act.put, List.setIfInBounds_toArray, List.set_cons_zero, List.set_cons_succ, i64_w, i32_w]
   first | done | rfl
 refine nxt_ (v := ?_) (a' := ?_) rfl rfl (by kernel_rfl) (fun _ _ _ h => h) (Or.inl ⟨by rfl, ?_⟩) hHeld ?_ ?_
 rotate_left
 ·rintro w' ⟨s0, s1⟩
  go_simp
  first | done | with_reducible rfl
 rotate_left
 ·simp only [Act.put, List.setIfInBounds_toArray, List.set_cons_zero, List.set_cons_succ, i64_w, i32_w]
  first | done | rfl
 refine pure_ (i := 6) (N := some 17) (v := ?_) (a' := ?_) (bm7 79) rfl rfl (by kernel_rfl) (fun _ _ _ h => h) (Or.inl ⟨by rfl, ?_⟩) ?_ ?_
 rotate_left
 ·intro w'
  go_simp
  with_reducible rfl
 rotate_left
 ·simp only [Act.put, List.setIfInBounds_toArray, List.set_cons_zero, List.set_cons_succ, i64_w, i32_w]
  rfl
 refine last_ (i := 4) (N := some 15) (bm7 95) rfl rfl (by kernel_rfl) (by decide) (fun K hK => ?_)
 refine goes_ Tryz.func11 (by kernel_rfl) rfl #[.pointer (some ⟨g, 0, none⟩), .int .i64 a] (by rfl) rfl rfl (by first | rfl | (go_simp; done) | (go_simp; exact ⟨rfl, rfl⟩) | (go_simp; rfl)) ?_
 refine (tup_any (H.out.below (below_drew (Below.refl _ _))) HA.out hl a).mono ?_
 rintro e1 w1 ⟨u, rfl, hu, hb⟩
 refine ⟨_, rfl, hK.out _ _ ?_⟩
 clear hK K
 obtain ⟨B, cap, rfl⟩ := Kd.R_slice hu
 obtain ⟨_, hcap, hC⟩ := Kd.R_reads' hu
 have HC := Lib.hid hC
 have HB2 := Lib.hid (HB1.out.trans (hb.mono HB1.out.size))
 have HH := Lib.hid (H.out.below (Below.trans (below_drew (Below.refl _ _)) hb))
 have HS2 := Lib.hid (Kd.C_below HS.out (Below.trans (below_drew (Below.refl _ _)) hb))
 have HK2 := Lib.hid ((hb.block _ (lt_of_block HK1.out)).trans HK1.out)
 clear hb hu hC
 refine pure_ (i := 5) (N := some 16) (v := ?_) (a' := ?_) (tf7 7) rfl rfl (by kernel_rfl) (fun _ _ _ h => h) (Or.inl ⟨by rfl, ?_⟩) ?_ ?_
 rotate_left
 ·intro w'
  go_simp
  with_reducible rfl
 rotate_left
 ·simp only [Act.put, List.setIfInBounds_toArray, List.set_cons_zero, List.set_cons_succ, i64_w, i32_w]
  rfl
 refine done_ (by kernel_rfl) ?_
 go_wp2_with fail
 clear H HS HK1 HB0 HB1 y1 a0 hHeld
 go_loopw [17] (fun i wr => ∃ q : Nat, i = .int .i64 q ∧ q ≤ (upP st a).length ∧ Hid (Below w1.heap.size w1 wr) ∧ Hid (joinP st l = joinF st l ((upP st a).drop q))) (fun i _ => (upP st a).length - (intOf i).toNat)
 case atStart => exact ⟨0, rfl, Nat.zero_le _, Lib.hid (Below.refl _ _), Lib.hid (by rw [HJ.out, List.drop_zero])⟩
 case round =>
  clear HJ
  obtain ⟨q, rfl, hq, HB, HE⟩ := hrel
  have hfin : Below w.heap.size w wr := below_then HB2.out HB2.out.size HB.out
  have HFin := Lib.hid hfin
  clear hfin
  by_cases hlt : q < (upP st a).length
  ·obtain ⟨ad2, rfl, a1⟩ := nums_at (Kd.C_below HC.out HB.out) q hlt
   have hds : (upP st a).drop q = (upP st a)[q] :: (upP st a).drop (q + 1) := List.drop_eq_getElem_cons hlt
   have HE2 := HE.out
   rw [hds] at HE2
   have p1 : ((q : Int) < ((upP st a).length : Int)) = True := eq_true (by omega)
   clear hds HE
   generalize (upP st a)[q] = s at *
   have HE := Lib.hid HE2
   clear HE2
   have hal : Below wr.heap.size wr (wr.alloc (.cells #[.int .i64 s] 3)) := (Below.refl _ wr).alloc (Nat.le_refl _) _
   have hk3 := blk_new wr (.cells #[.int .i64 s] 3)
   have HAl := Lib.hid hal
   have HK3 := Lib.hid hk3
   have HK4 := Lib.hid ((hal.block _ (by have := HB.out.size; have := lt_of_block HK2.out; omega)).trans ((HB.out.block _ (lt_of_block HK2.out)).trans HK2.out))
   have z1 : (wr.alloc (.cells #[.int .i64 s] 3)).cell? ⟨w.heap.size, 0, none⟩ = some (.pointer (some ⟨g, 0, none⟩)) := blk_cell HK4.out 0
   have z2 : (wr.alloc (.cells #[.int .i64 s] 3)).cell? ⟨wr.heap.size, 0, none⟩ = some (.int .i64 s) := blk_cell hk3 0
   clear hal hk3
   go_wp2_with fail
   generalize wr.alloc (.cells #[.int .i64 s] 3) = w2 at HAl HK3 HK4 z1 z2 ⊢
   have HH2 := Lib.hid (HH.out.below (below_then HB.out HB.out.size HAl.out))
   have HBb := Lib.hid (below_then HB.out HB.out.size HAl.out)
   refine (tkind_any HH2.out s).mono ?_
   rintro e3 w3 ⟨rfl, hb3⟩
   have HB3 := Lib.hid (below_then HBb.out HBb.out.size hb3)
   have HH3 := Lib.hid (HH2.out.below hb3)
   have HK33 := Lib.hid ((hb3.block _ (lt_of_block HK3.out)).trans HK3.out)
   have HK34 := Lib.hid ((hb3.block _ (lt_of_block HK4.out)).trans HK4.out)
   have z3 : w3.cell? ⟨wr.heap.size, 0, none⟩ = some (.int .i64 s) := blk_cell HK33.out 0
   clear hb3 z1 z2
   by_cases hk : kindP st s = 2
   ·have d2 : (kindP st s == 2) = true := by simp [hk]
    have HAs : Hid (AsksL 43 w.heap.size wr.heap.size w3 l (fun x => !inP st x s)) := Lib.hid (fun wx hb x hx => joinfn_any (HH3.out.below hb) HA.out hl w.heap.size wr.heap.size s x ((hb.block _ (lt_of_block HK34.out)).trans HK34.out) ((hb.block _ (lt_of_block HK33.out)).trans HK33.out))
    go_wp2_with fail
    refine (fhas_any 43 w.heap.size wr.heap.size hrun (some ad) c l (Kd.C_below HS2.out HB3.out) hc hll _ HAs.out).mono ?_
    cases hany : l.any (fun x => !inP st x s) with
    | false =>
     have HR : Hid (joinP st l = s) := Lib.hid (by rw [HE.out]; simp only [joinF]; rw [if_pos ⟨hk, hany⟩])
     clear hany hk
     rintro e4 w4 ⟨rfl, hb4⟩
     have z4 : w4.cell? ⟨wr.heap.size, 0, none⟩ = some (.int .i64 s) := blk_cell ((hb4.block _ (lt_of_block HK33.out)).trans HK33.out) 0
     have HB4 := Lib.hid (below_then HB3.out HB3.out.size hb4)
     clear hb4
     go_wp2_with fail
     go_ret
     exact ⟨by rw [HR.out]; rfl, below_then HB2.out HB2.out.size HB4.out⟩
    | true =>
     have HR : Hid (joinP st l = joinF st l ((upP st a).drop (q + 1))) := Lib.hid (by rw [HE.out]; simp only [joinF]; rw [if_neg (fun h => by rw [hany] at h; cases h.2)])
     clear hany hk
     rintro e4 w4 ⟨rfl, hb4⟩
     have HB4 := Lib.hid (below_then HB3.out HB3.out.size hb4)
     clear hb4
     go_wp2_with fail
     go_roundw
     case rel => exact ⟨q + 1, by go_num, by omega, HB4, HR⟩
     case measure => simp [intOf]; omega
   ·have d2 : (kindP st s == 2) = false := by simp [hk]
    have HR : Hid (joinP st l = joinF st l ((upP st a).drop (q + 1))) := Lib.hid (by rw [HE.out]; simp only [joinF]; rw [if_neg (fun h => hk h.1)])
    go_wp2_with fail
    go_roundw
    case rel => exact ⟨q + 1, by go_num, by omega, HB3, HR⟩
    case measure => simp [intOf]; omega
  ·obtain rfl : q = (upP st a).length := by omega
   have HR : Hid (joinP st l = -1) := Lib.hid (by rw [HE.out, List.drop_length]; rfl)
   go_wp2_with fail
   go_ret
   exact ⟨by rw [HR.out]; rfl, HFin.out⟩
end
end Go.Proofs.YtikilglbhnplaaaGreatDoor
end
