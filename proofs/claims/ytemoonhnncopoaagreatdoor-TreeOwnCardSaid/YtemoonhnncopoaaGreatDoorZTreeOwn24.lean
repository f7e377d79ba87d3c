/- Texts of this claim, merged (ChFew, ChLaw, Actone, Tre, Tset, Tbel, Tnew, Tsame, Town, Laid). -/
import Derived.Deep.RegionLawGrows
import Derived.Laws.BitsAllLaws
import Derived.Test.YtemoonhnncopoaaGreatDoorRows
import Derived.LaidSub
import Derived.LaidHandle
import Derived.LaidLaws
import Derived.Lib.LaidU8
import Derived.Deep.DeepLaidRun
import Derived.Test.YtemoonhnncopoaaGreatDoorZTreeOwn14
import Derived.Test.YtemoonhnncopoaaGreatDoorZTreeOwn15
import Derived.Test.YtemoonhnncopoaaGreatDoorZTreeOwn23
import Derived.Test.YtemoonhnncopoaaGreatDoorZTreeOwn19
import Derived.Test.YtemoonhnncopoaaGreatDoorZTreeOwn21
import Derived.Test.YtemoonhnncopoaaGreatDoorZTreeOwn16
import Derived.Test.YtemoonhnncopoaaGreatDoorZTreeOwn22
import Derived.Test.YtemoonhnncopoaaGreatDoorZTreeOwn17
import Derived.Test.YtemoonhnncopoaaGreatDoorZTreeOwn18
section
set_option linter.unusedVariables false
set_option linter.unusedSimpArgs false
namespace Go.Proofs.YtemoonhnncopoaaGreatDoor
open Go.RowKit Go.Proofs.YtemoonhnncopoaaGreatDoorW.PrintWords
open PX (T V)
def fewAP (l : List Ac) : Bool := (l.all fun a => decide (a.f3.size ≤ 500)) && decide (l.length ≤ 20)
theorem fewA_l0 (l : List Ac) (hl : l.length ≤ 9223372036854775807) (d : Nat) : ∀ a : Nat, a ≤ l.length → l.length - a = d → Ev (fun k => PAll.spinetref05_fewActs.l0 k l a) (((l.drop a).all fun x => decide (x.f3.size ≤ 500)) && decide (l.length ≤ 20)) := by
  induction d with
  | zero =>
    intro a ha hd
    obtain rfl : a = l.length := by omega
    refine Ev.step (fun k => rfl) ?_
    simp only [PAll.spinetref05_fewActs.l0]
    refine ev_neg (by omega) ?_
    have : (((l.drop l.length).all fun x => decide (x.f3.size ≤ 500)) && decide (l.length ≤ 20)) = decide ((l.length : Int) ≤ 20) := by
      rw [List.drop_length]
      simp
      omega
    rw [this]
    exact Ev.now _
  | succ d ih =>
    intro a ha hd
    have hlt : a < l.length := by omega
    refine Ev.step (fun k => rfl) ?_
    simp only [PAll.spinetref05_fewActs.l0]
    have hr : PAll.rd_T80 l (a : Int) = l[a] := by simp [PAll.rd_T80, List.getD_eq_getElem?_getD, List.getElem?_eq_getElem hlt]
    rw [hr, List.drop_eq_getElem_cons hlt]
    refine ev_pos (by omega) (ev_pos (by omega) ?_)
    by_cases h5 : 500 < l[a].f3.size
    · have : ((l[a] :: l.drop (a + 1)).all fun x => decide (x.f3.size ≤ 500)) = false := by
        rw [List.all_cons, decide_eq_false (by omega)]
        rfl
      rw [this]
      exact ev_pos (by omega) (Ev.now _)
    · refine ev_neg (by omega) ?_
      rw [w64 (by omega) (by omega)]
      rw [List.all_cons, decide_eq_true (show l[a].f3.size ≤ 500 by omega)]
      exact ih (a + 1) (by omega) (by omega)
theorem fewA_ev (l : List Ac) (hl : l.length ≤ 9223372036854775807) : Ev (fun k => PAll.spinetref05_fewActs.f k l) (fewAP l) := by
  have h := fewA_l0 l hl l.length 0 (by omega) (by omega)
  rw [List.drop_zero] at h
  exact h
def fewS (x : Sta) : Bool := fewAP x.f3 && fewAP x.f4 && decide (x.f2.length ≤ 20)
def fewT (x : Tra) : Bool := fewAP x.f5 && decide (x.f3.length ≤ 20) && decide (x.f2.size ≤ 500)
def fewP (st : List Sta) (tr : List Tra) : Bool := decide (st.length ≤ 40) && decide (tr.length ≤ 60) && st.all fewS && tr.all fewT
theorem few_l1 (v : Int) (st : List Sta) (tr : List Tra) (hT : ∀ x ∈ tr, x.f5.length ≤ 9223372036854775807) (hl : tr.length ≤ 60) (d : Nat) : ∀ a : Nat, a ≤ tr.length → tr.length - a = d →
    Ev (fun k => PAll.spinetref05_Few.l1 k a v st tr) ((tr.drop a).all fewT) := by
  induction d with
  | zero =>
    intro a ha hd
    obtain rfl : a = tr.length := by omega
    refine Ev.step (fun k => rfl) ?_
    simp only [PAll.spinetref05_Few.l1]
    rw [List.drop_length]
    exact ev_neg (by omega) (Ev.now _)
  | succ d ih =>
    intro a ha hd
    have hlt : a < tr.length := by omega
    refine Ev.step (fun k => rfl) ?_
    simp only [PAll.spinetref05_Few.l1]
    have hr : PAll.rd_T56 tr (a : Int) = tr[a] := by simp [PAll.rd_T56, List.getD_eq_getElem?_getD, List.getElem?_eq_getElem hlt]
    rw [hr, List.drop_eq_getElem_cons hlt, List.all_cons]
    refine ev_pos (by omega) (ev_pos (by omega) (Ev.bind (fewA_ev _ (hT _ (List.getElem_mem hlt))) ?_))
    cases h1 : fewAP tr[a].f5 with
    | false => exact ev_is (by simp [fewT, h1]) (ev_neg (by simp) (Ev.now _))
    | true =>
      refine ev_pos rfl ?_
      by_cases h2 : 20 < tr[a].f3.length
      · exact ev_is (by simp [fewT]; omega) (ev_pos (by omega) (Ev.now false))
      · refine ev_neg (by omega) ?_
        by_cases h3 : 500 < tr[a].f2.size
        · exact ev_is (by simp [fewT]; omega) (ev_pos (by omega) (Ev.now false))
        · refine ev_neg (by omega) ?_
          rw [w64 (by omega) (by omega)]
          refine ev_is ?_ (ih (a + 1) (by omega) (by omega))
          have : fewT tr[a] = true := by simp [fewT, h1]; omega
          rw [this, Bool.true_and]
theorem few_l0 (v : Int) (st : List Sta) (tr : List Tra) (hS : ∀ x ∈ st, x.f3.length ≤ 9223372036854775807 ∧ x.f4.length ≤ 9223372036854775807) (hT : ∀ x ∈ tr, x.f5.length ≤ 9223372036854775807) (hl : tr.length ≤ 60) (hn : st.length ≤ 40) (d : Nat) : ∀ a : Nat, a ≤ st.length → st.length - a = d →
    Ev (fun k => PAll.spinetref05_Few.l0 k a v st tr) ((st.drop a).all fewS && tr.all fewT) := by
  induction d with
  | zero =>
    intro a ha hd
    obtain rfl : a = st.length := by omega
    refine Ev.step (fun k => rfl) ?_
    simp only [PAll.spinetref05_Few.l0]
    rw [List.drop_length]
    have h := few_l1 v st tr hT hl tr.length 0 (by omega) (by omega)
    rw [List.drop_zero] at h
    exact ev_neg (by omega) h
  | succ d ih =>
    intro a ha hd
    have hlt : a < st.length := by omega
    refine Ev.step (fun k => rfl) ?_
    simp only [PAll.spinetref05_Few.l0]
    have hr : PAll.rd_T54 st (a : Int) = st[a] := by simp [PAll.rd_T54, List.getD_eq_getElem?_getD, List.getElem?_eq_getElem hlt]
    rw [hr, List.drop_eq_getElem_cons hlt, List.all_cons]
    refine ev_pos (by omega) (ev_pos (by omega) (Ev.bind (fewA_ev _ (hS _ (List.getElem_mem hlt)).1) (Ev.bind (fewA_ev _ (hS _ (List.getElem_mem hlt)).2) ?_)))
    cases h1 : fewAP st[a].f3 with
    | false => exact ev_is (by simp [fewS, h1]) (ev_neg (by simp) (Ev.now _))
    | true =>
      refine ev_pos rfl ?_
      cases h2 : fewAP st[a].f4 with
      | false => exact ev_is (by simp [fewS, h2]) (ev_neg (by simp) (Ev.now _))
      | true =>
        refine ev_pos rfl ?_
        by_cases h3 : 20 < st[a].f2.length
        · exact ev_is (by simp [fewS]; omega) (ev_pos (by omega) (Ev.now false))
        · refine ev_neg (by omega) ?_
          rw [w64 (by omega) (by omega)]
          refine ev_is ?_ (ih (a + 1) (by omega) (by omega))
          have : fewS st[a] = true := by simp [fewS, h1, h2]; omega
          rw [this, Bool.true_and]
theorem few_ev (v : Int) (st : List Sta) (tr : List Tra) (hS : ∀ x ∈ st, x.f3.length ≤ 9223372036854775807 ∧ x.f4.length ≤ 9223372036854775807) (hT : ∀ x ∈ tr, x.f5.length ≤ 9223372036854775807) : Ev (fun k => PAll.spinetref05_Few.f k v st tr) (fewP st tr) := by
  have stop : ∀ x : Bool, x = true → Ev (fun k => PAll.spinetref05_Few.j0 k x v st tr) false := by
    intro x hx
    refine Ev.step (fun k => rfl) ?_
    simp only [PAll.spinetref05_Few.j0]
    exact ev_pos hx (Ev.now _)
  unfold PAll.spinetref05_Few.f
  by_cases h1 : 40 < st.length
  · exact ev_is (by simp [fewP]; omega) (ev_pos (by omega) (stop _ rfl))
  · refine ev_neg (by omega) ?_
    by_cases h2 : 60 < tr.length
    · exact ev_is (by simp [fewP]; omega) (stop _ (decide_eq_true (by omega)))
    · have h := few_l0 v st tr hS hT (by omega) (by omega) st.length 0 (by omega) (by omega)
      rw [List.drop_zero] at h
      rw [decide_eq_false (show ¬ ((tr.length : Int) > 60) by omega)]
      refine Ev.step (fun k => rfl) ?_
      simp only [PAll.spinetref05_Few.j0]
      refine ev_neg (by simp) (ev_is ?_ h)
      simp only [fewP]
      rw [decide_eq_true (show st.length ≤ 40 by omega), decide_eq_true (show tr.length ≤ 60 by omega)]
      simp
theorem few_of {st : List Sta} {tr : List Tra} (h : fewP st tr = true) : FewC st tr ∧ st.length ≤ 40 ∧ tr.length ≤ 60 := by
  simp only [fewP, Bool.and_eq_true, decide_eq_true_eq, List.all_eq_true] at h
  obtain ⟨⟨⟨h1, h2⟩, h3⟩, h4⟩ := h
  refine ⟨⟨fun x hx => ?_, fun x hx => ?_⟩, h1, h2⟩
  · have := h3 x hx
    simp only [fewS, fewAP, Bool.and_eq_true, decide_eq_true_eq, List.all_eq_true] at this
    obtain ⟨⟨⟨a1, a2⟩, b1, b2⟩, _⟩ := this
    refine ⟨by omega, by omega, fun a ha => ?_⟩
    rcases List.mem_append.1 ha with ha | ha
    · have := a1 a ha; omega
    · have := b1 a ha; omega
  · have := h4 x hx
    simp only [fewT, fewAP, Bool.and_eq_true, decide_eq_true_eq, List.all_eq_true] at this
    obtain ⟨⟨⟨a1, a2⟩, _⟩, c1⟩ := this
    exact ⟨by omega, fun a ha => by have := a1 a ha; omega⟩
section
variable {A B : Option Addr} {ca cb : Nat} {st : List Sta} {tr : List Tra} {w : World}
theorem cs_len (h : ChM w A ca st B cb tr) : ∀ x ∈ st, x.f3.length ≤ 9223372036854775807 ∧ x.f4.length ≤ 9223372036854775807 := by
  intro x hx
  obtain ⟨q, hq, rfl⟩ := List.mem_iff_getElem.1 hx
  obtain ⟨ad, A2, c2, A3, c3, A4, c4, _, _, _, _, _, _, l3, g3, l4, g4⟩ := state_full h (q : Int) (by omega) (by omega)
  have hr : PAll.rd_T54 st (q : Int) = st[q] := by simp [PAll.rd_T54, List.getD_eq_getElem?_getD, List.getElem?_eq_getElem hq]
  rw [hr] at g3 g4
  exact ⟨g3.2.1, g4.2.1⟩
theorem ct_len (h : ChM w A ca st B cb tr) : ∀ x ∈ tr, x.f5.length ≤ 9223372036854775807 := by
  intro x hx
  obtain ⟨q, hq, rfl⟩ := List.mem_iff_getElem.1 hx
  obtain ⟨ad, A3, c3, A5, c5, _, _, _, _, _, _, _, l3, g3, l5, g5⟩ := PAll.at_T56 h.ct (q : Int) (by omega) (by omega)
  have hr : PAll.rd_T56 tr (q : Int) = tr[q] := by simp [PAll.rd_T56, List.getD_eq_getElem?_getD, List.getElem?_eq_getElem hq]
  rw [hr] at g5
  exact g5.2.1
theorem fewc_any (h : ChM w A ca st B cb tr) (v : Int) : Calls Tryz.prog 25 #[ckV v A B st.length tr.length ca cb] w fun e w' => e = .returned (.bool (fewP st tr)) ∧ Below w.heap.size w w' := by
  obtain ⟨k, hk⟩ := Ev.rounds (few_ev v st tr (cs_len h) (ct_len h))
  exact PAll.spinetref05_Few.calls k v A ca st B cb tr _ w h.cs h.sc h.ct h.tc hk
end
abbrev ActT := Int × Int × Int × ByteArray × Unit
abbrev StaT := Int × Int × List Int × List ActT × List ActT × Unit
abbrev TraT := Int × Int × ByteArray × List Int × Bool × List ActT × Unit
def RSta : Rep StaT := (Rep.int .i64).pair ((Rep.int .i64).pair ((Rep.int .i64).slice.pair (RAct.slice.pair (RAct.slice.pair Rep.unit))))
def RTra : Rep TraT := (Rep.int .i64).pair ((Rep.int .i64).pair (Rep.str.pair ((Rep.int .i64).slice.pair (Rep.bool.pair (RAct.slice.pair Rep.unit)))))
def RChart : Rep (Int × List StaT × List TraT × Unit) := (Rep.int .i64).pair (RSta.slice.pair (RTra.slice.pair Rep.unit))
theorem ints_reads : Reads Tryz.prog 27 (Rep.int .i64).slice := reads_slice Tryz.underlying27 (by kernel_rfl) (reads_int Tryz.underlying3 (by kernel_rfl)) (by decide)
theorem acts_reads : Reads Tryz.prog 22 RAct.slice := reads_slice Tryz.underlying22 (by kernel_rfl) RAct.reads (by decide)
set_option maxRecDepth 100000 in
theorem RSta.reads : Reads Tryz.prog 54 RSta :=
  reads_struct Tryz.underlying54 (fields_cons rfl (reads_int Tryz.underlying3 (by kernel_rfl)) (fields_cons rfl (reads_int Tryz.underlying3 (by kernel_rfl)) (fields_cons rfl ints_reads (fields_cons rfl acts_reads (fields_cons rfl acts_reads (fields_nil _ _)))))) (by kernel_rfl)
set_option maxRecDepth 100000 in
theorem RTra.reads : Reads Tryz.prog 56 RTra :=
  reads_struct Tryz.underlying56 (fields_cons rfl (reads_int Tryz.underlying3 (by kernel_rfl)) (fields_cons rfl (reads_int Tryz.underlying3 (by kernel_rfl)) (fields_cons rfl (reads_str Tryz.underlying9 (by kernel_rfl)) (fields_cons rfl ints_reads (fields_cons rfl (reads_bool Tryz.underlying4 (by kernel_rfl)) (fields_cons rfl acts_reads (fields_nil _ _))))))) (by kernel_rfl)
set_option maxRecDepth 100000 in
theorem RChart.reads : Reads Tryz.prog 47 RChart :=
  reads_struct Tryz.underlying47 (fields_cons rfl (reads_int Tryz.underlying3 (by kernel_rfl)) (fields_cons rfl (reads_slice Tryz.underlying44 (by kernel_rfl) RSta.reads (by decide)) (fields_cons rfl (reads_slice Tryz.underlying45 (by kernel_rfl) RTra.reads (by decide)) (fields_nil _ _)))) (by kernel_rfl)
def acOf (t : ActT) : Ac := ⟨t.1, t.2.1, t.2.2.1, t.2.2.2.1⟩
def staOf (t : StaT) : Sta := ⟨t.1, t.2.1, t.2.2.1.map id, t.2.2.2.1.map acOf, t.2.2.2.2.1.map acOf⟩
def traOf (t : TraT) : Tra := ⟨t.1, t.2.1, t.2.2.1, t.2.2.2.1.map id, t.2.2.2.2.1, t.2.2.2.2.2.1.map acOf⟩
theorem repK_act : RepK RAct PAll.k80 acOf := by
  intro F w cs x h
  obtain ⟨c1, d1, rfl, _, ⟨rfl, _⟩, c2, d2, rfl, _, ⟨rfl, _⟩, c3, d3, rfl, _, ⟨rfl, _⟩, c4, d4, rfl, _, ⟨rfl, _⟩, rfl⟩ := h
  exact PAll.k80_mk w (acOf x)
theorem repK_sta : RepK RSta PAll.k54 staOf := by
  intro F w cs x h
  obtain ⟨c1, d1, rfl, _, ⟨rfl, _⟩, c2, d2, rfl, _, ⟨rfl, _⟩, c3, d3, rfl, _, h3, c4, d4, rfl, _, h4, c5, d5, rfl, _, h5, rfl⟩ := h
  obtain ⟨A2, n2, rfl, l2, g2⟩ := repK_slice 3 (repK_int .i64) rfl _ _ _ _ h3
  obtain ⟨A3, n3, rfl, l3, g3⟩ := repK_slice 80 repK_act rfl _ _ _ _ h4
  obtain ⟨A4, n4, rfl, l4, g4⟩ := repK_slice 80 repK_act rfl _ _ _ _ h5
  exact PAll.k54_mk w (staOf x) (c2 := n2) l2 g2 (c3 := n3) l3 g3 (c4 := n4) l4 g4
theorem repK_tra : RepK RTra PAll.k56 traOf := by
  intro F w cs x h
  obtain ⟨c1, d1, rfl, _, ⟨rfl, _⟩, c2, d2, rfl, _, ⟨rfl, _⟩, c3, d3, rfl, _, ⟨rfl, _⟩, c4, d4, rfl, _, h4, c5, d5, rfl, _, rfl, c6, d6, rfl, _, h6, rfl⟩ := h
  obtain ⟨A3, n3, rfl, l3, g3⟩ := repK_slice 3 (repK_int .i64) rfl _ _ _ _ h4
  obtain ⟨A5, n5, rfl, l5, g5⟩ := repK_slice 80 repK_act rfl _ _ _ _ h6
  exact PAll.k56_mk w (traOf x) (c3 := n3) l3 g3 (c5 := n5) l5 g5
theorem chartArg {w : World} {cs : Array Value} {x : Int × List StaT × List TraT × Unit} (h : RChart.ok (fun b => b < w.heap.size) w cs.toList x) :
    ∃ A ca B cb, ∃ st : List Sta, ∃ tr : List Tra, Value.agg cs = ckV x.1 A B st.length tr.length ca cb ∧ ChM w A ca st B cb tr := by
  obtain ⟨c1, d1, he, _, ⟨rfl, _⟩, c2, d2, rfl, _, h2, c3, d3, rfl, _, h3, rfl⟩ := h
  obtain ⟨A, n, rfl, l, g⟩ := repK_slice 54 repK_sta rfl _ _ _ _ h2
  obtain ⟨B, m, rfl, l', g'⟩ := repK_slice 56 repK_tra rfl _ _ _ _ h3
  refine ⟨A, n, B, m, _, _, ?_, ⟨g, l, g', l'⟩⟩
  have : cs = #[.int .i64 x.1, .slice A (x.2.1.map staOf).length n, .slice B (x.2.2.1.map traOf).length m] := by
    apply Array.ext'
    rw [he]; rfl
  rw [this]
end Go.Proofs.YtemoonhnncopoaaGreatDoor
end
section
set_option linter.unusedVariables false
set_option linter.unusedSimpArgs false
namespace Go.Proofs.YtemoonhnncopoaaGreatDoor
open Go.RowKit Go.Proofs.YtemoonhnncopoaaGreatDoorW.PrintWords
open PX (T V)
theorem chk_none {v : Int} {st : List Sta} {tr : List Tra} (h : chkP v st tr = .none) : (0 ≤ v ∧ v ≤ 8 ∧ 1 ≤ st.length ∧ st.length ≤ 24 ∧ tr.length ≤ 40) ∧ (∀ j : Int, 0 ≤ j → j < (st.length : Int) → stateP v st j = 0) ∧ ∀ j : Int, 0 ≤ j → j < (tr.length : Int) → transP v st (PAll.rd_T56 tr j) = 0 := by
  unfold chkP at h
  split at h
  · cases h
  · rename_i hb
    refine ⟨by omega, ?_⟩
    cases h1 : findBad (stateP v st) st.length 0 with
    | some x => rw [h1] at h; cases h
    | none =>
      rw [h1] at h
      simp only at h
      cases h2 : findBad (fun i => transP v st (PAll.rd_T56 tr i)) tr.length 0 with
      | some x => rw [h2] at h; cases h
      | none =>
        have a1 := (findBad_none _ _ _).1 h1
        have a2 := (findBad_none _ _ _).1 h2
        exact ⟨fun j h1 h2 => a1 j h1 (by omega), fun j h1 h2 => a2 j h1 (by omega)⟩
end Go.Proofs.YtemoonhnncopoaaGreatDoor
end
section
set_option linter.unusedVariables false
set_option linter.unusedSimpArgs false
namespace Go.Proofs.YtemoonhnncopoaaGreatDoor
open Go.RowKit Go.Proofs.YtemoonhnncopoaaGreatDoorW.PrintWords
open PX (T V)
section
variable {ops : Array Oper} {rest : List Oper} {o : Oper} {a : Act} {Q : Exit → Act → World → Prop}
theorem inn_append {W : World} (hgd : o.guard = none) (s x : Operand)
    (ho : o.op = .call { callee := .builtin .append, args := #[s, x], argTypes := #[27, 27] })
    (B : Nat) (v : Value) (xs : List Int) (p : Int) (hs : a.eval s = v) (N : Nat) (hx : a.eval x = .slice (some ⟨N, 0, none⟩) 1 1) (hN : N = W.heap.size)
    (HO : InnR W B v xs) (hB : B ≤ W.heap.size) (hl : xs.length < 1000000)
    (h : ∀ v1 w1, InnR w1 B v1 (xs ++ [p]) → Below B W w1 → W.grownBy w1 v.ownBlock → wpList Tryz.prog ops Q rest (a.put o.dst v1) w1) :
    wpList Tryz.prog ops Q (o :: rest) a (W.alloc (.cells #[.int .i64 p] 3)) := by
  subst hN
  refine Kd.R_append (Kd.int .i64) (w0 := W) B hgd s x 27 3 (.int .i64 0) 8 ho Tryz.underlying27 (by kernel_rfl) rfl (by decide) (by omega) v xs p [.int .i64 p]
    (fun _ => True) (fun _ => False) hs hx rfl (fun _ hk => hk.elim) (fun _ _ => trivial) HO (Below.refl _ _) hB (by omega) ?_
  intro v1 w1 h1 h2 h3 h4
  exact h v1 w1 h1 h2 h3
end
end Go.Proofs.YtemoonhnncopoaaGreatDoor
end
section
set_option linter.unusedVariables false
set_option linter.unusedSimpArgs false
namespace Go.Proofs.YtemoonhnncopoaaGreatDoor
open Go.RowKit Go.Proofs.YtemoonhnncopoaaGreatDoorW.PrintWords
open PX (T V)
abbrev rdS (st : List Sta) (i : Int) : Sta := PAll.rd_T54 st i
abbrev thS (st : List Sta) (i : Int) : Prop := 0 ≤ i ∧ i < (st.length : Int)
theorem ahead_at {st : List Sta} (ha : Ahead st) {s : Int} (h : thS st s) : (rdS st s).f1 < s ∧ (0 < s → 0 ≤ (rdS st s).f1) := ⟨(ha s h.1 h.2).1, (ha s h.1 h.2).2.1⟩
def kindP (st : List Sta) (s : Int) : Int := if thS st s then (rdS st s).f0 else 0
def upF (st : List Sta) : Nat → Int → List Int
  | 0, _ => []
  | f + 1, s => if thS st s ∧ 0 ≤ (rdS st s).f1 then (rdS st s).f1 :: upF st f (rdS st s).f1 else []
def upP (st : List Sta) (s : Int) : List Int := upF st (s.toNat + 1) s
theorem upF_two {st : List Sta} (ha : Ahead st) (n : Nat) : ∀ (s : Int) (f g : Nat), s.toNat < f → s.toNat < g → s.toNat ≤ n → upF st f s = upF st g s := by
  induction n with
  | zero =>
    intro s f g hf hg hn
    cases f with
    | zero => omega
    | succ f =>
      cases g with
      | zero => omega
      | succ g =>
        simp only [upF]
        by_cases c : thS st s ∧ 0 ≤ (rdS st s).f1
        · have := (ahead_at ha c.1).1; omega
        · rw [if_neg c, if_neg c]
  | succ n ih =>
    intro s f g hf hg hn
    cases f with
    | zero => omega
    | succ f =>
      cases g with
      | zero => omega
      | succ g =>
        simp only [upF]
        by_cases c : thS st s ∧ 0 ≤ (rdS st s).f1
        · have := (ahead_at ha c.1).1
          have := c.2
          have := c.1.1
          rw [if_pos c, if_pos c, ih _ f g (by omega) (by omega) (by omega)]
        · rw [if_neg c, if_neg c]
theorem upP_eq {st : List Sta} (ha : Ahead st) (s : Int) : upP st s = if thS st s ∧ 0 ≤ (rdS st s).f1 then (rdS st s).f1 :: upP st (rdS st s).f1 else [] := by
  rw [show upP st s = if thS st s ∧ 0 ≤ (rdS st s).f1 then (rdS st s).f1 :: upF st s.toNat (rdS st s).f1 else [] from rfl]
  unfold upP
  by_cases c : thS st s ∧ 0 ≤ (rdS st s).f1
  · have := (ahead_at ha c.1).1
    have := c.2
    have := c.1.1
    rw [if_pos c, if_pos c, upF_two ha s.toNat _ s.toNat ((rdS st s).f1.toNat + 1) (by omega) (by omega) (by omega)]
  · rw [if_neg c, if_neg c]
theorem inC_low (st : List Sta) (s b : Int) (h : s ≤ b ∨ s ≤ 0 ∨ (st.length : Int) ≤ s) : inC st s b = false := by
  rw [inC_eq, if_neg (by omega)]
theorem up_in {st : List Sta} (ha : Ahead st) (b : Int) (n : Nat) : ∀ s : Int, s.toNat ≤ n → (upP st s).contains b = (decide (0 ≤ b) && inC st s b) := by
  have low : ∀ s : Int, ¬ (thS st s ∧ 0 ≤ (rdS st s).f1) → (upP st s).contains b = (decide (0 ≤ b) && inC st s b) := by
    intro s c
    rw [upP_eq ha, if_neg c, inC_low]
    · simp
    · by_cases h1 : 0 < s ∧ s < (st.length : Int)
      · exact absurd ⟨⟨by omega, h1.2⟩, (ahead_at ha ⟨by omega, h1.2⟩).2 h1.1⟩ c
      · omega
  induction n with
  | zero =>
    intro s hs
    by_cases c : thS st s ∧ 0 ≤ (rdS st s).f1
    · have := (ahead_at ha c.1).1
      have := c.2
      omega
    · exact low s c
  | succ n ih =>
    intro s hs
    by_cases c : thS st s ∧ 0 ≤ (rdS st s).f1
    · have h1 := (ahead_at ha c.1).1
      have h2 := c.2
      have h3 := c.1.2
      rw [upP_eq ha, if_pos c, List.contains_cons, ih _ (by omega), inC_eq st s b]
      by_cases hb : s > b
      · rw [if_pos ⟨hb, by omega, h3⟩, if_neg (by show ¬ ((rdS st s).f1 ≥ s); omega)]
        by_cases he : (rdS st s).f1 = b
        · rw [if_pos he]
          simp [he]
          omega
        · rw [if_neg he]
          have : (b == (rdS st s).f1) = false := by simp; omega
          rw [this, Bool.false_or]
      · rw [if_neg (by omega), inC_low _ _ _ (by omega)]
        have : (b == (rdS st s).f1) = false := by simp; omega
        rw [this]
        simp
    · exact low s c
theorem tin_eq {st : List Sta} (ha : Ahead st) (s b : Int) : (upP st s).contains b = (decide (0 ≤ b) && inC st s b) := up_in ha b s.toNat s (Nat.le_refl _)
theorem upF_len (st : List Sta) (f : Nat) : ∀ s : Int, (upF st f s).length ≤ f := by
  induction f with
  | zero => intro s; simp [upF]
  | succ f ih =>
    intro s
    simp only [upF]
    by_cases c : thS st s ∧ 0 ≤ (rdS st s).f1
    · rw [if_pos c, List.length_cons]; have := ih (rdS st s).f1; omega
    · rw [if_neg c]; simp
def TrM (w : World) (g : Nat) (v : Int) (st : List Sta) (tr : List Tra) : Prop :=
  ∃ A ca B cb, w.heap[g]? = some (.cells #[.int .i64 v, .slice A st.length ca, .slice B tr.length cb] 106 (0, 0)) ∧ ChM w A ca st B cb tr
theorem TrM.below {w w' : World} {g : Nat} {v : Int} {st : List Sta} {tr : List Tra} (h : TrM w g v st tr) (hb : Below w.heap.size w w') : TrM w' g v st tr := by
  obtain ⟨A, ca, B, cb, h1, h2⟩ := h
  exact ⟨A, ca, B, cb, (hb.block g (lt_of_block h1)).trans h1, h2.below hb⟩
section
variable {g : Nat} {v : Int} {st : List Sta} {tr : List Tra} {w : World}
set_option maxHeartbeats 4000000 in
theorem tthere_any (h : TrM w g v st tr) (s : Int) : Calls Tryz.prog 64 #[.pointer (some ⟨g, 0, none⟩), .int .i64 s] w fun e w' => e = .returned (.bool (decide (thS st s))) ∧ Below w.heap.size w w' := by
  obtain ⟨A, ca, B, cb, h1, h2⟩ := h
  have y1 : w.cell? ⟨g, 1, none⟩ = some (.slice A st.length ca) := blk_cell h1 1
  have y0 : w.cell? ⟨g, 0, none⟩ = some (.int .i64 v) := blk_cell h1 0
  clear h1 h2
  by_cases c : 0 ≤ s
  · have d1 : decide (s ≥ 0) = true := decide_eq_true c
    have d1' : decide (0 ≤ s) = true := decide_eq_true c
    by_cases c2 : s < (st.length : Int)
    · have d2 : decide (s < (st.length : Int)) = true := decide_eq_true c2
      have HR : Hid (decide (thS st s) = true) := Lib.hid (decide_eq_true ⟨c, c2⟩)
      clear c c2
      go_enter Tryz.func64, Tryz.ntmps64
      go_wp2_with fail
      go_ret
      exact ⟨by rw [HR.out]; rfl, Below.refl _ _⟩
    · have d2 : decide (s < (st.length : Int)) = false := decide_eq_false c2
      have HR : Hid (decide (thS st s) = false) := Lib.hid (decide_eq_false (fun h => c2 h.2))
      clear c c2
      go_enter Tryz.func64, Tryz.ntmps64
      go_wp2_with fail
      go_ret
      exact ⟨by rw [HR.out]; rfl, Below.refl _ _⟩
  · have d1 : decide (s ≥ 0) = false := decide_eq_false c
    have d1' : decide (0 ≤ s) = false := decide_eq_false c
    have HR : Hid (decide (thS st s) = false) := Lib.hid (decide_eq_false (fun h => c h.1))
    clear c
    go_enter Tryz.func64, Tryz.ntmps64
    go_wp2_with fail
    go_ret
    exact ⟨by rw [HR.out]; rfl, Below.refl _ _⟩
theorem trm_at (h : TrM w g v st tr) {s : Int} (hs : thS st s) : ∃ ad ca, w.cell? ⟨g, 0, none⟩ = some (.int .i64 v) ∧ w.cell? ⟨g, 1, none⟩ = some (.slice (some ad) st.length ca) ∧ w.cell? (ad.add (s.toNat * 5)) = some (.int .i64 (rdS st s).f0) ∧ w.cell? ⟨(ad.add (s.toNat * 5)).block, (ad.add (s.toNat * 5)).off + 1, none⟩ = some (.int .i64 (rdS st s).f1) := by
  obtain ⟨A, ca, B, cb, h1, h2⟩ := h
  obtain ⟨ad, A2, c2, A3, c3, A4, c4, rfl, q0, q1, _⟩ := PAll.at_T54 h2.cs s hs.1 hs.2
  exact ⟨ad, ca, blk_cell h1 0, blk_cell h1 1, q0, q1⟩
set_option maxHeartbeats 4000000 in
theorem tkind_any (h : TrM w g v st tr) (s : Int) : Calls Tryz.prog 31 #[.pointer (some ⟨g, 0, none⟩), .int .i64 s] w fun e w' => e = .returned (.int .i64 (kindP st s)) ∧ Below w.heap.size w w' := by
  have H := Lib.hid h
  by_cases c : thS st s
  · have HR : Hid (kindP st s = (rdS st s).f0) := Lib.hid (if_pos c)
    have HC := Lib.hid c
    have d1 : decide (thS st s) = true := decide_eq_true c
    have D1 := Lib.hid d1
    have p1 : (0 ≤ s) = True := eq_true c.1
    have p2 : (s < (st.length : Int)) = True := eq_true c.2
    clear h d1 c
    go_enter Tryz.func31, Tryz.ntmps31
    go_wp2_with fail
    refine (tthere_any H.out s).mono ?_
    rw [D1.out]
    rintro e w1 ⟨rfl, hb1⟩
    obtain ⟨ad, ca, y0, y1, q0, q1⟩ := trm_at (H.out.below hb1) HC.out
    have HB := Lib.hid hb1
    clear hb1
    go_wp2_with fail
    go_ret
    exact ⟨by rw [HR.out]; rfl, HB.out⟩
  · have HR : Hid (kindP st s = 0) := Lib.hid (if_neg c)
    have D1 : Hid (decide (thS st s) = false) := Lib.hid (decide_eq_false c)
    clear h c
    go_enter Tryz.func31, Tryz.ntmps31
    go_wp2_with fail
    refine (tthere_any H.out s).mono ?_
    rw [D1.out]
    rintro e w1 ⟨rfl, hb1⟩
    go_wp2_with fail
    go_ret
    exact ⟨by rw [HR.out]; rfl, hb1⟩
set_option maxHeartbeats 8000000 in
set_option maxRecDepth 100000 in
theorem tup_any (h : TrM w g v st tr) (ha : Ahead st) (hl : st.length ≤ 1000) (s : Int) : Calls Tryz.prog 57 #[.pointer (some ⟨g, 0, none⟩), .int .i64 s] w fun e w' => ∃ u : Value, e = .returned u ∧ InnR w' w.heap.size u (upP st s) ∧ Below w.heap.size w w' := by
  have H := Lib.hid h
  have HA := Lib.hid ha
  have hend : ∀ (q : Int), ¬ (thS st q ∧ 0 ≤ (rdS st q).f1) → upP st q = [] := fun q c => by rw [upP_eq ha, if_neg c]
  have HE := Lib.hid hend
  clear h ha hend
  go_enter Tryz.func57, Tryz.ntmps57
  go_wp2_with fail
  go_loopw [1, 5] (fun x u wr => ∃ (q : Int) (acc : List Int), x = .int .i64 q ∧ Hid (upP st s = acc ++ upP st q) ∧ Hid (InnR wr w.heap.size u acc) ∧ Hid (Below w.heap.size w wr) ∧ Hid (acc = [] ∨ acc.length + q.toNat ≤ st.length)) (fun x _ _ => (intOf x).toNat)
  case atStart => exact ⟨s, [], rfl, Lib.hid (by simp), Lib.hid (Kd.R_nil _ _ _ _ _), Lib.hid (Below.refl _ _), Lib.hid (.inl rfl)⟩
  case round =>
    obtain ⟨q, acc, rfl, HU, HO, HB, HL⟩ := hrel
    by_cases c : thS st q
    · have D1 : Hid (decide (thS st q) = true) := Lib.hid (decide_eq_true c)
      have HC := Lib.hid c
      have p1 : (0 ≤ q) = True := eq_true c.1
      have p2 : (q < (st.length : Int)) = True := eq_true c.2
      have hac : acc.length ≤ st.length := by rcases HL.out with h | h; · rw [h]; simp
                                              · omega
      by_cases c2 : 0 ≤ (rdS st q).f1
      · have d2 : decide ((rdS st q).f1 ≥ 0) = true := decide_eq_true c2
        have d2' : decide (0 ≤ (rdS st q).f1) = true := decide_eq_true c2
        have hlt := (ahead_at HA.out c).1
        have HU2 : Hid (upP st s = (acc ++ [(rdS st q).f1]) ++ upP st (rdS st q).f1) := Lib.hid (by rw [HU.out, upP_eq HA.out q, if_pos ⟨c, c2⟩]; simp)
        have HL2 : Hid (acc ++ [(rdS st q).f1] = [] ∨ (acc ++ [(rdS st q).f1]).length + (rdS st q).f1.toNat ≤ st.length) := Lib.hid (by
          right
          rw [List.length_append, List.length_singleton]
          have := c.1
          have := c.2
          rcases HL.out with h | h
          · rw [h, List.length_nil]; omega
          · omega)
        have HLt := Lib.hid (show (rdS st q).f1.toNat < q.toNat by have := c.1; omega)
        clear c c2 hlt
        go_wp2_with fail
        refine (tthere_any (H.out.below HB.out) q).mono ?_
        rw [D1.out]
        rintro e w1 ⟨rfl, hb1⟩
        have HB1 := Lib.hid (below_then HB.out HB.out.size hb1)
        have HO1 := Lib.hid (Kd.R_below HO.out hb1)
        obtain ⟨ad, ca, y0, y1, q0, q1⟩ := trm_at (H.out.below HB1.out) HC.out
        clear hb1 HB HO
        have hac2 : acc.length < 1000000 := by omega
        have hsz := HB1.out.size
        go_wp2_with (at_builtin; refine inn_append rfl (.tmp 30) (.tmp 32) rfl w.heap.size _ acc (rdS st q).f1 rfl _ rfl rfl HO1.out hsz hac2 ?_)
        intro v1 w2 h1 h2 h3
        have HB2 := Lib.hid (HB1.out.trans h2)
        have HO2 := Lib.hid h1
        go_wp2_with fail
        go_roundw
        case rel => exact ⟨(rdS st q).f1, _, rfl, HU2, HO2, HB2, HL2⟩
        case measure => have := HLt.out; simp [intOf]; omega
      · have d2 : decide ((rdS st q).f1 ≥ 0) = false := decide_eq_false c2
        have d2' : decide (0 ≤ (rdS st q).f1) = false := decide_eq_false c2
        have HR : Hid (upP st s = acc) := Lib.hid (by rw [HU.out, HE.out q (fun h => c2 h.2)]; simp)
        clear c c2
        go_wp2_with fail
        refine (tthere_any (H.out.below HB.out) q).mono ?_
        rw [D1.out]
        rintro e w1 ⟨rfl, hb1⟩
        have HB1 := Lib.hid (below_then HB.out HB.out.size hb1)
        have HO1 := Lib.hid (Kd.R_below HO.out hb1)
        obtain ⟨ad, ca, y0, y1, q0, q1⟩ := trm_at (H.out.below HB1.out) HC.out
        clear hb1 HB HO
        go_wp2_with fail
        go_ret
        exact ⟨_, rfl, by rw [HR.out]; exact HO1.out, HB1.out⟩
    · have D1 : Hid (decide (thS st q) = false) := Lib.hid (decide_eq_false c)
      have HR : Hid (upP st s = acc) := Lib.hid (by rw [HU.out, HE.out q (fun h => c h.1)]; simp)
      clear c
      go_wp2_with fail
      refine (tthere_any (H.out.below HB.out) q).mono ?_
      rw [D1.out]
      rintro e w1 ⟨rfl, hb1⟩
      have HB1 := Lib.hid (below_then HB.out HB.out.size hb1)
      have HO1 := Lib.hid (Kd.R_below HO.out hb1)
      clear hb1 HB HO
      go_wp2_with fail
      go_ret
      exact ⟨_, rfl, by rw [HR.out]; exact HO1.out, HB1.out⟩
end
end Go.Proofs.YtemoonhnncopoaaGreatDoor
end
section
set_option linter.unusedVariables false
set_option linter.unusedSimpArgs false
namespace Go.Proofs.YtemoonhnncopoaaGreatDoor
open Go.RowKit Go.Proofs.YtemoonhnncopoaaGreatDoorW.PrintWords
open PX (T V)
theorem idx_ev (l : List Int) (a : Int) (hl : l.length ≤ 1000000) (d : Nat) : ∀ i : Nat, i ≤ l.length → l.length - i = d → ∃ r : Int, Ev (fun k => PAll.slices_Index_int_int.l0 k l a (l.length : Int) i) r ∧ decide (r ≥ 0) = (l.drop i).contains a := by
  induction d with
  | zero =>
    intro i hi hd
    obtain rfl : i = l.length := by omega
    refine ⟨-1, Ev.step (fun k => rfl) ?_, by rw [List.drop_length]; rfl⟩
    simp only [PAll.slices_Index_int_int.l0]
    exact ev_neg (by omega) (Ev.now _)
  | succ d ih =>
    intro i hi hd
    have hlt : i < l.length := by omega
    have hr : rd l (i : Int) = l[i] := by simp [rd, List.getD_eq_getElem?_getD, List.getElem?_eq_getElem hlt]
    rw [List.drop_eq_getElem_cons hlt, List.contains_cons]
    by_cases he : a = l[i]
    · refine ⟨(i : Int), Ev.step (fun k => rfl) ?_, ?_⟩
      · simp only [PAll.slices_Index_int_int.l0]
        refine ev_pos (by omega) (ev_pos (by omega) (ev_pos (by omega) ?_))
        rw [hr]
        exact ev_pos he (Ev.now _)
      · rw [show (a == l[i]) = true by simp [he], Bool.true_or]; exact decide_eq_true (by omega)
    · obtain ⟨r, h1, h2⟩ := ih (i + 1) (by omega) (by omega)
      refine ⟨r, Ev.step (fun k => rfl) ?_, ?_⟩
      · simp only [PAll.slices_Index_int_int.l0]
        refine ev_pos (by omega) (ev_pos (by omega) (ev_pos (by omega) ?_))
        rw [hr]
        refine ev_neg he ?_
        rw [w64 (by omega) (by omega)]
        exact h1
      · rw [h2, show (a == l[i]) = false by simp [he], Bool.false_or]
theorem has_ev (l : List Int) (a : Int) (hl : l.length ≤ 1000000) : Ev (fun k => PAll.slices_Contains_int_int.f k l a) (l.contains a) := by
  obtain ⟨r, h1, h2⟩ := idx_ev l a hl l.length 0 (by omega) (by omega)
  rw [List.drop_zero] at h2
  rw [← h2]
  exact Ev.bind h1 (Ev.now _)
theorem drawn_below {w w' : World} (h : Drawn0 w w') : Below w.heap.size w w' := by
  obtain ⟨n, rfl⟩ := h
  exact below_drewN' (Below.refl _ _) n
section
variable {g : Nat} {v : Int} {st : List Sta} {tr : List Tra} {w : World}
theorem thas_any (A : Option Addr) (c : Nat) (l : List Int) (a : Int) (hl : l.length ≤ 1000000) (hc : l.length ≤ c) (hC : (Kd.int .i64).C w A l.length l) :
    Calls Tryz.prog 61 #[.slice A l.length c, .int .i64 a] w fun e w' => e = .returned (.bool (l.contains a)) ∧ Below w.heap.size w w' := by
  obtain ⟨k, hk⟩ := Ev.rounds (has_ev l a hl)
  refine (PAll.slices_Contains_int_int.calls k A c l a _ w hC hc hk).mono ?_
  rintro e w' ⟨rfl, hb⟩
  exact ⟨rfl, drawn_below hb⟩
set_option maxHeartbeats 4000000 in
theorem tin_any (h : TrM w g v st tr) (ha : Ahead st) (hl : st.length ≤ 1000) (a b : Int) : Calls Tryz.prog 29 #[.pointer (some ⟨g, 0, none⟩), .int .i64 a, .int .i64 b] w fun e w' => e = .returned (.bool (decide (0 ≤ b) && inC st a b)) ∧ Below w.heap.size w w' := by
  have H := Lib.hid h
  have HR : Hid ((upP st a).contains b = (decide (0 ≤ b) && inC st a b)) := Lib.hid (tin_eq ha a b)
  have HA := Lib.hid ha
  have hlen : (upP st a).length ≤ 1000000 := by
    by_cases c : thS st a
    · have := upF_len st (a.toNat + 1) a
      have := c.1
      have := c.2
      unfold upP; omega
    · rw [upP_eq ha, if_neg (fun h => c h.1)]; simp
  clear h ha
  go_enter Tryz.func29, Tryz.ntmps29
  go_wp2_with fail
  refine (tup_any H.out HA.out hl a).mono ?_
  rintro e w1 ⟨u, rfl, hu, hb1⟩
  obtain ⟨A, cap, rfl⟩ := Kd.R_slice hu
  obtain ⟨_, hcap, hC⟩ := Kd.R_reads' hu
  have HC := Lib.hid hC
  have HB1 := Lib.hid hb1
  clear hu hC hb1
  go_wp2_with fail
  refine (thas_any A cap (upP st a) b hlen hcap HC.out).mono ?_
  rintro e w2 ⟨rfl, hb2⟩
  go_wp2_with fail
  go_ret
  exact ⟨by rw [← HR.out]; simp, below_then HB1.out HB1.out.size hb2⟩
end
def setN (st : List Sta) (p : Int → Bool) : Nat → Nat
  | 0 => 0
  | n + 1 => setN st p n + if (rdS st (n : Int)).f0 < 5 ∧ p (n : Int) = true then 2 ^ n else 0
theorem setN_lt (st : List Sta) (p : Int → Bool) (n : Nat) : setN st p n < 2 ^ n := by
  induction n with
  | zero => simp [setN]
  | succ n ih =>
    simp only [setN]
    rw [Nat.pow_succ]
    split <;> omega
theorem or_new {x q : Nat} (h : x < 2 ^ q) (hq : q < 32) : bits .or .u32 (x : Int) (2 ^ q % 4294967296) = ((x + 2 ^ q : Nat) : Int) := by
  have h2 : 2 ^ q < 4294967296 := Nat.lt_of_lt_of_le (Nat.pow_lt_pow_right (by omega) hq) (by decide)
  have h3 : ((2 : Int) ^ q % 4294967296) = ((2 ^ q : Nat) : Int) := by
    have : ((2 : Int) ^ q) = ((2 ^ q : Nat) : Int) := by simp
    rw [this]
    omega
  rw [h3, u32_or_nat x (2 ^ q) (by omega) h2, Nat.or_comm]
  have := Nat.two_pow_add_eq_or_of_lt h 1
  rw [Nat.mul_one] at this
  rw [← this, Nat.add_comm]
def Asks (F : Nat) (g1 g2 : Nat) (w : World) (n : Nat) (p : Int → Bool) : Prop :=
  ∀ wr, Below w.heap.size w wr → ∀ s : Nat, s < n → Calls Tryz.prog F #[.int .i64 (s : Int), .pointer (some ⟨g1, 0, none⟩), .pointer (some ⟨g2, 0, none⟩)] wr fun e w' => e = .returned (.bool (p (s : Int))) ∧ Below wr.heap.size wr w'
section
variable {g : Nat} {v : Int} {st : List Sta} {tr : List Tra} {w : World}
set_option maxHeartbeats 16000000 in
set_option maxRecDepth 100000 in
theorem tset_any (h : TrM w g v st tr) (hl : st.length ≤ 24) (F g1 g2 : Nat) (hrun : ∀ args w, (callFunc F args).run Tryz.prog w = .ok (.enter F args) w) (p : Int → Bool) (hp : Asks F g1 g2 w st.length p) :
    Calls Tryz.prog 65 #[.pointer (some ⟨g, 0, none⟩), .func (.func F) #[] #[.pointer (some ⟨g1, 0, none⟩), .pointer (some ⟨g2, 0, none⟩)]] w fun e w' => e = .returned (.int .u32 (setN st p st.length : Nat)) ∧ Below w.heap.size w w' := by
  have HP := Lib.hid hp
  obtain ⟨A, ca, B, cb, h1, h2⟩ := h
  have y1 : w.cell? ⟨g, 1, none⟩ = some (.slice A st.length ca) := blk_cell h1 1
  have HCs := Lib.hid h2.cs
  clear hp h1 h2
  go_enter Tryz.func65, Tryz.ntmps65
  go_wp2_with fail
  go_loopw [5, 14] (fun o x wr => ∃ q : Nat, x = .int .i64 q ∧ q ≤ st.length ∧ o = .int .u32 (setN st p q : Nat) ∧ Hid (Below w.heap.size w wr)) (fun _ x _ => st.length - (intOf x).toNat)
  case atStart => exact ⟨0, rfl, Nat.zero_le _, rfl, Lib.hid (Below.refl _ _)⟩
  case round =>
    obtain ⟨q, rfl, hq, rfl, HB⟩ := hrel
    by_cases hlt : q < st.length
    · have p1 : ((q : Int) < (st.length : Int)) = True := eq_true (by omega)
      obtain ⟨ad, A2, c2, A3, c3, A4, c4, rfl, q0, q1, q2, q3, q4, _⟩ := PAll.at_T54 (Kd.C_below HCs.out HB.out) (q : Int) (by omega) (by omega)
      rw [Int.toNat_natCast] at q0 q1 q2 q3 q4
      have HAl := Lib.hid ((HB.out.alloc HB.out.size (.cells #[.int .i64 (PAll.rd_T54 st q).f0, .int .i64 (PAll.rd_T54 st q).f1, .slice A2 (PAll.rd_T54 st q).f2.length c2, .slice A3 (PAll.rd_T54 st q).f3.length c3, .slice A4 (PAll.rd_T54 st q).f4.length c4] 54)))
      by_cases hk : (PAll.rd_T54 st q).f0 < 5
      · have d1 : decide ((PAll.rd_T54 st q).f0 < 5) = true := decide_eq_true hk
        go_wp2_with fail
        refine (HP.out _ HAl.out q hlt).mono ?_
        cases hpq : p (q : Int) with
        | true =>
          have HS : Hid (setN st p (q + 1) = setN st p q + 2 ^ q) := Lib.hid (by simp only [setN]; rw [if_pos ⟨hk, hpq⟩])
          have HLt := Lib.hid (setN_lt st p q)
          have hq24 : q < 32 := by omega
          clear hpq
          rintro e w2 ⟨rfl, hb2⟩
          have HB2 := Lib.hid (below_then HAl.out HAl.out.size hb2)
          clear hb2
          go_wp2_with fail
          go_roundw
          case rel => exact ⟨q + 1, by go_num, by omega, by rw [HS.out, or_new HLt.out hq24], HB2⟩
          case measure => simp [intOf]; omega
        | false =>
          have HS : Hid (setN st p (q + 1) = setN st p q) := Lib.hid (by simp only [setN]; rw [if_neg (fun h => by rw [hpq] at h; cases h.2)]; rfl)
          clear hpq
          rintro e w2 ⟨rfl, hb2⟩
          have HB2 := Lib.hid (below_then HAl.out HAl.out.size hb2)
          clear hb2
          go_wp2_with fail
          go_roundw
          case rel => exact ⟨q + 1, by go_num, by omega, by rw [HS.out], HB2⟩
          case measure => simp [intOf]; omega
      · have d1 : decide ((PAll.rd_T54 st q).f0 < 5) = false := decide_eq_false hk
        have HS : Hid (setN st p (q + 1) = setN st p q) := Lib.hid (by simp only [setN]; rw [if_neg (fun h => hk h.1)]; rfl)
        go_wp2_with fail
        go_roundw
        case rel => exact ⟨q + 1, by go_num, by omega, by rw [HS.out], HAl⟩
        case measure => simp [intOf]; omega
    · obtain rfl : q = st.length := by omega
      have p1 : ((st.length : Int) < (st.length : Int)) = False := eq_false (by omega)
      go_wp2_with fail
      go_ret
      exact ⟨rfl, HB.out⟩
end
end Go.Proofs.YtemoonhnncopoaaGreatDoor
end
section
set_option linter.unusedVariables false
set_option linter.unusedSimpArgs false
namespace Go.Proofs.YtemoonhnncopoaaGreatDoor
open Go.RowKit Go.Proofs.YtemoonhnncopoaaGreatDoorW.PrintWords Go.Proofs.YtemoonhnncopoaaGreatDoorW.PrintLast
open PX (T V)
abbrev inP (st : List Sta) (a b : Int) : Bool := decide (0 ≤ b) && inC st a b
section
variable {g : Nat} {v : Int} {st : List Sta} {tr : List Tra} {w : World}
set_option maxHeartbeats 4000000 in
theorem belfn_any (h : TrM w g v st tr) (ha : Ahead st) (hl : st.length ≤ 1000) (g1 g2 : Nat) (s x : Int) (h1 : w.heap[g1]? = some (.cells #[.pointer (some ⟨g, 0, none⟩)] 49 (0, 0))) (h2 : w.heap[g2]? = some (.cells #[.int .i64 s] 3 (0, 0))) :
    Calls Tryz.prog 66 #[.int .i64 x, .pointer (some ⟨g1, 0, none⟩), .pointer (some ⟨g2, 0, none⟩)] w fun e w' => e = .returned (.bool (inP st x s)) ∧ Below w.heap.size w w' := by
  have H := Lib.hid h
  have HA := Lib.hid ha
  have y1 : w.cell? ⟨g1, 0, none⟩ = some (.pointer (some ⟨g, 0, none⟩)) := blk_cell h1 0
  have y2 : w.cell? ⟨g2, 0, none⟩ = some (.int .i64 s) := blk_cell h2 0
  clear h ha h1 h2
  go_enter Tryz.func66, Tryz.ntmps66
  go_wp2_with fail
  refine (tin_any H.out HA.out hl x s).mono ?_
  rintro e w1 ⟨rfl, hb1⟩
  go_wp2_with fail
  go_ret
  exact ⟨rfl, hb1⟩
def belP (st : List Sta) (s : Int) : Nat := setN st (fun x => inP st x s) st.length
set_option maxHeartbeats 8000000 in
set_option maxRecDepth 100000 in
theorem tbel_any (h : TrM w g v st tr) (ha : Ahead st) (hl : st.length ≤ 24) (s : Int) :
    Calls Tryz.prog 34 #[.pointer (some ⟨g, 0, none⟩), .int .i64 s] w fun e w' => e = .returned (.int .u32 (belP st s : Nat)) ∧ Below w.heap.size w w' := by
  have hmf : ∀ (fn : Fn) (first cap : Array Value) (w : World), (Instr.makeFunc fn first cap).run Tryz.prog w = .ok (.func fn first cap) w := fun _ _ _ _ => rfl
  have hrun : ∀ args w, (callFunc 66 args).run Tryz.prog w = .ok (.enter 66 args) w := fun _ _ => rfl
  have hb0 : Below w.heap.size w ((w.alloc (.cells #[.pointer (some ⟨g, 0, none⟩)] 49)).alloc (.cells #[.int .i64 s] 3)) := ((Below.refl _ w).alloc (Nat.le_refl _) _).alloc (by simp) _
  have HB0 := Lib.hid hb0
  obtain ⟨hk1, hk2, hlt0, hsz⟩ := boxed2 (Below.refl _ ((w.alloc (.cells #[.pointer (some ⟨g, 0, none⟩)] 49)).alloc (.cells #[.int .i64 s] 3)))
  have HK1 := Lib.hid hk1
  have HK2 := Lib.hid hk2
  have y1 : ((w.alloc (.cells #[.pointer (some ⟨g, 0, none⟩)] 49)).alloc (.cells #[.int .i64 s] 3)).cell? ⟨w.heap.size, 0, none⟩ = some (.pointer (some ⟨g, 0, none⟩)) := blk_cell hk1 0
  have H := Lib.hid (h.below hb0)
  have HA := Lib.hid ha
  clear h ha hb0 hk1 hk2
  go_enter Tryz.func34, Tryz.ntmps34
  go_wp2_with fail
  generalize (w.alloc (.cells #[.pointer (some ⟨g, 0, none⟩)] 49)).alloc (.cells #[.int .i64 s] 3) = w0 at HB0 HK1 HK2 y1 H hlt0 ⊢
  have HAs : Hid (Asks 66 w.heap.size (w.heap.size + 1) w0 st.length (fun x => inP st x s)) := Lib.hid (fun wr hb x hx => belfn_any (H.out.below hb) HA.out (by omega) w.heap.size (w.heap.size + 1) s x ((hb.block _ (lt_of_block HK1.out)).trans HK1.out) ((hb.block _ (lt_of_block HK2.out)).trans HK2.out))
  go_wp2_with fail
  refine (tset_any H.out hl 66 w.heap.size (w.heap.size + 1) hrun _ HAs.out).mono ?_
  rintro e w1 ⟨rfl, hb1⟩
  go_wp2_with fail
  go_ret
  exact ⟨rfl, below_then HB0.out HB0.out.size hb1⟩
end
end Go.Proofs.YtemoonhnncopoaaGreatDoor
end
section
set_option linter.unusedVariables false
set_option linter.unusedSimpArgs false
namespace Go.Proofs.YtemoonhnncopoaaGreatDoor
open Go.RowKit Go.Proofs.YtemoonhnncopoaaGreatDoorW.PrintWords
open PX (T V)
theorem few_s {st : List Sta} {tr : List Tra} (h : fewP st tr = true) : (∀ x ∈ st, x.f2.length ≤ 1000 ∧ x.f3.length ≤ 1000 ∧ x.f4.length ≤ 1000) ∧ ∀ x ∈ tr, x.f3.length ≤ 1000 ∧ x.f5.length ≤ 1000 := by
  simp only [fewP, Bool.and_eq_true, decide_eq_true_eq, List.all_eq_true] at h
  obtain ⟨⟨⟨h1, h2⟩, h3⟩, h4⟩ := h
  refine ⟨fun x hx => ?_, fun x hx => ?_⟩
  · have := h3 x hx
    simp only [fewS, fewAP, Bool.and_eq_true, decide_eq_true_eq, List.all_eq_true] at this
    omega
  · have := h4 x hx
    simp only [fewT, fewAP, Bool.and_eq_true, decide_eq_true_eq, List.all_eq_true] at this
    omega
theorem erV_low {B B' : Nat} {w : World} {v : Value} {e : Er} (h : ErV B w v e) (hB : B' ≤ B) : ErV B' w v e := by
  cases e with
  | none => exact h
  | code c => exact h
  | spot a c => obtain ⟨g, h1, h2, h3⟩ := h; exact ⟨g, h1, by omega, h3⟩
theorem good_ahead {v : Int} {st : List Sta} {tr : List Tra} (h : chkP v st tr = .none) : Ahead st := by
  obtain ⟨_, h2, _⟩ := chk_none h
  exact ahead_of h2
set_option maxHeartbeats 8000000 in
set_option maxRecDepth 100000 in
theorem tnew_any (v : Int) (A B : Option Addr) (ca cb : Nat) (st : List Sta) (tr : List Tra) (hF : fewP st tr = true) (w : World) (hw : Laid w) (hM : ChM w A ca st B cb tr) :
    Calls Tryz.prog 26 #[ckV v A B st.length tr.length ca cb] w fun e w' => (∃ p ev, e = .returned (.tuple #[p, ev]) ∧ ((chkP v st tr = .none ∧ ∃ g, p = .pointer (some ⟨g, 0, none⟩) ∧ ev = .nilIface ∧ w.heap.size ≤ g ∧ TrM w' g v st tr) ∨ (chkP v st tr ≠ .none ∧ p = .pointer none ∧ ErV w.heap.size w' ev (chkP v st tr)))) ∧ Below w.heap.size w w' := by
  have k6 := eqErr
  have hb0 : Below w.heap.size w (w.alloc (.cells #[.int .i64 v, .slice A st.length ca, .slice B tr.length cb] 47)) := (Below.refl _ w).alloc (Nat.le_refl _) _
  have HB0 := Lib.hid hb0
  have HW := Lib.hid (hw.below hb0)
  have HM := Lib.hid (hM.below hb0)
  have HG := Lib.hid (blk_new w (.cells #[.int .i64 v, .slice A st.length ca, .slice B tr.length cb] 47))
  obtain ⟨hfc, hl1, hl2⟩ := few_of hF
  obtain ⟨hS, hT⟩ := few_s hF
  have HFC := Lib.hid hfc
  have HSl := Lib.hid hS
  have HTl := Lib.hid hT
  clear hb0 hw hM hfc hS hT
  go_enter Tryz.func26, Tryz.ntmps26
  go_wp2_with fail
  generalize w.alloc (.cells #[.int .i64 v, .slice A st.length ca, .slice B tr.length cb] 47) = w0 at HB0 HW HM HG ⊢
  have hk := HG.out
  obtain ⟨y0, y1, y2⟩ : w0.cell? ⟨w.heap.size, 0, none⟩ = some (.int .i64 v) ∧ w0.cell? ⟨w.heap.size, 1, none⟩ = some (.slice A st.length ca) ∧ w0.cell? ⟨w.heap.size, 2, none⟩ = some (.slice B tr.length cb) := ⟨blk_cell hk 0, blk_cell hk 1, blk_cell hk 2⟩
  clear hk
  go_wp2_with fail
  refine (check_any v A B ca cb st tr HFC.out _ HW.out HM.out).mono ?_
  rintro e w1 ⟨ev, rfl, hev, hb1⟩
  have HB1 := Lib.hid (below_then HB0.out HB0.out.size hb1)
  by_cases he : chkP v st tr = .none
  · obtain rfl := er_nil hev he
    have HE := Lib.hid he
    have hk := (hb1.block _ (lt_of_block HG.out)).trans HG.out
    clear y0 y1 y2
    obtain ⟨y0, y1, y2⟩ : w1.cell? ⟨w.heap.size, 0, none⟩ = some (.int .i64 v) ∧ w1.cell? ⟨w.heap.size, 1, none⟩ = some (.slice A st.length ca) ∧ w1.cell? ⟨w.heap.size, 2, none⟩ = some (.slice B tr.length cb) := ⟨blk_cell hk 0, blk_cell hk 1, blk_cell hk 2⟩
    have HM1 := Lib.hid (HM.out.below hb1)
    clear he hev hk hb1
    go_wp2_with fail
    refine (copied_any v A B ca cb st tr (by have := (chk_none HE.out).1; omega) (by omega) (by omega) HSl.out HTl.out _ HM1.out).mono ?_
    rintro e w2 ⟨A', ca', B', cb', rfl, hM2, hb2⟩
    have HB2 := Lib.hid (below_then HB1.out HB1.out.size hb2)
    have hal : Below w2.heap.size w2 (w2.alloc (.cells #[.int .i64 v, .slice A' st.length ca', .slice B' tr.length cb'] 106)) := (Below.refl _ w2).alloc (Nat.le_refl _) _
    have HTr := Lib.hid (show TrM (w2.alloc (.cells #[.int .i64 v, .slice A' st.length ca', .slice B' tr.length cb'] 106)) w2.heap.size v st tr from ⟨A', ca', B', cb', blk_new w2 _, hM2.below hal⟩)
    have HB3 := Lib.hid (below_then HB2.out HB2.out.size hal)
    clear hM2 hal hb2
    go_wp2_with fail
    go_ret2
    exact ⟨⟨_, _, rfl, .inl ⟨HE.out, _, rfl, rfl, HB2.out.size, HTr.out⟩⟩, HB3.out⟩
  · have HE := Lib.hid he
    have HEv := Lib.hid (erV_low hev HB0.out.size)
    rcases er_some hev he with ⟨c, rfl⟩ | ⟨c, rfl⟩
    all_goals
      clear he hev
      go_wp2_with fail
      go_ret2
      exact ⟨⟨_, _, rfl, .inr ⟨HE.out, rfl, HEv.out⟩⟩, HB1.out⟩
set_option maxHeartbeats 8000000 in
set_option maxRecDepth 100000 in
theorem least7_any (w : World) : Calls Tryz.prog 56 #[] w fun e w' => ∃ A, e = .returned (ckV 0 A none 2 0 2 0) ∧ ChM w' A 2 least2 none 0 [] ∧ Below w.heap.size w w' := by
  go_enter Tryz.func56, Tryz.ntmps56
  go_wp2_with fail
  have e1 : (w.alloc (.cells #[.int .i64 0, .slice (some ⟨w.heap.size + 1 + 1, 0, none⟩) 2 2, .slice none 0 0] 47)).heap.size = w.heap.size + 1 := by simp
  have k1 := blk_new w (.cells #[.int .i64 0, .slice (some ⟨w.heap.size + 1 + 1, 0, none⟩) 2 2, .slice none 0 0] 47)
  have b1 : Below w.heap.size w (w.alloc (.cells #[.int .i64 0, .slice (some ⟨w.heap.size + 1 + 1, 0, none⟩) 2 2, .slice none 0 0] 47)) := (Below.refl _ w).alloc (Nat.le_refl _) _
  generalize w.alloc (.cells #[.int .i64 0, .slice (some ⟨w.heap.size + 1 + 1, 0, none⟩) 2 2, .slice none 0 0] 47) = w1 at e1 k1 b1 ⊢
  have e2 : (w1.alloc (.cells #[.int .i64 1] 3)).heap.size = w.heap.size + 1 + 1 := by simp [e1]
  have k2 := blk_new w1 (.cells #[.int .i64 1] 3)
  have b2 : Below w1.heap.size w1 (w1.alloc (.cells #[.int .i64 1] 3)) := (Below.refl _ w1).alloc (Nat.le_refl _) _
  rw [e1] at k2
  generalize w1.alloc (.cells #[.int .i64 1] 3) = w2 at e2 k2 b2 ⊢
  have k3 := blk_new w2 (.cells #[.int .i64 2, .int .i64 (-1), .slice (some ⟨w.heap.size + 1, 0, none⟩) 1 1, .slice none 0 0, .slice none 0 0, .int .i64 1, .int .i64 0, .slice none 0 0, .slice none 0 0, .slice none 0 0] 54)
  have b3 : Below w2.heap.size w2 (w2.alloc (.cells #[.int .i64 2, .int .i64 (-1), .slice (some ⟨w.heap.size + 1, 0, none⟩) 1 1, .slice none 0 0, .slice none 0 0, .int .i64 1, .int .i64 0, .slice none 0 0, .slice none 0 0, .slice none 0 0] 54)) := (Below.refl _ w2).alloc (Nat.le_refl _) _
  rw [e2] at k3
  generalize w2.alloc (.cells #[.int .i64 2, .int .i64 (-1), .slice (some ⟨w.heap.size + 1, 0, none⟩) 1 1, .slice none 0 0, .slice none 0 0, .int .i64 1, .int .i64 0, .slice none 0 0, .slice none 0 0, .slice none 0 0] 54) = w3 at k3 b3 ⊢
  have c1 := (b3.block _ (by omega)).trans ((b2.block _ (by omega)).trans k1)
  have c2 := (b3.block _ (by omega)).trans k2
  refine bodyPost_ret (results_cell_row rfl _ _ w.heap.size 47 _ (0, 0) _ rfl c1 Tryz.underlying47 rfl (by kernel_rfl)) rfl ?_
  exact ⟨some ⟨w.heap.size + 1 + 1, 0, none⟩, rfl, ⟨states2 (i0 := [1]) k3 (by simp) (one_new c2), Nat.le_refl _, nilC _ _, Nat.le_refl _⟩, below_then (below_then b1 (by omega) b2) (by omega) b3⟩
theorem few7 : fewP least2 [] = true := by decide
theorem kind7 : kindP least2 1 = 1 := by decide
theorem up70 : upP least2 0 = [] := by decide
theorem in710 : (decide ((0 : Int) ≤ 0) && inC least2 1 0) = true := by decide
theorem bel70 : belP least2 0 = 2 := by decide
set_option maxHeartbeats 8000000 in
set_option maxRecDepth 100000 in
theorem up07 (w : World) (hw : Laid w) : Calls Tryz.prog 24 #[] w fun e w' => e = .returned (.bool true) ∧ Below w.heap.size w w' := by
  have k6 := eqErr
  have HW := Lib.hid hw
  have HA : Hid (Ahead least2) := Lib.hid (good_ahead chk2)
  clear hw
  go_enter Tryz.func24, Tryz.ntmps24
  go_wp2_with fail
  refine (least7_any w).mono ?_
  rintro e w1 ⟨A, rfl, hM, hb1⟩
  have HM := Lib.hid hM
  have HB1 := Lib.hid hb1
  clear hM hb1
  go_wp2_with fail
  refine (tnew_any 0 A none 2 0 least2 [] few7 _ (HW.out.below HB1.out) HM.out).mono ?_
  rintro e w2 ⟨⟨p, ev, rfl, h⟩, hb2⟩
  rcases h with ⟨_, g, rfl, rfl, hg, hT⟩ | ⟨h, _⟩
  rotate_left
  · exact absurd chk2 h
  have HT := Lib.hid hT
  have HB2 := Lib.hid (below_then HB1.out HB1.out.size hb2)
  clear hT hb2
  go_wp2_with fail
  refine (tnew_any 0 none none 0 0 [] [] rfl _ (HW.out.below HB2.out) ⟨nilC _ _, Nat.le_refl _, nilC _ _, Nat.le_refl _⟩).mono ?_
  rw [chk0]
  rintro e w3 ⟨⟨p, ev, rfl, h⟩, hb3⟩
  rcases h with ⟨h, _⟩ | ⟨_, rfl, hev⟩
  · cases h
  obtain rfl : ev = .iface 93 (.int .i64 3) := hev
  have HT3 := Lib.hid (HT.out.below hb3)
  have HB3 := Lib.hid (below_then HB2.out HB2.out.size hb3)
  clear hb3
  go_wp2_with fail
  refine (tup_any HT3.out HA.out (by decide) 0).mono ?_
  rw [up70]
  rintro e w4 ⟨u, rfl, hu, hb4⟩
  obtain ⟨Bu, cap, rfl⟩ := Kd.R_slice hu
  have HT4 := Lib.hid (HT3.out.below hb4)
  have HB4 := Lib.hid (below_then HB3.out HB3.out.size hb4)
  clear hb4 hu
  go_wp2_with fail
  refine (tin_any HT4.out HA.out (by decide) 1 0).mono ?_
  rw [in710]
  rintro e w5 ⟨rfl, hb5⟩
  have HT5 := Lib.hid (HT4.out.below hb5)
  have HB5 := Lib.hid (below_then HB4.out HB4.out.size hb5)
  clear hb5
  go_wp2_with fail
  refine (tbel_any HT5.out HA.out (by decide) 0).mono ?_
  rw [bel70]
  rintro e w6 ⟨rfl, hb6⟩
  have HT6 := Lib.hid (HT5.out.below hb6)
  have HB6 := Lib.hid (below_then HB5.out HB5.out.size hb6)
  clear hb6
  go_wp2_with fail
  refine (tkind_any HT6.out 1).mono ?_
  rw [kind7]
  rintro e w7 ⟨rfl, hb7⟩
  go_wp2_with fail
  go_ret
  exact ⟨rfl, below_then HB6.out HB6.out.size hb7⟩
end Go.Proofs.YtemoonhnncopoaaGreatDoor
end
section
set_option linter.unusedVariables false
set_option linter.unusedSimpArgs false
namespace Go.Proofs.YtemoonhnncopoaaGreatDoor
open Go.RowKit Go.Proofs.YtemoonhnncopoaaGreatDoorW.PrintWords
open PX (T V)
theorem eints_l0 (l : List Int) (hl : l.length ≤ 1000000) (d : Nat) : ∀ a : Nat, a ≤ l.length → l.length - a = d → Ev (fun k => PAll.spinetref05_Ints.l0 k l l a) true := by
  induction d with
  | zero =>
    intro a ha hd
    obtain rfl : a = l.length := by omega
    refine Ev.step (fun k => rfl) ?_
    simp only [PAll.spinetref05_Ints.l0]
    exact ev_neg (by omega) (Ev.now _)
  | succ d ih =>
    intro a ha hd
    refine Ev.step (fun k => rfl) ?_
    simp only [PAll.spinetref05_Ints.l0]
    refine ev_pos (by omega) (ev_pos (by omega) (ev_pos (by omega) (ev_pos (by first | rfl | trivial) ?_)))
    rw [w64 (by omega) (by omega)]
    exact ih (a + 1) (by omega) (by omega)
theorem eints_f (l : List Int) (hl : l.length ≤ 1000000) : ∃ k, PAll.spinetref05_Ints.f k l l = some true := by
  have h := eints_l0 l hl l.length 0 (by omega) (by omega)
  have : Ev (fun k => PAll.spinetref05_Ints.f k l l) true := by
    unfold PAll.spinetref05_Ints.f
    exact ev_pos rfl h
  exact Ev.rounds this
theorem eints_any (A B : Option Addr) (c d : Nat) (l : List Int) (hl : l.length ≤ 1000000) (w : World) (h1 : Kd.C (Kd.int .i64) w A l.length l) (hc : l.length ≤ c) (h2 : Kd.C (Kd.int .i64) w B l.length l) (hd : l.length ≤ d) :
    Calls Tryz.prog 19 #[.slice A l.length c, .slice B l.length d] w fun e w' => e = .returned (.bool true) ∧ Below w.heap.size w w' := by
  obtain ⟨k, h⟩ := eints_f l hl
  refine (PAll.spinetref05_Ints.calls k A c l B d l true w h1 hc h2 hd h).mono ?_
  rintro e w' ⟨rfl, hw⟩
  exact ⟨rfl, drawn_below hw⟩
theorem sacts_l0 (l : List Ac) (hl : l.length ≤ 1000000) (d : Nat) : ∀ a : Nat, a ≤ l.length → l.length - a = d → Ev (fun k => PAll.spinetref05_SameActs.l0 k l l a) true := by
  induction d with
  | zero =>
    intro a ha hd
    obtain rfl : a = l.length := by omega
    refine Ev.step (fun k => rfl) ?_
    simp only [PAll.spinetref05_SameActs.l0]
    exact ev_neg (by omega) (Ev.now _)
  | succ d ih =>
    intro a ha hd
    refine Ev.step (fun k => rfl) ?_
    simp only [PAll.spinetref05_SameActs.l0]
    refine ev_pos (by omega) (ev_pos (by omega) (ev_pos (by omega) (ev_neg (by simp) ?_)))
    rw [w64 (by omega) (by omega)]
    exact ih (a + 1) (by omega) (by omega)
theorem sacts_any {w : World} (A B : Option Addr) (c d : Nat) (l : List Ac) (hl : l.length ≤ 1000000) (h1 : PAll.k80.C w A l.length l) (hc : l.length ≤ c) (h2 : PAll.k80.C w B l.length l) (hd : l.length ≤ d) :
    Calls Tryz.prog 60 #[.slice A l.length c, .slice B l.length d] w fun e w' => e = .returned (.bool true) ∧ Below w.heap.size w w' := by
  obtain ⟨k, hk⟩ := Ev.rounds (show Ev (fun k => PAll.spinetref05_SameActs.f k l l) true by
    unfold PAll.spinetref05_SameActs.f
    exact ev_pos rfl (sacts_l0 l hl l.length 0 (by omega) (by omega)))
  refine (PAll.spinetref05_SameActs.calls k A c l B d l _ w h1 hc h2 hd hk).mono ?_
  rintro e w' ⟨rfl, hb⟩
  exact ⟨rfl, drawn_below hb⟩
theorem two5 {W : World} {g g' t : Nat} {a0 a1 a2 a3 a4 b0 b1 b2 b3 b4 : Value} (h : W.heap[g]? = some (.cells #[a0, a1, a2, a3, a4] t (0, 0))) (h' : W.heap[g']? = some (.cells #[b0, b1, b2, b3, b4] t (0, 0))) :
    W.cell? ⟨g, 0, none⟩ = some a0 ∧ W.cell? ⟨g, 1, none⟩ = some a1 ∧ W.cell? ⟨g, 2, none⟩ = some a2 ∧ W.cell? ⟨g, 3, none⟩ = some a3 ∧ W.cell? ⟨g, 4, none⟩ = some a4 ∧ W.cell? ⟨g', 0, none⟩ = some b0 ∧ W.cell? ⟨g', 1, none⟩ = some b1 ∧ W.cell? ⟨g', 2, none⟩ = some b2 ∧ W.cell? ⟨g', 3, none⟩ = some b3 ∧ W.cell? ⟨g', 4, none⟩ = some b4 :=
  ⟨blk_cell h 0, blk_cell h 1, blk_cell h 2, blk_cell h 3, blk_cell h 4, blk_cell h' 0, blk_cell h' 1, blk_cell h' 2, blk_cell h' 3, blk_cell h' 4⟩
theorem two6 {W : World} {g g' t : Nat} {a0 a1 a2 a3 a4 a5 b0 b1 b2 b3 b4 b5 : Value} (h : W.heap[g]? = some (.cells #[a0, a1, a2, a3, a4, a5] t (0, 0))) (h' : W.heap[g']? = some (.cells #[b0, b1, b2, b3, b4, b5] t (0, 0))) :
    W.cell? ⟨g, 0, none⟩ = some a0 ∧ W.cell? ⟨g, 1, none⟩ = some a1 ∧ W.cell? ⟨g, 2, none⟩ = some a2 ∧ W.cell? ⟨g, 3, none⟩ = some a3 ∧ W.cell? ⟨g, 4, none⟩ = some a4 ∧ W.cell? ⟨g, 5, none⟩ = some a5 ∧ W.cell? ⟨g', 0, none⟩ = some b0 ∧ W.cell? ⟨g', 1, none⟩ = some b1 ∧ W.cell? ⟨g', 2, none⟩ = some b2 ∧ W.cell? ⟨g', 3, none⟩ = some b3 ∧ W.cell? ⟨g', 4, none⟩ = some b4 ∧ W.cell? ⟨g', 5, none⟩ = some b5 :=
  ⟨blk_cell h 0, blk_cell h 1, blk_cell h 2, blk_cell h 3, blk_cell h 4, blk_cell h 5, blk_cell h' 0, blk_cell h' 1, blk_cell h' 2, blk_cell h' 3, blk_cell h' 4, blk_cell h' 5⟩
set_option maxHeartbeats 16000000 in
set_option maxRecDepth 100000 in
theorem same_any (v : Int) (A B A' B' : Option Addr) (ca cb ca' cb' : Nat) (st : List Sta) (tr : List Tra) (hs : st.length ≤ 1000) (ht : tr.length ≤ 1000) (hS : ∀ x ∈ st, x.f2.length ≤ 1000 ∧ x.f3.length ≤ 1000 ∧ x.f4.length ≤ 1000) (hT : ∀ x ∈ tr, x.f3.length ≤ 1000 ∧ x.f5.length ≤ 1000) (w : World) (hM : ChM w A ca st B cb tr) (hM' : ChM w A' ca' st B' cb' tr) :
    Calls Tryz.prog 28 #[ckV v A B st.length tr.length ca cb, ckV v A' B' st.length tr.length ca' cb'] w fun e w' => e = .returned (.bool true) ∧ Below w.heap.size w w' := by
  have hb0 : Below w.heap.size w ((w.alloc (.cells #[.int .i64 v, .slice A st.length ca, .slice B tr.length cb] 47)).alloc (.cells #[.int .i64 v, .slice A' st.length ca', .slice B' tr.length cb'] 47)) := ((Below.refl _ w).alloc (Nat.le_refl _) _).alloc (by simp) _
  obtain ⟨hk1, hk2, hlt0, _⟩ := boxed2 (Below.refl _ ((w.alloc (.cells #[.int .i64 v, .slice A st.length ca, .slice B tr.length cb] 47)).alloc (.cells #[.int .i64 v, .slice A' st.length ca', .slice B' tr.length cb'] 47)))
  have HB0 := Lib.hid hb0
  have HK1 := Lib.hid hk1
  have HK2 := Lib.hid hk2
  have HM := Lib.hid (hM.below hb0)
  have HM' := Lib.hid (hM'.below hb0)
  have HSl := Lib.hid hS
  have HTl := Lib.hid hT
  clear hk1 hk2 hb0 hM hM' hS hT
  go_enter Tryz.func28, Tryz.ntmps28
  go_wp2_with fail
  generalize (w.alloc (.cells #[.int .i64 v, .slice A st.length ca, .slice B tr.length cb] 47)).alloc (.cells #[.int .i64 v, .slice A' st.length ca', .slice B' tr.length cb'] 47) = w0 at HB0 HK1 HK2 HM HM' hlt0 ⊢
  have hfin : ∀ wr, Below w0.heap.size w0 wr → Below w.heap.size w wr := fun wr h => HB0.out.trans (h.mono HB0.out.size)
  have HFin := Lib.hid hfin
  have hcell : ∀ wr, Below w0.heap.size w0 wr → (wr.cell? ⟨w.heap.size, 0, none⟩ = some (.int .i64 v) ∧ wr.cell? ⟨w.heap.size, 1, none⟩ = some (.slice A st.length ca) ∧ wr.cell? ⟨w.heap.size, 2, none⟩ = some (.slice B tr.length cb)) ∧ (wr.cell? ⟨w.heap.size + 1, 0, none⟩ = some (.int .i64 v) ∧ wr.cell? ⟨w.heap.size + 1, 1, none⟩ = some (.slice A' st.length ca') ∧ wr.cell? ⟨w.heap.size + 1, 2, none⟩ = some (.slice B' tr.length cb')) := fun wr h => by
    have k1 := (h.block _ (lt_of_block HK1.out)).trans HK1.out
    have k2 := (h.block _ (lt_of_block HK2.out)).trans HK2.out
    exact ⟨⟨blk_cell k1 0, blk_cell k1 1, blk_cell k1 2⟩, ⟨blk_cell k2 0, blk_cell k2 1, blk_cell k2 2⟩⟩
  have HCell := Lib.hid hcell
  clear hfin hcell
  obtain ⟨⟨y0, y1, y2⟩, ⟨z0, z1, z2⟩⟩ := HCell.out w0 (Below.refl _ _)
  go_wp2_with fail
  go_loopw [5] (fun i wr => ∃ q : Nat, i = .int .i64 q ∧ q ≤ st.length ∧ Hid (Below w0.heap.size w0 wr)) (fun i _ => st.length - (intOf i).toNat)
  case atStart => exact ⟨0, rfl, Nat.zero_le _, Lib.hid (Below.refl _ _)⟩
  case round =>
    clear y0 y1 y2 z0 z1 z2
    obtain ⟨q, rfl, hq, HB⟩ := hrel
    obtain ⟨⟨y0, y1, y2⟩, ⟨z0, z1, z2⟩⟩ := HCell.out wr HB.out
    by_cases hlt : q < st.length
    · have p1 : ((q : Int) < (st.length : Int)) = True := eq_true (by omega)
      obtain ⟨ad, A2, c2, A3, c3, A4, c4, rfl, q0, q1, q2, q3, q4, l2, g2, l3, g3, l4, g4⟩ := PAll.at_T54 (Kd.C_below HM.out.cs HB.out) (q : Int) (by omega) (by omega)
      rw [Int.toNat_natCast] at q0 q1 q2 q3 q4
      have hw1 : Below wr.heap.size wr (wr.alloc (.cells #[.int .i64 (PAll.rd_T54 st (q : Int)).f0, .int .i64 (PAll.rd_T54 st (q : Int)).f1, .slice A2 (PAll.rd_T54 st (q : Int)).f2.length c2, .slice A3 (PAll.rd_T54 st (q : Int)).f3.length c3, .slice A4 (PAll.rd_T54 st (q : Int)).f4.length c4] 54)) := (Below.refl _ wr).alloc (Nat.le_refl _) _
      have hkx := blk_new wr (.cells #[.int .i64 (PAll.rd_T54 st (q : Int)).f0, .int .i64 (PAll.rd_T54 st (q : Int)).f1, .slice A2 (PAll.rd_T54 st (q : Int)).f2.length c2, .slice A3 (PAll.rd_T54 st (q : Int)).f3.length c3, .slice A4 (PAll.rd_T54 st (q : Int)).f4.length c4] 54)
      have hb1 := below_then HB.out HB.out.size hw1
      obtain ⟨_, ⟨z0', z1', z2'⟩⟩ := HCell.out _ hb1
      obtain ⟨ad', B2, d2, B3, d3, B4, d4, rfl, r0, r1, r2, r3, r4, m2, n2, m3, n3, m4, n4⟩ := PAll.at_T54 (Kd.C_below HM'.out.cs hb1) (q : Int) (by omega) (by omega)
      rw [Int.toNat_natCast] at r0 r1 r2 r3 r4
      have hmem := HSl.out _ (rdS_mem st q hlt)
      generalize (PAll.rd_T54 st (q : Int)) = s at *
      have HG2 := Lib.hid (Kd.C_below g2 hw1)
      have HG3 := Lib.hid (Kd.C_below g3 hw1)
      have HG4 := Lib.hid (Kd.C_below g4 hw1)
      have HN2 := Lib.hid n2
      have HN3 := Lib.hid n3
      have HN4 := Lib.hid n4
      obtain ⟨k1, k2, _, _⟩ := boxed2 (Below.refl _ ((wr.alloc (.cells #[.int .i64 s.f0, .int .i64 s.f1, .slice A2 s.f2.length c2, .slice A3 s.f3.length c3, .slice A4 s.f4.length c4] 54)).alloc (.cells #[.int .i64 s.f0, .int .i64 s.f1, .slice B2 s.f2.length d2, .slice B3 s.f3.length d3, .slice B4 s.f4.length d4] 54)))
      have hw2 : Below (wr.alloc (.cells #[.int .i64 s.f0, .int .i64 s.f1, .slice A2 s.f2.length c2, .slice A3 s.f3.length c3, .slice A4 s.f4.length c4] 54)).heap.size (wr.alloc (.cells #[.int .i64 s.f0, .int .i64 s.f1, .slice A2 s.f2.length c2, .slice A3 s.f3.length c3, .slice A4 s.f4.length c4] 54)) ((wr.alloc (.cells #[.int .i64 s.f0, .int .i64 s.f1, .slice A2 s.f2.length c2, .slice A3 s.f3.length c3, .slice A4 s.f4.length c4] 54)).alloc (.cells #[.int .i64 s.f0, .int .i64 s.f1, .slice B2 s.f2.length d2, .slice B3 s.f3.length d3, .slice B4 s.f4.length d4] 54)) := (Below.refl _ _).alloc (Nat.le_refl _) _
      have HB2 := Lib.hid (below_then hb1 hb1.size hw2)
      have HK1x := Lib.hid k1
      have HK2x := Lib.hid k2
      replace HG2 := Lib.hid (Kd.C_below HG2.out hw2)
      replace HG3 := Lib.hid (Kd.C_below HG3.out hw2)
      replace HG4 := Lib.hid (Kd.C_below HG4.out hw2)
      replace HN2 := Lib.hid (Kd.C_below HN2.out hw2)
      replace HN3 := Lib.hid (Kd.C_below HN3.out hw2)
      replace HN4 := Lib.hid (Kd.C_below HN4.out hw2)
      clear g2 g3 g4 n2 n3 n4 hw1 hb1 hkx hw2 k1 k2
      go_wp2_with fail
      generalize ((wr.alloc (.cells #[.int .i64 s.f0, .int .i64 s.f1, .slice A2 s.f2.length c2, .slice A3 s.f3.length c3, .slice A4 s.f4.length c4] 54)).alloc (.cells #[.int .i64 s.f0, .int .i64 s.f1, .slice B2 s.f2.length d2, .slice B3 s.f3.length d3, .slice B4 s.f4.length d4] 54)) = w2 at HB2 HK1x HK2x HG2 HG3 HG4 HN2 HN3 HN4 ⊢
      clear y0 y1 y2 z0 z1 z2 z0' z1' z2' q0 q1 q2 q3 q4 r0 r1 r2 r3 r4
      obtain ⟨x0, x1, x2, x3, x4, o0, o1, o2, o3, o4⟩ := two5 HK1x.out HK2x.out
      go_wp2_with fail
      refine (eints_any A2 B2 c2 d2 s.f2 (by omega) _ HG2.out l2 HN2.out m2).mono ?_
      rintro e w3 ⟨rfl, hb3⟩
      have HB3 := Lib.hid (below_then HB2.out HB2.out.size hb3)
      have HK13 := Lib.hid ((hb3.block _ (lt_of_block HK1x.out)).trans HK1x.out)
      have HK23 := Lib.hid ((hb3.block _ (lt_of_block HK2x.out)).trans HK2x.out)
      replace HG3 := Lib.hid (Kd.C_below HG3.out hb3)
      replace HG4 := Lib.hid (Kd.C_below HG4.out hb3)
      replace HN3 := Lib.hid (Kd.C_below HN3.out hb3)
      replace HN4 := Lib.hid (Kd.C_below HN4.out hb3)
      clear hb3 x0 x1 x2 x3 x4 o0 o1 o2 o3 o4 HG2 HN2 HK1x HK2x HB2
      obtain ⟨x0, x1, x2, x3, x4, o0, o1, o2, o3, o4⟩ := two5 HK13.out HK23.out
      go_wp2_with fail
      refine (sacts_any A3 B3 c3 d3 s.f3 (by omega) HG3.out l3 HN3.out m3).mono ?_
      rintro e w4 ⟨rfl, hb4⟩
      have HB4 := Lib.hid (below_then HB3.out HB3.out.size hb4)
      have HK14 := Lib.hid ((hb4.block _ (lt_of_block HK13.out)).trans HK13.out)
      have HK24 := Lib.hid ((hb4.block _ (lt_of_block HK23.out)).trans HK23.out)
      replace HG4 := Lib.hid (Kd.C_below HG4.out hb4)
      replace HN4 := Lib.hid (Kd.C_below HN4.out hb4)
      clear hb4 x0 x1 x2 x3 x4 o0 o1 o2 o3 o4 HG3 HN3 HK13 HK23 HB3
      obtain ⟨x0, x1, x2, x3, x4, o0, o1, o2, o3, o4⟩ := two5 HK14.out HK24.out
      go_wp2_with fail
      refine (sacts_any A4 B4 c4 d4 s.f4 (by omega) HG4.out l4 HN4.out m4).mono ?_
      rintro e w5 ⟨rfl, hb5⟩
      have HB5 := Lib.hid (below_then HB4.out HB4.out.size hb5)
      have HK15 := Lib.hid ((hb5.block _ (lt_of_block HK14.out)).trans HK14.out)
      have HK25 := Lib.hid ((hb5.block _ (lt_of_block HK24.out)).trans HK24.out)
      clear hb5 x0 x1 x2 x3 x4 o0 o1 o2 o3 o4 HG4 HN4 HK14 HK24 HB4
      obtain ⟨x0, x1, x2, x3, x4, o0, o1, o2, o3, o4⟩ := two5 HK15.out HK25.out
      go_wp2_with fail
      go_roundw
      case rel => exact ⟨q + 1, by go_num, by omega, HB5⟩
      case measure => simp [intOf]; omega
    · obtain rfl : q = st.length := by omega
      have p1 : ((st.length : Int) < (st.length : Int)) = False := eq_false (by omega)
      go_wp2_with fail
      go_loopw [11] (fun i wr => ∃ q : Nat, i = .int .i64 q ∧ q ≤ tr.length ∧ Hid (Below w0.heap.size w0 wr)) (fun i _ => tr.length - (intOf i).toNat)
      case atStart => exact ⟨0, rfl, Nat.zero_le _, HB⟩
      case round =>
        clear y0 y1 y2 z0 z1 z2 HB p1
        obtain ⟨q, rfl, hq, HB⟩ := hrel
        obtain ⟨⟨y0, y1, y2⟩, ⟨z0, z1, z2⟩⟩ := HCell.out wr HB.out
        by_cases hlt : q < tr.length
        · have p1 : ((q : Int) < (tr.length : Int)) = True := eq_true (by omega)
          obtain ⟨ad, A3, c3, A5, c5, rfl, q0, q1, q2, q3, q4, q5, l3, g3, l5, g5⟩ := PAll.at_T56 (Kd.C_below HM.out.ct HB.out) (q : Int) (by omega) (by omega)
          rw [Int.toNat_natCast] at q0 q1 q2 q3 q4 q5
          have hw1 : Below wr.heap.size wr (wr.alloc (.cells #[.int .i64 (PAll.rd_T56 tr (q : Int)).f0, .int .i64 (PAll.rd_T56 tr (q : Int)).f1, .string (PAll.rd_T56 tr (q : Int)).f2, .slice A3 (PAll.rd_T56 tr (q : Int)).f3.length c3, .bool (PAll.rd_T56 tr (q : Int)).f4, .slice A5 (PAll.rd_T56 tr (q : Int)).f5.length c5] 56)) := (Below.refl _ wr).alloc (Nat.le_refl _) _
          have hb1 := below_then HB.out HB.out.size hw1
          obtain ⟨_, ⟨z0', z1', z2'⟩⟩ := HCell.out _ hb1
          obtain ⟨ad', B3, d3, B5, d5, rfl, r0, r1, r2, r3, r4, r5, m3, n3, m5, n5⟩ := PAll.at_T56 (Kd.C_below HM'.out.ct hb1) (q : Int) (by omega) (by omega)
          rw [Int.toNat_natCast] at r0 r1 r2 r3 r4 r5
          have hmem := HTl.out _ (rdT_mem tr q hlt)
          generalize (PAll.rd_T56 tr (q : Int)) = s at *
          obtain ⟨k1, k2, _, _⟩ := boxed2 (Below.refl _ ((wr.alloc (.cells #[.int .i64 s.f0, .int .i64 s.f1, .string s.f2, .slice A3 s.f3.length c3, .bool s.f4, .slice A5 s.f5.length c5] 56)).alloc (.cells #[.int .i64 s.f0, .int .i64 s.f1, .string s.f2, .slice B3 s.f3.length d3, .bool s.f4, .slice B5 s.f5.length d5] 56)))
          have hw2 : Below (wr.alloc (.cells #[.int .i64 s.f0, .int .i64 s.f1, .string s.f2, .slice A3 s.f3.length c3, .bool s.f4, .slice A5 s.f5.length c5] 56)).heap.size (wr.alloc (.cells #[.int .i64 s.f0, .int .i64 s.f1, .string s.f2, .slice A3 s.f3.length c3, .bool s.f4, .slice A5 s.f5.length c5] 56)) ((wr.alloc (.cells #[.int .i64 s.f0, .int .i64 s.f1, .string s.f2, .slice A3 s.f3.length c3, .bool s.f4, .slice A5 s.f5.length c5] 56)).alloc (.cells #[.int .i64 s.f0, .int .i64 s.f1, .string s.f2, .slice B3 s.f3.length d3, .bool s.f4, .slice B5 s.f5.length d5] 56)) := (Below.refl _ _).alloc (Nat.le_refl _) _
          have HB2 := Lib.hid (below_then hb1 hb1.size hw2)
          have HK1x := Lib.hid k1
          have HK2x := Lib.hid k2
          have HG3 := Lib.hid (Kd.C_below (Kd.C_below g3 hw1) hw2)
          have HG5 := Lib.hid (Kd.C_below (Kd.C_below g5 hw1) hw2)
          have HN3 := Lib.hid (Kd.C_below n3 hw2)
          have HN5 := Lib.hid (Kd.C_below n5 hw2)
          clear g3 g5 n3 n5 hw1 hb1 hw2 k1 k2
          go_wp2_with fail
          generalize ((wr.alloc (.cells #[.int .i64 s.f0, .int .i64 s.f1, .string s.f2, .slice A3 s.f3.length c3, .bool s.f4, .slice A5 s.f5.length c5] 56)).alloc (.cells #[.int .i64 s.f0, .int .i64 s.f1, .string s.f2, .slice B3 s.f3.length d3, .bool s.f4, .slice B5 s.f5.length d5] 56)) = w2 at HB2 HK1x HK2x HG3 HG5 HN3 HN5 ⊢
          clear y0 y1 y2 z0 z1 z2 z0' z1' z2' q0 q1 q2 q3 q4 q5 r0 r1 r2 r3 r4 r5
          obtain ⟨x0, x1, x2, x3, x4, x5, o0, o1, o2, o3, o4, o5⟩ := two6 HK1x.out HK2x.out
          go_wp2_with fail
          refine (eints_any A3 B3 c3 d3 s.f3 (by omega) _ HG3.out l3 HN3.out m3).mono ?_
          rintro e w3 ⟨rfl, hb3⟩
          have HB3 := Lib.hid (below_then HB2.out HB2.out.size hb3)
          have HK13 := Lib.hid ((hb3.block _ (lt_of_block HK1x.out)).trans HK1x.out)
          have HK23 := Lib.hid ((hb3.block _ (lt_of_block HK2x.out)).trans HK2x.out)
          replace HG5 := Lib.hid (Kd.C_below HG5.out hb3)
          replace HN5 := Lib.hid (Kd.C_below HN5.out hb3)
          clear hb3 x0 x1 x2 x3 x4 x5 o0 o1 o2 o3 o4 o5 HG3 HN3 HK1x HK2x HB2
          obtain ⟨x0, x1, x2, x3, x4, x5, o0, o1, o2, o3, o4, o5⟩ := two6 HK13.out HK23.out
          go_wp2_with fail
          refine (sacts_any A5 B5 c5 d5 s.f5 (by omega) HG5.out l5 HN5.out m5).mono ?_
          rintro e w4 ⟨rfl, hb4⟩
          have HB4 := Lib.hid (below_then HB3.out HB3.out.size hb4)
          have HK14 := Lib.hid ((hb4.block _ (lt_of_block HK13.out)).trans HK13.out)
          have HK24 := Lib.hid ((hb4.block _ (lt_of_block HK23.out)).trans HK23.out)
          clear hb4 x0 x1 x2 x3 x4 x5 o0 o1 o2 o3 o4 o5 HG5 HN5 HK13 HK23 HB3
          obtain ⟨x0, x1, x2, x3, x4, x5, o0, o1, o2, o3, o4, o5⟩ := two6 HK14.out HK24.out
          go_wp2_with fail
          go_roundw
          case rel => exact ⟨q + 1, by go_num, by omega, HB4⟩
          case measure => simp [intOf]; omega
        · obtain rfl : q = tr.length := by omega
          have p1 : ((tr.length : Int) < (tr.length : Int)) = False := eq_false (by omega)
          go_wp2_with fail
          go_ret
          exact ⟨rfl, HFin.out _ HB.out⟩
end Go.Proofs.YtemoonhnncopoaaGreatDoor
end
section
set_option linter.unusedVariables false
set_option linter.unusedSimpArgs false
namespace Go.Proofs.YtemoonhnncopoaaGreatDoor
open Go.RowKit Go.Proofs.YtemoonhnncopoaaGreatDoorW.PrintWords Go.Proofs.YtemoonhnncopoaaGreatDoorW.PrintLast
open PX (T V)
theorem RowQ.steps {α : Type} {d : Kd α} {e base g q : Nat} {ok : Nat → Prop} {w wr wr' : World} {cs : Array Value} {xs : List α} (h : RowQ d e w wr base ok g cs xs q) (hm : ∀ k, base ≤ k → wr'.heap[k]? = wr.heap[k]?) (hg : base ≤ g) : RowQ d e w wr' base ok g cs xs q :=
  ⟨(hm g hg).trans h.1, fun j x hj => by
    obtain ⟨c, h1, h2, h3, h4⟩ := h.2 j x hj
    exact ⟨c, h1, h2, fun hlt => d.M_mono (fun _ hk => hk.1) (d.M_move (fun k hk => hm k hk.2.1) (d.M_bound (h3 hlt))), h4⟩⟩
def TypAt (w : World) (b t n : Nat) : Prop := ∃ cs : Array Value, w.heap[b]? = some (.cells cs t (0, 0)) ∧ n ≤ cs.size
theorem TypAt.set {w : World} {b t n : Nat} (h : TypAt w b t n) (b' o : Nat) (u : Value) : TypAt (w.setCell ⟨b', o, none⟩ u) b t n := by
  obtain ⟨cs, h1, h2⟩ := h
  by_cases e : b = b'
  · subst e
    refine ⟨_, blk_set h1 o u, ?_⟩
    simpa using h2
  · exact ⟨cs, blk_far (p := ⟨b', o, none⟩) h1 e u, h2⟩
theorem TypAt.below {w w' : World} {b t n : Nat} (h : TypAt w b t n) (hb : Below w.heap.size w w') : TypAt w' b t n := by
  obtain ⟨cs, h1, h2⟩ := h
  exact ⟨cs, (hb.block _ (lt_of_block h1)).trans h1, h2⟩
theorem TypAt.at_ {w : World} {b t n : Nat} (h : TypAt w b t n) (i : Nat) (hi : i < n) : (∃ y, w.cell? ⟨b, i, none⟩ = some y) ∧ w.frozen? ⟨b, i, none⟩ = false := by
  obtain ⟨cs, h1, h2⟩ := h
  refine ⟨⟨cs[i]'(by omega), ?_⟩, blk_free h1 i⟩
  rw [blk_cell h1 i]
  exact Array.getElem?_eq_getElem (by omega)
def Shp (w : World) (base g : Nat) (st : List Sta) : Prop :=
  ∃ cs : Array Value, w.heap[g]? = some (.cells cs 54 (0, 0)) ∧ st.length * 5 ≤ cs.size ∧ ∀ (j : Nat) (x : Sta), st[j]? = some x → ∃ A c, cs[j * 5 + 2]? = some (.slice A x.f2.length c) ∧ x.f2.length ≤ c ∧ (0 < x.f2.length → ∃ b, A = some ⟨b, 0, none⟩ ∧ base ≤ b ∧ TypAt w b 3 x.f2.length)
theorem Shp.far {w : World} {base g : Nat} {st : List Sta} (h : Shp w base g st) {b : Nat} (hb : g ≠ b) (o : Nat) (u : Value) : Shp (w.setCell ⟨b, o, none⟩ u) base g st := by
  obtain ⟨cs, h1, h2, h3⟩ := h
  refine ⟨cs, blk_far (p := ⟨b, o, none⟩) h1 hb u, h2, fun j x hj => ?_⟩
  obtain ⟨A, c, q1, q2, q3⟩ := h3 j x hj
  refine ⟨A, c, q1, q2, fun hp => ?_⟩
  obtain ⟨b', r1, r2, r3⟩ := q3 hp
  exact ⟨b', r1, r2, r3.set b o u⟩
theorem Shp.kind {w : World} {base g : Nat} {st : List Sta} (h : Shp w base g st) (q : Nat) (u : Value) : Shp (w.setCell ⟨g, q * 5, none⟩ u) base g st := by
  obtain ⟨cs, h1, h2, h3⟩ := h
  refine ⟨_, blk_set h1 (q * 5) u, by simpa using h2, fun j x hj => ?_⟩
  obtain ⟨A, c, q1, q2, q3⟩ := h3 j x hj
  refine ⟨A, c, ?_, q2, fun hp => ?_⟩
  · rw [← q1]
    exact Array.getElem?_setIfInBounds_ne (by omega)
  · obtain ⟨b', r1, r2, r3⟩ := q3 hp
    exact ⟨b', r1, r2, r3.set g (q * 5) u⟩
theorem Shp.below {w w' : World} {base g : Nat} {st : List Sta} (h : Shp w base g st) (hb : Below w.heap.size w w') : Shp w' base g st := by
  obtain ⟨cs, h1, h2, h3⟩ := h
  refine ⟨cs, (hb.block _ (lt_of_block h1)).trans h1, h2, fun j x hj => ?_⟩
  obtain ⟨A, c, q1, q2, q3⟩ := h3 j x hj
  refine ⟨A, c, q1, q2, fun hp => ?_⟩
  obtain ⟨b', r1, r2, r3⟩ := q3 hp
  exact ⟨b', r1, r2, r3.below hb⟩
theorem Shp.low {w : World} {base base' g : Nat} {st : List Sta} (h : Shp w base g st) (hb : base' ≤ base) : Shp w base' g st := by
  obtain ⟨cs, h1, h2, h3⟩ := h
  refine ⟨cs, h1, h2, fun j x hj => ?_⟩
  obtain ⟨A, c, q1, q2, q3⟩ := h3 j x hj
  refine ⟨A, c, q1, q2, fun hp => ?_⟩
  obtain ⟨b', r1, r2, r3⟩ := q3 hp
  exact ⟨b', r1, Nat.le_trans hb r2, r3⟩
theorem Shp.typ {w : World} {base g : Nat} {st : List Sta} (h : Shp w base g st) : TypAt w g 54 (st.length * 5) := by
  obtain ⟨cs, h1, h2, _⟩ := h
  exact ⟨cs, h1, h2⟩
theorem Shp.row {w : World} {base g : Nat} {st : List Sta} (h : Shp w base g st) (q : Nat) (x : Sta) (hx : st[q]? = some x) : ∃ A c, w.cell? ⟨g, q * 5 + 2, none⟩ = some (.slice A x.f2.length c) ∧ (0 < x.f2.length → ∃ b, A = some ⟨b, 0, none⟩ ∧ base ≤ b ∧ g ≠ b ∧ TypAt w b 3 x.f2.length) := by
  obtain ⟨cs, h1, h2, h3⟩ := h
  obtain ⟨A, c, q1, q2, q3⟩ := h3 q x hx
  refine ⟨A, c, by rw [blk_cell h1]; exact q1, fun hp => ?_⟩
  obtain ⟨b, r1, r2, r3⟩ := q3 hp
  refine ⟨b, r1, r2, ?_, r3⟩
  obtain ⟨ci, r4, _⟩ := r3
  exact blk_ne h1 r4 (by decide)
theorem shp_of {w w' : World} {base g : Nat} {cs : Array Value} {ok : Nat → Prop} {st : List Sta} (hn : 0 < st.length) (h : RowQ PAll.k54 54 w w' base ok g cs st st.length) : Shp w' base g st := by
  refine ⟨cs, h.1, ?_, fun j x hj => ?_⟩
  · obtain ⟨c, h1, h2, _, _⟩ := h.2 (st.length - 1) st[st.length - 1] (List.getElem?_eq_getElem (by omega))
    have h1' : c.length = 5 := h1
    have := h2 4 c[4] (List.getElem?_eq_getElem (by omega))
    have hlt := (Array.getElem?_eq_some_iff.1 this).1
    have e : (PAll.k54).sz = 5 := rfl
    rw [e] at hlt
    omega
  · obtain ⟨c, h1, h2, h3, _⟩ := h.2 j x hj
    obtain ⟨v2, v3, v4, rfl, r2, _, _⟩ := PAll.k54_openM (h3 (List.getElem?_eq_some_iff.1 hj).1)
    obtain ⟨A, cap, rfl⟩ := Kd.R_slice r2
    refine ⟨A, cap, h2 2 _ rfl, (Kd.R_reads' r2).2.1, fun hp => ?_⟩
    obtain ⟨b, cap', e, hb, _, ci, hc⟩ := Kd.R_form r2 hp
    injection e with e1 e2 e3
    subst e1
    refine ⟨b, rfl, hb, ci, hc, ?_⟩
    obtain ⟨ad, had, hr⟩ := (Kd.R_reads' r2).2.2.2.2 hp
    obtain rfl : ad = ⟨b, 0, none⟩ := (Option.some.inj had).symm
    obtain ⟨c', k1, k2, k3⟩ := hr (x.f2.length - 1) x.f2[x.f2.length - 1] (List.getElem?_eq_getElem (by omega))
    have k1' : c'.length = 1 := k1
    have := k3 0 c'[0] (List.getElem?_eq_getElem (by omega))
    rw [add_at, blk_cell hc] at this
    have hlt := (Array.getElem?_eq_some_iff.1 this).1
    have e : (Kd.int .i64).sz = 1 := rfl
    rw [e] at hlt
    omega
theorem typ_of {w w' : World} {base g : Nat} {cs : Array Value} {ok : Nat → Prop} {tr : List Tra} (hn : 0 < tr.length) (h : RowQ PAll.k56 56 w w' base ok g cs tr tr.length) : TypAt w' g 56 (tr.length * 6) := by
  refine ⟨cs, h.1, ?_⟩
  obtain ⟨c, h1, h2, _, _⟩ := h.2 (tr.length - 1) tr[tr.length - 1] (List.getElem?_eq_getElem (by omega))
  have h1' : c.length = 6 := h1
  have := h2 5 c[5] (List.getElem?_eq_getElem (by omega))
  have hlt := (Array.getElem?_eq_some_iff.1 this).1
  have e : (PAll.k56).sz = 6 := rfl
  rw [e] at hlt
  omega
set_option maxHeartbeats 8000000 in
set_option maxRecDepth 100000 in
theorem tchart_any {g : Nat} {v : Int} {st : List Sta} {tr : List Tra} {w : World} (h : TrM w g v st tr) (hst : 0 < st.length) (hs : st.length ≤ 1000) (ht : tr.length ≤ 1000) (hS : ∀ x ∈ st, x.f2.length ≤ 1000 ∧ x.f3.length ≤ 1000 ∧ x.f4.length ≤ 1000) (hT : ∀ x ∈ tr, x.f3.length ≤ 1000 ∧ x.f5.length ≤ 1000) :
    Calls Tryz.prog 27 #[.pointer (some ⟨g, 0, none⟩)] w fun e w' => ∃ gS ca' B' cb', e = .returned (ckV v (some ⟨gS, 0, none⟩) B' st.length tr.length ca' cb') ∧ ChM w' (some ⟨gS, 0, none⟩) ca' st B' cb' tr ∧ Below w.heap.size w w' ∧ w.heap.size ≤ gS ∧ Shp w' w.heap.size gS st ∧ ∃ gT, w.heap.size ≤ gT ∧ (0 < tr.length → B' = some ⟨gT, 0, none⟩ ∧ TypAt w' gT 56 (tr.length * 6)) := by
  obtain ⟨A, ca, B, cb, h1, h2⟩ := h
  have hb0 : Below w.heap.size w (w.alloc (.cells #[.int .i64 0, .slice none 0 0, .slice none 0 0] 47)) := (Below.refl _ w).alloc (Nat.le_refl _) _
  have hk := (hb0.block _ (lt_of_block h1)).trans h1
  have HB0 := Lib.hid hb0
  have HM := Lib.hid (h2.below hb0)
  have HK := Lib.hid (blk_new w (.cells #[.int .i64 0, .slice none 0 0, .slice none 0 0] 47))
  obtain ⟨y0, y1, y2⟩ : (w.alloc (.cells #[.int .i64 0, .slice none 0 0, .slice none 0 0] 47)).cell? ⟨g, 0, none⟩ = some (.int .i64 v) ∧ (w.alloc (.cells #[.int .i64 0, .slice none 0 0, .slice none 0 0] 47)).cell? ⟨g, 1, none⟩ = some (.slice A st.length ca) ∧ (w.alloc (.cells #[.int .i64 0, .slice none 0 0, .slice none 0 0] 47)).cell? ⟨g, 2, none⟩ = some (.slice B tr.length cb) := ⟨blk_cell hk 0, blk_cell hk 1, blk_cell hk 2⟩
  have HSl := Lib.hid hS
  have HTl := Lib.hid hT
  clear h1 h2 hb0 hk hS hT
  go_enter Tryz.func27, Tryz.ntmps27
  go_wp2_with fail
  generalize w.alloc (.cells #[.int .i64 0, .slice none 0 0, .slice none 0 0] 47) = w0 at HB0 HM HK y0 y1 y2 ⊢
  go_wp2_with fail
  refine (copied_own v A B ca cb st tr hst hs ht HSl.out HTl.out _ HM.out).mono ?_
  rintro e w1 ⟨A', ca', B', cb', rfl, hM, hb1, ⟨gS, csS, ok, rfl, hgS, hQ⟩, hTT⟩
  have hk := (hb1.block _ (lt_of_block HK.out)).trans HK.out
  have hwS : w.heap.size ≤ gS := Nat.le_trans HB0.out.size hgS
  have hS1 := shp_of hst hQ
  obtain ⟨cS, hcS, _, _⟩ := hS1
  have hlt := lt_of_block HK.out
  have hne : ∀ b, w0.heap.size ≤ b → b ≠ w.heap.size := fun b hb e => by omega
  have HB1 := Lib.hid (below_then HB0.out HB0.out.size hb1)
  obtain ⟨c0, c1, c2⟩ : w1.cell? ⟨w.heap.size, 0, none⟩ = some (.int .i64 0) ∧ w1.cell? ⟨w.heap.size, 1, none⟩ = some (.slice none 0 0) ∧ w1.cell? ⟨w.heap.size, 2, none⟩ = some (.slice none 0 0) := ⟨blk_cell hk 0, blk_cell hk 1, blk_cell hk 2⟩
  have f0 := blk_free hk 0
  have f1 := blk_free hk 1
  have f2 := blk_free hk 2
  have HKk := Lib.hid hk
  have HMm := Lib.hid hM
  have HQq := Lib.hid hQ
  have HTq := Lib.hid hTT
  have HNe := Lib.hid hne
  clear hk hM hQ hTT hcS hlt hb1 hne
  go_wp2_with fail
  have hst3 : ∀ j, j ≠ w.heap.size → (((w1.setCell ⟨w.heap.size, 0, none⟩ (.int .i64 v)).setCell ⟨w.heap.size, 1, none⟩ (.slice (some ⟨gS, 0, none⟩) st.length ca')).setCell ⟨w.heap.size, 2, none⟩ (.slice B' tr.length cb')).heap[j]? = w1.heap[j]? := fun j hj => (Below.heap_setCell _ ⟨w.heap.size, 2, none⟩ _ j hj).trans ((Below.heap_setCell _ ⟨w.heap.size, 1, none⟩ _ j hj).trans (Below.heap_setCell _ ⟨w.heap.size, 0, none⟩ _ j hj))
  have hstb : ∀ k, w0.heap.size ≤ k → _ := fun k hk => hst3 k (HNe.out k hk)
  have hQ2 := HQq.out.steps hstb hgS
  refine bodyPost_ret (results_cell_row rfl _ _ w.heap.size 47 #[.int .i64 v, .slice (some ⟨gS, 0, none⟩) st.length ca', .slice B' tr.length cb'] (0, 0) _ rfl (blk_set (blk_set (blk_set HKk.out 0 (.int .i64 v)) 1 (.slice (some ⟨gS, 0, none⟩) st.length ca')) 2 (.slice B' tr.length cb')) Tryz.underlying47 rfl (by kernel_rfl)) rfl ?_
  refine ⟨gS, ca', B', cb', rfl, ⟨hQ2.reads rfl (by omega), HMm.out.sc, ?_, HMm.out.tc⟩, ((HB1.out.setCell (p := ⟨w.heap.size, 0, none⟩) (Nat.le_refl _) _).setCell (p := ⟨w.heap.size, 1, none⟩) (Nat.le_refl _) _).setCell (p := ⟨w.heap.size, 2, none⟩) (Nat.le_refl _) _, hwS, (shp_of hst hQ2).low HB0.out.size, ?_⟩
  · by_cases h : 0 < tr.length
    · obtain ⟨gT, csT, okT, e1, hgT, hQt⟩ := HTq.out h
      subst e1
      exact (hQt.steps hstb hgT).reads rfl (by omega)
    · exact ⟨rfl, by omega, fun h' => absurd h' h⟩
  · by_cases h : 0 < tr.length
    · obtain ⟨gT, csT, okT, e1, hgT, hQt⟩ := HTq.out h
      exact ⟨gT, Nat.le_trans HB0.out.size hgT, fun _ => ⟨e1, typ_of h (hQt.steps hstb hgT)⟩⟩
    · exact ⟨w.heap.size, Nat.le_refl _, fun h' => absurd h' h⟩
theorem st_at {st : List Sta} {q : Nat} (h : q < st.length) : st[q]? = some (PAll.rd_T54 st (q : Int)) := by
  rw [List.getElem?_eq_getElem h]
  simp [PAll.rd_T54, List.getD_eq_getElem?_getD, List.getElem?_eq_getElem h]
set_option maxHeartbeats 16000000 in
set_option maxRecDepth 100000 in
theorem TreeOwn_walk (w : World) (hw : Laid w) (cs : Array Value) (x0 : Int × List StaT × List TraT × Unit) (h0 : RChart.ok (fun b => b < w.heap.size) w cs.toList x0) :
    Calls Tryz.prog 5 #[.agg cs] w fun e w' => e = .returned (.bool true) ∧ Below w.heap.size w w' := by
  obtain ⟨A, ca, B, cb, st, tr, hcs, hM⟩ := chartArg h0
  rw [hcs]
  generalize x0.1 = v at *
  clear h0 hcs
  have hb0 : Below w.heap.size w (w.alloc (.cells #[.int .i64 v, .slice A st.length ca, .slice B tr.length cb] 47)) := (Below.refl _ w).alloc (Nat.le_refl _) _
  have HB0 := Lib.hid hb0
  have HWE := Lib.hid (hw.below hb0)
  have HM := Lib.hid (hM.below hb0)
  have HG := Lib.hid (blk_new w (.cells #[.int .i64 v, .slice A st.length ca, .slice B tr.length cb] 47))
  clear hb0 hw hM
  go_enter Tryz.func5, Tryz.ntmps5
  go_wp2_with fail
  generalize w.alloc (.cells #[.int .i64 v, .slice A st.length ca, .slice B tr.length cb] 47) = w0 at HB0 HWE HM HG ⊢
  have hfin : ∀ wr, Below w0.heap.size w0 wr → Below w.heap.size w wr := fun wr h => HB0.out.trans (h.mono HB0.out.size)
  have HFin := Lib.hid hfin
  clear hfin
  refine (up07 _ HWE.out).mono ?_
  rintro e w1 ⟨rfl, hb1⟩
  have HB1 := Lib.hid hb1
  have hk := (hb1.block _ (lt_of_block HG.out)).trans HG.out
  obtain ⟨y0, y1, y2⟩ : w1.cell? ⟨w.heap.size, 0, none⟩ = some (.int .i64 v) ∧ w1.cell? ⟨w.heap.size, 1, none⟩ = some (.slice A st.length ca) ∧ w1.cell? ⟨w.heap.size, 2, none⟩ = some (.slice B tr.length cb) := ⟨blk_cell hk 0, blk_cell hk 1, blk_cell hk 2⟩
  clear hk hb1
  go_wp2_with fail
  refine (fewc_any (HM.out.below HB1.out) v).mono ?_
  cases hf : fewP st tr with
  | false =>
    rintro e w2 ⟨rfl, hb2⟩
    go_wp2_with fail
    go_ret
    exact ⟨rfl, HFin.out _ (below_then HB1.out HB1.out.size hb2)⟩
  | true =>
    have HF := Lib.hid hf
    clear hf
    rintro e w2 ⟨rfl, hb2⟩
    have HB2 := Lib.hid (below_then HB1.out HB1.out.size hb2)
    have hk := (HB2.out.block _ (lt_of_block HG.out)).trans HG.out
    clear y0 y1 y2
    obtain ⟨y0, y1, y2⟩ : w2.cell? ⟨w.heap.size, 0, none⟩ = some (.int .i64 v) ∧ w2.cell? ⟨w.heap.size, 1, none⟩ = some (.slice A st.length ca) ∧ w2.cell? ⟨w.heap.size, 2, none⟩ = some (.slice B tr.length cb) := ⟨blk_cell hk 0, blk_cell hk 1, blk_cell hk 2⟩
    clear hk hb2
    go_wp2_with fail
    refine (tnew_any v A B ca cb st tr HF.out _ (HWE.out.below HB2.out) (HM.out.below HB2.out)).mono ?_
    rintro e w3 ⟨⟨p, ev, rfl, h⟩, hb3⟩
    have HB3 := Lib.hid (below_then HB2.out HB2.out.size hb3)
    clear y0 y1 y2 hb3
    rcases h with ⟨he, g, rfl, rfl, hg, hT⟩ | ⟨he, rfl, hev⟩
    rotate_left
    · rcases er_some hev he with ⟨c, rfl⟩ | ⟨c, rfl⟩
      all_goals
        clear hev he
        go_wp2_with fail
        go_ret
        exact ⟨rfl, HFin.out _ HB3.out⟩
    have HT3 := Lib.hid hT
    obtain ⟨hv1, hv2, hl1, hl2, hl3⟩ := (chk_none he).1
    obtain ⟨hS, hTT⟩ := few_s HF.out
    have HSl := Lib.hid hS
    have HTl := Lib.hid hTT
    clear hT he hg hS hTT hv1 hv2
    go_wp2_with fail
    refine (tchart_any HT3.out (by omega) (by omega) (by omega) HSl.out HTl.out).mono ?_
    rintro e w4 ⟨gS, ca', B', cb', rfl, hM4, hb4, hgS, hS4, gT, hgT, hT4⟩
    have hal : Below w4.heap.size w4 (w4.alloc (.cells #[.int .i64 v, .slice (some ⟨gS, 0, none⟩) st.length ca', .slice B' tr.length cb'] 47)) := (Below.refl _ w4).alloc (Nat.le_refl _) _
    have HX := Lib.hid (blk_new w4 (.cells #[.int .i64 v, .slice (some ⟨gS, 0, none⟩) st.length ca', .slice B' tr.length cb'] 47))
    have hgx : w3.heap.size ≤ w4.heap.size := hb4.size
    have HS5 := Lib.hid (hS4.below hal)
    have HT5 : Hid (0 < tr.length → B' = some ⟨gT, 0, none⟩ ∧ TypAt (w4.alloc (.cells #[.int .i64 v, .slice (some ⟨gS, 0, none⟩) st.length ca', .slice B' tr.length cb'] 47)) gT 56 (tr.length * 6)) := Lib.hid (fun h => ⟨(hT4 h).1, (hT4 h).2.below hal⟩)
    have HB5 := Lib.hid (below_then hb4 hb4.size hal)
    clear hM4 hS4 hT4 hal hb4
    go_wp2_with fail
    generalize w4.alloc (.cells #[.int .i64 v, .slice (some ⟨gS, 0, none⟩) st.length ca', .slice B' tr.length cb'] 47) = w5 at HX HS5 HT5 HB5 ⊢
    generalize w4.heap.size = gX at HX hgx ⊢
    go_loopw [8] (fun i wr => ∃ q : Nat, i = .int .i64 q ∧ q ≤ st.length ∧ Hid (Below w3.heap.size w3 wr) ∧ Hid (wr.heap[gX]? = some (.cells #[.int .i64 v, .slice (some ⟨gS, 0, none⟩) st.length ca', .slice B' tr.length cb'] 47 (0, 0))) ∧ Hid (Shp wr w3.heap.size gS st) ∧ Hid (0 < tr.length → B' = some ⟨gT, 0, none⟩ ∧ TypAt wr gT 56 (tr.length * 6))) (fun i _ => st.length - (intOf i).toNat)
    case atStart => exact ⟨0, rfl, Nat.zero_le _, HB5, HX, HS5, HT5⟩
    case round =>
      clear HX HS5 HT5 HB5
      obtain ⟨q, rfl, hq, HB, HX, HS, HT⟩ := hrel
      have x1 : wr.cell? ⟨gX, 1, none⟩ = some (.slice (some ⟨gS, 0, none⟩) st.length ca') := blk_cell HX.out 1
      by_cases hlt : q < st.length
      · have p1 : ((q : Int) < (st.length : Int)) = True := eq_true (by omega)
        obtain ⟨⟨yk, s0⟩, f0⟩ := HS.out.typ.at_ (q * 5) (by omega)
        have hne : gX ≠ gS := blk_ne HX.out HS.out.typ.choose_spec.1 (by decide)
        have HX2 := Lib.hid (blk_far (p := ⟨gS, q * 5, none⟩) HX.out hne (.int .i64 0))
        have HS2 := Lib.hid (HS.out.kind q (.int .i64 0))
        have HB2 := Lib.hid (HB.out.setCell (p := ⟨gS, q * 5, none⟩) hgS (.int .i64 0))
        have HT2 : Hid (0 < tr.length → B' = some ⟨gT, 0, none⟩ ∧ TypAt (wr.setCell ⟨gS, q * 5, none⟩ (.int .i64 0)) gT 56 (tr.length * 6)) := Lib.hid (fun h => ⟨(HT.out h).1, (HT.out h).2.set _ _ _⟩)
        clear HX HS HB HT hne
        go_wp2_with fail
        generalize wr.setCell ⟨gS, q * 5, none⟩ (.int .i64 0) = w6 at HX2 HS2 HB2 HT2 ⊢
        clear x1 s0 f0
        have hmem := HSl.out _ (rdS_mem st q hlt)
        have HAt := Lib.hid (st_at hlt)
        generalize PAll.rd_T54 st (q : Int) = s at hmem HAt
        go_loopw [9] (fun i wr => ∃ k : Nat, i = .int .i64 k ∧ k ≤ s.f2.length ∧ Hid (Below w3.heap.size w3 wr) ∧ Hid (wr.heap[gX]? = some (.cells #[.int .i64 v, .slice (some ⟨gS, 0, none⟩) st.length ca', .slice B' tr.length cb'] 47 (0, 0))) ∧ Hid (Shp wr w3.heap.size gS st) ∧ Hid (0 < tr.length → B' = some ⟨gT, 0, none⟩ ∧ TypAt wr gT 56 (tr.length * 6))) (fun i _ => s.f2.length - (intOf i).toNat)
        case atStart => exact ⟨0, rfl, Nat.zero_le _, HB2, HX2, HS2, HT2⟩
        case round =>
          clear HX2 HS2 HB2 HT2
          obtain ⟨k, rfl, hk, HB, HX, HS, HT⟩ := hrel
          have x1 : wr.cell? ⟨gX, 1, none⟩ = some (.slice (some ⟨gS, 0, none⟩) st.length ca') := blk_cell HX.out 1
          obtain ⟨A2, c2, s2, hrow⟩ := HS.out.row q s HAt.out
          by_cases hkl : k < s.f2.length
          · have p2 : ((k : Int) < (s.f2.length : Int)) = True := eq_true (by omega)
            obtain ⟨b, rfl, hb, hne, hty⟩ := hrow (by omega)
            obtain ⟨⟨yk, s0⟩, f0⟩ := hty.at_ k hkl
            have hneX : gX ≠ b := blk_ne HX.out hty.choose_spec.1 (by decide)
            have HX2 := Lib.hid (blk_far (p := ⟨b, k, none⟩) HX.out hneX (.int .i64 99))
            have HS2 := Lib.hid (HS.out.far hne k (.int .i64 99))
            have HB2 := Lib.hid (HB.out.setCell (p := ⟨b, k, none⟩) hb (.int .i64 99))
            have HT2 : Hid (0 < tr.length → B' = some ⟨gT, 0, none⟩ ∧ TypAt (wr.setCell ⟨b, k, none⟩ (.int .i64 99)) gT 56 (tr.length * 6)) := Lib.hid (fun h => ⟨(HT.out h).1, (HT.out h).2.set _ _ _⟩)
            clear HX HS HB HT hne hneX hty
            go_wp2_with fail
            go_roundw
            case rel => exact ⟨k + 1, by go_num, by omega, HB2, HX2, HS2, HT2⟩
            case measure => simp [intOf]; omega
          · obtain rfl : k = s.f2.length := by omega
            have p2 : ((s.f2.length : Int) < (s.f2.length : Int)) = False := eq_false (by omega)
            clear hrow
            go_wp2_with fail
            go_roundw
            case rel => exact ⟨q + 1, by go_num, by omega, HB, HX, HS, HT⟩
            case measure => simp [intOf]; omega
      · obtain rfl : q = st.length := by omega
        have p1 : ((st.length : Int) < (st.length : Int)) = False := eq_false (by omega)
        go_wp2_with fail
        go_loopw [10] (fun i wr => ∃ k : Nat, i = .int .i64 k ∧ k ≤ tr.length ∧ Hid (Below w3.heap.size w3 wr) ∧ Hid (wr.heap[gX]? = some (.cells #[.int .i64 v, .slice (some ⟨gS, 0, none⟩) st.length ca', .slice B' tr.length cb'] 47 (0, 0))) ∧ Hid (0 < tr.length → B' = some ⟨gT, 0, none⟩ ∧ TypAt wr gT 56 (tr.length * 6))) (fun i _ => tr.length - (intOf i).toNat)
        case atStart => exact ⟨0, rfl, Nat.zero_le _, HB, HX, HT⟩
        case round =>
          clear HB HX HT HS x1 p1
          obtain ⟨k, rfl, hk, HB, HX, HT⟩ := hrel
          have x2 : wr.cell? ⟨gX, 2, none⟩ = some (.slice B' tr.length cb') := blk_cell HX.out 2
          by_cases hkl : k < tr.length
          · have p2 : ((k : Int) < (tr.length : Int)) = True := eq_true (by omega)
            obtain ⟨hB', hty⟩ := HT.out (by omega)
            obtain ⟨⟨yk, s0⟩, f0⟩ := hty.at_ (k * 6) (by omega)
            have hneX : gX ≠ gT := blk_ne HX.out hty.choose_spec.1 (by decide)
            have HX2 := Lib.hid (blk_far (p := ⟨gT, k * 6, none⟩) HX.out hneX (.int .i64 99))
            have HB2 := Lib.hid (HB.out.setCell (p := ⟨gT, k * 6, none⟩) hgT (.int .i64 99))
            have HT2 : Hid (0 < tr.length → B' = some ⟨gT, 0, none⟩ ∧ TypAt (wr.setCell ⟨gT, k * 6, none⟩ (.int .i64 99)) gT 56 (tr.length * 6)) := Lib.hid (fun h => ⟨(HT.out h).1, (HT.out h).2.set _ _ _⟩)
            clear HX HB HT hneX hty
            rw [hB'] at x2
            go_wp2_with fail
            go_roundw
            case rel => exact ⟨k + 1, by go_num, by omega, HB2, HX2, HT2⟩
            case measure => simp [intOf]; omega
          · obtain rfl : k = tr.length := by omega
            have p2 : ((tr.length : Int) < (tr.length : Int)) = False := eq_false (by omega)
            go_wp2_with fail
            have HT6 := Lib.hid (HT3.out.below HB.out)
            have HB6 := Lib.hid (below_then HB3.out HB3.out.size HB.out)
            have hk := (HB6.out.block _ (lt_of_block HG.out)).trans HG.out
            obtain ⟨y0, y1, y2⟩ : wr.cell? ⟨w.heap.size, 0, none⟩ = some (.int .i64 v) ∧ wr.cell? ⟨w.heap.size, 1, none⟩ = some (.slice A st.length ca) ∧ wr.cell? ⟨w.heap.size, 2, none⟩ = some (.slice B tr.length cb) := ⟨blk_cell hk 0, blk_cell hk 1, blk_cell hk 2⟩
            have HB7 := Lib.hid (below_drew HB6.out)
            have hk7 : wr.drew.heap[w.heap.size]? = some (.cells #[.int .i64 v, .slice A st.length ca, .slice B tr.length cb] 47 (0, 0)) := hk
            clear hk HX HT HB x2
            refine start_ (n := 8) (S := fun w' => w'.cell? ⟨w.heap.size, 0, none⟩ = some (.int .i64 v) ∧ w'.cell? ⟨w.heap.size, 1, none⟩ = some (.slice A st.length ca) ∧ w'.cell? ⟨w.heap.size, 2, none⟩ = some (.slice B tr.length cb)) (ds := [5]) #[false, false, false, false, false, false, false, false] (by kernel_rfl) rfl rfl ⟨y0, y1, y2⟩ (fun hHeld => ?_)
            refine pure_ (i := 0) (N := some 78) (v := ?_) (a' := ?_) #[true, false, false, false, false, false, false, false] rfl rfl (by kernel_rfl) (fun _ _ _ h => h) (Or.inl ⟨by rfl, ?_⟩) ?_ ?_
            rotate_left
            · intro w'
              go_simp
              with_reducible rfl
            rotate_left
            · simp only [Act.put, List.setIfInBounds_toArray, List.set_cons_zero, List.set_cons_succ, i64_w, i32_w]
              rfl
            refine pure_ (i := 1) (N := some 79) (v := ?_) (a' := ?_) #[true, true, false, false, false, false, false, false] rfl rfl (by kernel_rfl) (fun _ _ _ h => h) (Or.inl ⟨by rfl, ?_⟩) ?_ ?_
            rotate_left
            · intro w'
              go_simp
              with_reducible rfl
            rotate_left
            · simp only [Act.put, List.setIfInBounds_toArray, List.set_cons_zero, List.set_cons_succ, i64_w, i32_w]
              rfl
            refine pure_ (i := 2) (N := some 80) (v := ?_) (a' := ?_) #[true, true, true, false, false, false, false, false] rfl rfl (by kernel_rfl) (fun _ _ _ h => h) (Or.inl ⟨by rfl, ?_⟩) ?_ ?_
            rotate_left
            · intro w'
              go_simp
              with_reducible rfl
            rotate_left
            · simp only [Act.put, List.setIfInBounds_toArray, List.set_cons_zero, List.set_cons_succ, i64_w, i32_w]
              rfl
            refine take_ (i := 4) (N := some 82) (v := ?_) (a' := ?_) #[true, true, true, false, true, false, false, false] rfl rfl (by kernel_rfl) (fun _ _ _ h => h) (Or.inl ⟨by rfl, ?_⟩) hHeld ?_ ?_
            rotate_left
            · rintro w' ⟨s0, s1, s2⟩
              go_simp
              with_reducible rfl
            rotate_left
            · simp only [Act.put, List.setIfInBounds_toArray, List.set_cons_zero, List.set_cons_succ, i64_w, i32_w]
              rfl
            refine one_ (i := 3) (N := some 81) #[true, true, true, true, true, false, false, false] rfl rfl (by kernel_rfl) (by decide) (fun K hK => ?_)
            refine goes_ Tryz.func27 (by kernel_rfl) rfl #[.pointer (some ⟨g, 0, none⟩)] (by rfl) rfl rfl (by first | rfl | (go_simp; done) | (go_simp; exact ⟨rfl, rfl⟩) | (go_simp; rfl)) ?_
            refine (tchart_any (HT6.out.below (below_drew (Below.refl _ _))) (by omega) (by omega) (by omega) HSl.out HTl.out).mono ?_
            rintro e1 w8 ⟨gS2, ca2, B2, cb2, rfl, hM8, hb8, _⟩
            have hk8 := (hb8.block _ (lt_of_block (show (wr.drew).heap[w.heap.size]? = _ from hk7))).trans hk7
            refine ⟨_, rfl, hK.out _ _ ⟨blk_cell hk8 0, blk_cell hk8 1, blk_cell hk8 2⟩ (fun _ => ?_)⟩
            clear hK K hk8
            have HM8 := Lib.hid hM8
            have HB8 := Lib.hid (below_then HB7.out HB7.out.size hb8)
            clear hM8 hb8
            refine last_ (i := 5) (N := some 83) #[true, true, true, true, true, true, false, false] rfl rfl (by kernel_rfl) (by decide) (fun K hK => ?_)
            refine goes_ Tryz.func28 (by kernel_rfl) rfl #[ckV v (some ⟨gS2, 0, none⟩) B2 st.length tr.length ca2 cb2, ckV v A B st.length tr.length ca cb] (by rfl) rfl rfl (by first | rfl | (go_simp; done) | (go_simp; exact ⟨rfl, rfl⟩) | (go_simp; rfl)) ?_
            refine (same_any v (some ⟨gS2, 0, none⟩) B2 A B ca2 cb2 ca cb st tr (by omega) (by omega) HSl.out HTl.out _ HM8.out (HM.out.below HB8.out)).mono ?_
            rintro e1 w9 ⟨rfl, hb9⟩
            refine ⟨_, rfl, hK.out _ _ ?_⟩
            clear hK K
            have HB9 := Lib.hid (below_then HB8.out HB8.out.size hb9)
            clear hb9
            refine pure_ (i := 6) (N := some 84) (v := ?_) (a' := ?_) #[true, true, true, true, true, true, true, false] rfl rfl (by kernel_rfl) (fun _ _ _ h => h) (Or.inl ⟨by rfl, ?_⟩) ?_ ?_
            rotate_left
            · intro w'
              go_simp
              with_reducible rfl
            rotate_left
            · simp only [Act.put, List.setIfInBounds_toArray, List.set_cons_zero, List.set_cons_succ, i64_w, i32_w]
              rfl
            refine pure_ (i := 7) (N := some 2) (v := ?_) (a' := ?_) #[true, true, true, true, true, true, true, true] rfl rfl (by kernel_rfl) (fun _ _ _ h => h) (Or.inl ⟨by rfl, ?_⟩) ?_ ?_
            rotate_left
            · intro w'
              go_simp
              with_reducible rfl
            rotate_left
            · simp only [Act.put, List.setIfInBounds_toArray, List.set_cons_zero, List.set_cons_succ, i64_w, i32_w]
              rfl
            refine done_ (by kernel_rfl) ?_
            go_wp2_with fail
            go_ret
            exact ⟨rfl, HFin.out _ HB9.out⟩
end Go.Proofs.YtemoonhnncopoaaGreatDoor
end
section
set_option linter.unusedVariables false
set_option linter.unusedSimpArgs false
namespace Go.Proofs.YtemoonhnncopoaaGreatDoor
open Go.ChangeShapes Go.WideShapes Go.RowKit PX Go.Proofs.YtemoonhnncopoaaGreatDoorW.PrintWords
namespace Door
abbrev laid5 : List (String × DataW Unit) := [("math/bits.deBruijn32tab", Rows.laid_math_bits_deBruijn32tab), ("math/bits.deBruijn64tab", Rows.laid_math_bits_deBruijn64tab), ("internal/strconv.uint64pow10", Rows.laid_internal_strconv_uint64pow10), ("strconv.ErrRange", Rows.laid_strconv_ErrRange), ("strconv.ErrSyntax", Rows.laid_strconv_ErrSyntax)]
theorem gRange : Tryz.prog.globalNamed "strconv.ErrRange" = some 3 := by kernel_rfl
theorem gRangeT : (Tryz.prog.globals[3]?).map (·.type) = some 37 := by kernel_rfl
theorem gPow : Tryz.prog.globalNamed "internal/strconv.uint64pow10" = some 4 := by kernel_rfl
theorem gPowT : (Tryz.prog.globals[4]?).map (·.type) = some 261 := by kernel_rfl
theorem powT : Tryz.prog.underlying 261 = some (.array 20 170) := by kernel_rfl
theorem powIs {H : Type} : (Rows.laid_internal_strconv_uint64pow10 : DataW H) = Lib.tabData .u64 Lib.pow10Tab := rfl
theorem laid_of_met5 {W : World} (h : laidMet Tryz.prog laid5 W) : Laid W := by
  obtain ⟨g, t, cs, fuel, p, h1, h2, h3, h4⟩ := Lib.laidMet.reads h (n := "strconv.ErrRange") (d := Rows.laid_strconv_ErrRange) (.tail _ (.tail _ (.tail _ (.head _))))
  obtain rfl := Option.some.inj (gRange.symm.trans h1)
  obtain rfl := Option.some.inj (gRangeT.symm.trans h2)
  obtain ⟨_, u, v, he, _, _⟩ := iface_of_trod Tryz.underlying37 h4
  have hc : cs = #[.iface u v] := Array.eq_one_of_toList he
  subst hc
  obtain ⟨g, t, cs, fuel, p, k1, k2, k3, k4⟩ := Lib.laidMet.reads h (n := "internal/strconv.uint64pow10") (d := Rows.laid_internal_strconv_uint64pow10) (.tail _ (.tail _ (.head _)))
  obtain rfl := Option.some.inj (gPow.symm.trans k1)
  obtain rfl := Option.some.inj (gPowT.symm.trans k2)
  refine ⟨⟨u, v, h3⟩, ?_⟩
  unfold Lib.TabIs
  rw [powIs] at k4
  rw [k3, ← Lib.cells_of_tab powT (by kernel_rfl) (by kernel_rfl) (by kernel_rfl) k4]
theorem laid_of5 {W : World} (h : laidMetH Tryz.prog laid5 W) : Laid W := laid_of_met5 (laidMetH_iff.1 h).1
def cellsOfData : DataW Unit → Array Value
  | .agg l => (l.map fun | .lit (.int k z) => Value.int k z | _ => .nilIface).toArray
  | _ => #[]
noncomputable def laidWorld (os : Os) : World :=
  let N := (World.holding Tryz.prog os ⟨#[], #[], []⟩).heap.size
  let w0 := World.holding Tryz.prog os ⟨#[.cells #[.string ⟨#[118, 97, 108, 117, 101, 32, 111, 117, 116, 32, 111, 102, 32, 114, 97, 110, 103, 101]⟩] 253, .cells #[.string ⟨#[105, 110, 118, 97, 108, 105, 100, 32, 115, 121, 110, 116, 97, 120]⟩] 253], #[], []⟩
  let put (h : Array Obj) (g : Nat) (cs : Array Value) : Array Obj := h.modify g fun
    | .cells _ t frozen => .cells cs t frozen
    | o => o
  { w0 with heap := put (put (put (put (put (put w0.heap
      1 (cellsOfData Rows.laid_math_bits_deBruijn32tab)) 5 (cellsOfData Rows.laid_math_bits_deBruijn64tab)) 4 (cellsOfData Rows.laid_internal_strconv_uint64pow10))
      0 #[.iface 213 (.agg #[.pointer (some ⟨6, 37, none⟩)])]) 3 #[.iface 251 (.pointer (some ⟨N, 0, none⟩))]) 2 #[.iface 251 (.pointer (some ⟨N + 1, 0, none⟩))] }
theorem met5 (os : Os) (args : Array Value) : laidMet Tryz.prog laid5 ((laidWorld os).forCall (fun _ _ => 0) ⟨#[], args, []⟩).memory :=
  laidMet_of_run3 10 (by kernel_rfl) (by kernel_rfl) (by kernel_rfl)
theorem met5H (os : Os) (args : Array Value) : laidMetH Tryz.prog laid5 ((laidWorld os).forCall (fun _ _ => 0) ⟨#[], args, []⟩).memory :=
  laidMetH_of_parts (met5 os args) (by kernel_rfl)
end Door
end Go.Proofs.YtemoonhnncopoaaGreatDoor
end
