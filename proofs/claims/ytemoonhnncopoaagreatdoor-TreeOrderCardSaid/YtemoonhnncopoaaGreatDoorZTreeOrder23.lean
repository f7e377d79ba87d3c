/- Texts of this claim, merged (ChFew, ChLaw, Actone, Tre, Tset, Tbel, Tnew, Tord, Laid5). -/
import Derived.Deep.RegionLawGrows
import Derived.Laws.BitsAllLaws
import Derived.Test.YtemoonhnncopoaaGreatDoorRows
import Derived.LaidSub
import Derived.LaidHandle
import Derived.LaidLaws
import Derived.Lib.LaidU8
import Derived.Deep.DeepLaidRun
import Derived.Test.YtemoonhnncopoaaGreatDoorZTreeOrder14
import Derived.Test.YtemoonhnncopoaaGreatDoorZTreeOrder15
import Derived.Test.YtemoonhnncopoaaGreatDoorZTreeOrder22
import Derived.Test.YtemoonhnncopoaaGreatDoorZTreeOrder18
import Derived.Test.YtemoonhnncopoaaGreatDoorZTreeOrder20
import Derived.Test.YtemoonhnncopoaaGreatDoorZTreeOrder16
import Derived.Test.YtemoonhnncopoaaGreatDoorZTreeOrder21
import Derived.Test.YtemoonhnncopoaaGreatDoorZTreeOrder17
section
set_option linter.unusedVariables false
set_option linter.unusedSimpArgs false
namespace Go.Proofs.YtemoonhnncopoaaGreatDoor
open Go.RowKit Go.Proofs.YtemoonhnncopoaaGreatDoorW.PrintWords
open PX (T V)
def fewAP (l : List Ac) : Bool := (l.all fun a => decide (a.f3.size ≤ 500)) && decide (l.length ≤ 20)
theorem fewA_l0 (l : List Ac) (hl : l.length ≤ 9223372036854775807) (d : Nat) : ∀ a : Nat, a ≤ l.length → l.length - a = d → Ev (fun k => PAll.spinetref05_fewActs.l0 k l a) (((l.drop a).all fun x => decide (x.f3.size ≤ 500)) && decide (l.length ≤ 20)) := by
  induction d with
  | zero =>
    intro a ha hd
    obtain rfl : a = l.length := by omega
    refine Ev.step (fun k => rfl) ?_
    simp only [PAll.spinetref05_fewActs.l0]
    refine ev_neg (by omega) ?_
    have : (((l.drop l.length).all fun x => decide (x.f3.size ≤ 500)) && decide (l.length ≤ 20)) = decide ((l.length : Int) ≤ 20) := by
      rw [List.drop_length]
      simp
      omega
    rw [this]
    exact Ev.now _
  | succ d ih =>
    intro a ha hd
    have hlt : a < l.length := by omega
    refine Ev.step (fun k => rfl) ?_
    simp only [PAll.spinetref05_fewActs.l0]
    have hr : PAll.rd_T80 l (a : Int) = l[a] := by simp [PAll.rd_T80, List.getD_eq_getElem?_getD, List.getElem?_eq_getElem hlt]
    rw [hr, List.drop_eq_getElem_cons hlt]
    refine ev_pos (by omega) (ev_pos (by omega) ?_)
    by_cases h5 : 500 < l[a].f3.size
    · have : ((l[a] :: l.drop (a + 1)).all fun x => decide (x.f3.size ≤ 500)) = false := by
        rw [List.all_cons, decide_eq_false (by omega)]
        rfl
      rw [this]
      exact ev_pos (by omega) (Ev.now _)
    · refine ev_neg (by omega) ?_
      rw [w64 (by omega) (by omega)]
      rw [List.all_cons, decide_eq_true (show l[a].f3.size ≤ 500 by omega)]
      exact ih (a + 1) (by omega) (by omega)
theorem fewA_ev (l : List Ac) (hl : l.length ≤ 9223372036854775807) : Ev (fun k => PAll.spinetref05_fewActs.f k l) (fewAP l) := by
  have h := fewA_l0 l hl l.length 0 (by omega) (by omega)
  rw [List.drop_zero] at h
  exact h
def fewS (x : Sta) : Bool := fewAP x.f3 && fewAP x.f4 && decide (x.f2.length ≤ 20)
def fewT (x : Tra) : Bool := fewAP x.f5 && decide (x.f3.length ≤ 20) && decide (x.f2.size ≤ 500)
def fewP (st : List Sta) (tr : List Tra) : Bool := decide (st.length ≤ 40) && decide (tr.length ≤ 60) && st.all fewS && tr.all fewT
theorem few_l1 (v : Int) (st : List Sta) (tr : List Tra) (hT : ∀ x ∈ tr, x.f5.length ≤ 9223372036854775807) (hl : tr.length ≤ 60) (d : Nat) : ∀ a : Nat, a ≤ tr.length → tr.length - a = d →
    Ev (fun k => PAll.spinetref05_Few.l1 k a v st tr) ((tr.drop a).all fewT) := by
  induction d with
  | zero =>
    intro a ha hd
    obtain rfl : a = tr.length := by omega
    refine Ev.step (fun k => rfl) ?_
    simp only [PAll.spinetref05_Few.l1]
    rw [List.drop_length]
    exact ev_neg (by omega) (Ev.now _)
  | succ d ih =>
    intro a ha hd
    have hlt : a < tr.length := by omega
    refine Ev.step (fun k => rfl) ?_
    simp only [PAll.spinetref05_Few.l1]
    have hr : PAll.rd_T56 tr (a : Int) = tr[a] := by simp [PAll.rd_T56, List.getD_eq_getElem?_getD, List.getElem?_eq_getElem hlt]
    rw [hr, List.drop_eq_getElem_cons hlt, List.all_cons]
    refine ev_pos (by omega) (ev_pos (by omega) (Ev.bind (fewA_ev _ (hT _ (List.getElem_mem hlt))) ?_))
    cases h1 : fewAP tr[a].f5 with
    | false => exact ev_is (by simp [fewT, h1]) (ev_neg (by simp) (Ev.now _))
    | true =>
      refine ev_pos rfl ?_
      by_cases h2 : 20 < tr[a].f3.length
      · exact ev_is (by simp [fewT]; omega) (ev_pos (by omega) (Ev.now false))
      · refine ev_neg (by omega) ?_
        by_cases h3 : 500 < tr[a].f2.size
        · exact ev_is (by simp [fewT]; omega) (ev_pos (by omega) (Ev.now false))
        · refine ev_neg (by omega) ?_
          rw [w64 (by omega) (by omega)]
          refine ev_is ?_ (ih (a + 1) (by omega) (by omega))
          have : fewT tr[a] = true := by simp [fewT, h1]; omega
          rw [this, Bool.true_and]
theorem few_l0 (v : Int) (st : List Sta) (tr : List Tra) (hS : ∀ x ∈ st, x.f3.length ≤ 9223372036854775807 ∧ x.f4.length ≤ 9223372036854775807) (hT : ∀ x ∈ tr, x.f5.length ≤ 9223372036854775807) (hl : tr.length ≤ 60) (hn : st.length ≤ 40) (d : Nat) : ∀ a : Nat, a ≤ st.length → st.length - a = d →
    Ev (fun k => PAll.spinetref05_Few.l0 k a v st tr) ((st.drop a).all fewS && tr.all fewT) := by
  induction d with
  | zero =>
    intro a ha hd
    obtain rfl : a = st.length := by omega
    refine Ev.step (fun k => rfl) ?_
    simp only [PAll.spinetref05_Few.l0]
    rw [List.drop_length]
    have h := few_l1 v st tr hT hl tr.length 0 (by omega) (by omega)
    rw [List.drop_zero] at h
    exact ev_neg (by omega) h
  | succ d ih =>
    intro a ha hd
    have hlt : a < st.length := by omega
    refine Ev.step (fun k => rfl) ?_
    simp only [PAll.spinetref05_Few.l0]
    have hr : PAll.rd_T54 st (a : Int) = st[a] := by simp [PAll.rd_T54, List.getD_eq_getElem?_getD, List.getElem?_eq_getElem hlt]
    rw [hr, List.drop_eq_getElem_cons hlt, List.all_cons]
    refine ev_pos (by omega) (ev_pos (by omega) (Ev.bind (fewA_ev _ (hS _ (List.getElem_mem hlt)).1) (Ev.bind (fewA_ev _ (hS _ (List.getElem_mem hlt)).2) ?_)))
    cases h1 : fewAP st[a].f3 with
    | false => exact ev_is (by simp [fewS, h1]) (ev_neg (by simp) (Ev.now _))
    | true =>
      refine ev_pos rfl ?_
      cases h2 : fewAP st[a].f4 with
      | false => exact ev_is (by simp [fewS, h2]) (ev_neg (by simp) (Ev.now _))
      | true =>
        refine ev_pos rfl ?_
        by_cases h3 : 20 < st[a].f2.length
        · exact ev_is (by simp [fewS]; omega) (ev_pos (by omega) (Ev.now false))
        · refine ev_neg (by omega) ?_
          rw [w64 (by omega) (by omega)]
          refine ev_is ?_ (ih (a + 1) (by omega) (by omega))
          have : fewS st[a] = true := by simp [fewS, h1, h2]; omega
          rw [this, Bool.true_and]
theorem few_ev (v : Int) (st : List Sta) (tr : List Tra) (hS : ∀ x ∈ st, x.f3.length ≤ 9223372036854775807 ∧ x.f4.length ≤ 9223372036854775807) (hT : ∀ x ∈ tr, x.f5.length ≤ 9223372036854775807) : Ev (fun k => PAll.spinetref05_Few.f k v st tr) (fewP st tr) := by
  have stop : ∀ x : Bool, x = true → Ev (fun k => PAll.spinetref05_Few.j0 k x v st tr) false := by
    intro x hx
    refine Ev.step (fun k => rfl) ?_
    simp only [PAll.spinetref05_Few.j0]
    exact ev_pos hx (Ev.now _)
  unfold PAll.spinetref05_Few.f
  by_cases h1 : 40 < st.length
  · exact ev_is (by simp [fewP]; omega) (ev_pos (by omega) (stop _ rfl))
  · refine ev_neg (by omega) ?_
    by_cases h2 : 60 < tr.length
    · exact ev_is (by simp [fewP]; omega) (stop _ (decide_eq_true (by omega)))
    · have h := few_l0 v st tr hS hT (by omega) (by omega) st.length 0 (by omega) (by omega)
      rw [List.drop_zero] at h
      rw [decide_eq_false (show ¬ ((tr.length : Int) > 60) by omega)]
      refine Ev.step (fun k => rfl) ?_
      simp only [PAll.spinetref05_Few.j0]
      refine ev_neg (by simp) (ev_is ?_ h)
      simp only [fewP]
      rw [decide_eq_true (show st.length ≤ 40 by omega), decide_eq_true (show tr.length ≤ 60 by omega)]
      simp
theorem few_of {st : List Sta} {tr : List Tra} (h : fewP st tr = true) : FewC st tr ∧ st.length ≤ 40 ∧ tr.length ≤ 60 := by
  simp only [fewP, Bool.and_eq_true, decide_eq_true_eq, List.all_eq_true] at h
  obtain ⟨⟨⟨h1, h2⟩, h3⟩, h4⟩ := h
  refine ⟨⟨fun x hx => ?_, fun x hx => ?_⟩, h1, h2⟩
  · have := h3 x hx
    simp only [fewS, fewAP, Bool.and_eq_true, decide_eq_true_eq, List.all_eq_true] at this
    obtain ⟨⟨⟨a1, a2⟩, b1, b2⟩, _⟩ := this
    refine ⟨by omega, by omega, fun a ha => ?_⟩
    rcases List.mem_append.1 ha with ha | ha
    · have := a1 a ha; omega
    · have := b1 a ha; omega
  · have := h4 x hx
    simp only [fewT, fewAP, Bool.and_eq_true, decide_eq_true_eq, List.all_eq_true] at this
    obtain ⟨⟨⟨a1, a2⟩, _⟩, c1⟩ := this
    exact ⟨by omega, fun a ha => by have := a1 a ha; omega⟩
section
variable {A B : Option Addr} {ca cb : Nat} {st : List Sta} {tr : List Tra} {w : World}
theorem cs_len (h : ChM w A ca st B cb tr) : ∀ x ∈ st, x.f3.length ≤ 9223372036854775807 ∧ x.f4.length ≤ 9223372036854775807 := by
  intro x hx
  obtain ⟨q, hq, rfl⟩ := List.mem_iff_getElem.1 hx
  obtain ⟨ad, A2, c2, A3, c3, A4, c4, _, _, _, _, _, _, l3, g3, l4, g4⟩ := state_full h (q : Int) (by omega) (by omega)
  have hr : PAll.rd_T54 st (q : Int) = st[q] := by simp [PAll.rd_T54, List.getD_eq_getElem?_getD, List.getElem?_eq_getElem hq]
  rw [hr] at g3 g4
  exact ⟨g3.2.1, g4.2.1⟩
theorem ct_len (h : ChM w A ca st B cb tr) : ∀ x ∈ tr, x.f5.length ≤ 9223372036854775807 := by
  intro x hx
  obtain ⟨q, hq, rfl⟩ := List.mem_iff_getElem.1 hx
  obtain ⟨ad, A3, c3, A5, c5, _, _, _, _, _, _, _, l3, g3, l5, g5⟩ := PAll.at_T56 h.ct (q : Int) (by omega) (by omega)
  have hr : PAll.rd_T56 tr (q : Int) = tr[q] := by simp [PAll.rd_T56, List.getD_eq_getElem?_getD, List.getElem?_eq_getElem hq]
  rw [hr] at g5
  exact g5.2.1
theorem fewc_any (h : ChM w A ca st B cb tr) (v : Int) : Calls Tryz.prog 25 #[ckV v A B st.length tr.length ca cb] w fun e w' => e = .returned (.bool (fewP st tr)) ∧ Below w.heap.size w w' := by
  obtain ⟨k, hk⟩ := Ev.rounds (few_ev v st tr (cs_len h) (ct_len h))
  exact PAll.spinetref05_Few.calls k v A ca st B cb tr _ w h.cs h.sc h.ct h.tc hk
end
abbrev ActT := Int × Int × Int × ByteArray × Unit
abbrev StaT := Int × Int × List Int × List ActT × List ActT × Unit
abbrev TraT := Int × Int × ByteArray × List Int × Bool × List ActT × Unit
def RSta : Rep StaT := (Rep.int .i64).pair ((Rep.int .i64).pair ((Rep.int .i64).slice.pair (RAct.slice.pair (RAct.slice.pair Rep.unit))))
def RTra : Rep TraT := (Rep.int .i64).pair ((Rep.int .i64).pair (Rep.str.pair ((Rep.int .i64).slice.pair (Rep.bool.pair (RAct.slice.pair Rep.unit)))))
def RChart : Rep (Int × List StaT × List TraT × Unit) := (Rep.int .i64).pair (RSta.slice.pair (RTra.slice.pair Rep.unit))
theorem ints_reads : Reads Tryz.prog 27 (Rep.int .i64).slice := reads_slice Tryz.underlying27 (by kernel_rfl) (reads_int Tryz.underlying3 (by kernel_rfl)) (by decide)
theorem acts_reads : Reads Tryz.prog 22 RAct.slice := reads_slice Tryz.underlying22 (by kernel_rfl) RAct.reads (by decide)
set_option maxRecDepth 100000 in
theorem RSta.reads : Reads Tryz.prog 54 RSta :=
  reads_struct Tryz.underlying54 (fields_cons rfl (reads_int Tryz.underlying3 (by kernel_rfl)) (fields_cons rfl (reads_int Tryz.underlying3 (by kernel_rfl)) (fields_cons rfl ints_reads (fields_cons rfl acts_reads (fields_cons rfl acts_reads (fields_nil _ _)))))) (by kernel_rfl)
set_option maxRecDepth 100000 in
theorem RTra.reads : Reads Tryz.prog 56 RTra :=
  reads_struct Tryz.underlying56 (fields_cons rfl (reads_int Tryz.underlying3 (by kernel_rfl)) (fields_cons rfl (reads_int Tryz.underlying3 (by kernel_rfl)) (fields_cons rfl (reads_str Tryz.underlying9 (by kernel_rfl)) (fields_cons rfl ints_reads (fields_cons rfl (reads_bool Tryz.underlying4 (by kernel_rfl)) (fields_cons rfl acts_reads (fields_nil _ _))))))) (by kernel_rfl)
set_option maxRecDepth 100000 in
theorem RChart.reads : Reads Tryz.prog 47 RChart :=
  reads_struct Tryz.underlying47 (fields_cons rfl (reads_int Tryz.underlying3 (by kernel_rfl)) (fields_cons rfl (reads_slice Tryz.underlying44 (by kernel_rfl) RSta.reads (by decide)) (fields_cons rfl (reads_slice Tryz.underlying45 (by kernel_rfl) RTra.reads (by decide)) (fields_nil _ _)))) (by kernel_rfl)
def acOf (t : ActT) : Ac := ⟨t.1, t.2.1, t.2.2.1, t.2.2.2.1⟩
def staOf (t : StaT) : Sta := ⟨t.1, t.2.1, t.2.2.1.map id, t.2.2.2.1.map acOf, t.2.2.2.2.1.map acOf⟩
def traOf (t : TraT) : Tra := ⟨t.1, t.2.1, t.2.2.1, t.2.2.2.1.map id, t.2.2.2.2.1, t.2.2.2.2.2.1.map acOf⟩
theorem repK_act : RepK RAct PAll.k80 acOf := by
  intro F w cs x h
  obtain ⟨c1, d1, rfl, _, ⟨rfl, _⟩, c2, d2, rfl, _, ⟨rfl, _⟩, c3, d3, rfl, _, ⟨rfl, _⟩, c4, d4, rfl, _, ⟨rfl, _⟩, rfl⟩ := h
  exact PAll.k80_mk w (acOf x)
theorem repK_sta : RepK RSta PAll.k54 staOf := by
  intro F w cs x h
  obtain ⟨c1, d1, rfl, _, ⟨rfl, _⟩, c2, d2, rfl, _, ⟨rfl, _⟩, c3, d3, rfl, _, h3, c4, d4, rfl, _, h4, c5, d5, rfl, _, h5, rfl⟩ := h
  obtain ⟨A2, n2, rfl, l2, g2⟩ := repK_slice 3 (repK_int .i64) rfl _ _ _ _ h3
  obtain ⟨A3, n3, rfl, l3, g3⟩ := repK_slice 80 repK_act rfl _ _ _ _ h4
  obtain ⟨A4, n4, rfl, l4, g4⟩ := repK_slice 80 repK_act rfl _ _ _ _ h5
  exact PAll.k54_mk w (staOf x) (c2 := n2) l2 g2 (c3 := n3) l3 g3 (c4 := n4) l4 g4
theorem repK_tra : RepK RTra PAll.k56 traOf := by
  intro F w cs x h
  obtain ⟨c1, d1, rfl, _, ⟨rfl, _⟩, c2, d2, rfl, _, ⟨rfl, _⟩, c3, d3, rfl, _, ⟨rfl, _⟩, c4, d4, rfl, _, h4, c5, d5, rfl, _, rfl, c6, d6, rfl, _, h6, rfl⟩ := h
  obtain ⟨A3, n3, rfl, l3, g3⟩ := repK_slice 3 (repK_int .i64) rfl _ _ _ _ h4
  obtain ⟨A5, n5, rfl, l5, g5⟩ := repK_slice 80 repK_act rfl _ _ _ _ h6
  exact PAll.k56_mk w (traOf x) (c3 := n3) l3 g3 (c5 := n5) l5 g5
theorem chartArg {w : World} {cs : Array Value} {x : Int × List StaT × List TraT × Unit} (h : RChart.ok (fun b => b < w.heap.size) w cs.toList x) :
    ∃ A ca B cb, ∃ st : List Sta, ∃ tr : List Tra, Value.agg cs = ckV x.1 A B st.length tr.length ca cb ∧ ChM w A ca st B cb tr := by
  obtain ⟨c1, d1, he, _, ⟨rfl, _⟩, c2, d2, rfl, _, h2, c3, d3, rfl, _, h3, rfl⟩ := h
  obtain ⟨A, n, rfl, l, g⟩ := repK_slice 54 repK_sta rfl _ _ _ _ h2
  obtain ⟨B, m, rfl, l', g'⟩ := repK_slice 56 repK_tra rfl _ _ _ _ h3
  refine ⟨A, n, B, m, _, _, ?_, ⟨g, l, g', l'⟩⟩
  have : cs = #[.int .i64 x.1, .slice A (x.2.1.map staOf).length n, .slice B (x.2.2.1.map traOf).length m] := by
    apply Array.ext'
    rw [he]; rfl
  rw [this]
end Go.Proofs.YtemoonhnncopoaaGreatDoor
end
section
set_option linter.unusedVariables false
set_option linter.unusedSimpArgs false
namespace Go.Proofs.YtemoonhnncopoaaGreatDoor
open Go.RowKit Go.Proofs.YtemoonhnncopoaaGreatDoorW.PrintWords
open PX (T V)
theorem chk_none {v : Int} {st : List Sta} {tr : List Tra} (h : chkP v st tr = .none) : (0 ≤ v ∧ v ≤ 8 ∧ 1 ≤ st.length ∧ st.length ≤ 24 ∧ tr.length ≤ 40) ∧ (∀ j : Int, 0 ≤ j → j < (st.length : Int) → stateP v st j = 0) ∧ ∀ j : Int, 0 ≤ j → j < (tr.length : Int) → transP v st (PAll.rd_T56 tr j) = 0 := by
  unfold chkP at h
  split at h
  · cases h
  · rename_i hb
    refine ⟨by omega, ?_⟩
    cases h1 : findBad (stateP v st) st.length 0 with
    | some x => rw [h1] at h; cases h
    | none =>
      rw [h1] at h
      simp only at h
      cases h2 : findBad (fun i => transP v st (PAll.rd_T56 tr i)) tr.length 0 with
      | some x => rw [h2] at h; cases h
      | none =>
        have a1 := (findBad_none _ _ _).1 h1
        have a2 := (findBad_none _ _ _).1 h2
        exact ⟨fun j h1 h2 => a1 j h1 (by omega), fun j h1 h2 => a2 j h1 (by omega)⟩
theorem in_trans {st : List Sta} {b c : Int} (h2 : inC st b c = true) (n : Nat) : ∀ a : Int, a.toNat ≤ n → inC st a b = true → inC st a c = true := by
  obtain ⟨q1, q2, q3⟩ := inC_lt h2
  induction n with
  | zero => intro a h h1; have := inC_lt h1; omega
  | succ n ih =>
    intro a h h1
    have hlt := inC_lt h1
    rw [inC_eq, if_pos (by omega)] at h1
    rw [inC_eq, if_pos (by omega)]
    split at h1
    · cases h1
    · rename_i p1
      rw [if_neg p1]
      split at h1
      · rename_i p2
        rw [p2, if_neg (by omega)]
        exact h2
      · rename_i p2
        split
        · rfl
        · exact ih _ (by omega) h1
end Go.Proofs.YtemoonhnncopoaaGreatDoor
end
section
set_option linter.unusedVariables false
set_option linter.unusedSimpArgs false
namespace Go.Proofs.YtemoonhnncopoaaGreatDoor
open Go.RowKit Go.Proofs.YtemoonhnncopoaaGreatDoorW.PrintWords
open PX (T V)
section
variable {ops : Array Oper} {rest : List Oper} {o : Oper} {a : Act} {Q : Exit → Act → World → Prop}
theorem inn_append {W : World} (hgd : o.guard = none) (s x : Operand)
    (ho : o.op = .call { callee := .builtin .append, args := #[s, x], argTypes := #[27, 27] })
    (B : Nat) (v : Value) (xs : List Int) (p : Int) (hs : a.eval s = v) (N : Nat) (hx : a.eval x = .slice (some ⟨N, 0, none⟩) 1 1) (hN : N = W.heap.size)
    (HO : InnR W B v xs) (hB : B ≤ W.heap.size) (hl : xs.length < 1000000)
    (h : ∀ v1 w1, InnR w1 B v1 (xs ++ [p]) → Below B W w1 → W.grownBy w1 v.ownBlock → wpList Tryz.prog ops Q rest (a.put o.dst v1) w1) :
    wpList Tryz.prog ops Q (o :: rest) a (W.alloc (.cells #[.int .i64 p] 3)) := by
  subst hN
  refine Kd.R_append (Kd.int .i64) (w0 := W) B hgd s x 27 3 (.int .i64 0) 8 ho Tryz.underlying27 (by kernel_rfl) rfl (by decide) (by omega) v xs p [.int .i64 p]
    (fun _ => True) (fun _ => False) hs hx rfl (fun _ hk => hk.elim) (fun _ _ => trivial) HO (Below.refl _ _) hB (by omega) ?_
  intro v1 w1 h1 h2 h3 h4
  exact h v1 w1 h1 h2 h3
end
end Go.Proofs.YtemoonhnncopoaaGreatDoor
end
section
set_option linter.unusedVariables false
set_option linter.unusedSimpArgs false
namespace Go.Proofs.YtemoonhnncopoaaGreatDoor
open Go.RowKit Go.Proofs.YtemoonhnncopoaaGreatDoorW.PrintWords
open PX (T V)
abbrev rdS (st : List Sta) (i : Int) : Sta := PAll.rd_T54 st i
abbrev thS (st : List Sta) (i : Int) : Prop := 0 ≤ i ∧ i < (st.length : Int)
theorem ahead_at {st : List Sta} (ha : Ahead st) {s : Int} (h : thS st s) : (rdS st s).f1 < s ∧ (0 < s → 0 ≤ (rdS st s).f1) := ⟨(ha s h.1 h.2).1, (ha s h.1 h.2).2.1⟩
def kindP (st : List Sta) (s : Int) : Int := if thS st s then (rdS st s).f0 else 0
def upF (st : List Sta) : Nat → Int → List Int
  | 0, _ => []
  | f + 1, s => if thS st s ∧ 0 ≤ (rdS st s).f1 then (rdS st s).f1 :: upF st f (rdS st s).f1 else []
def upP (st : List Sta) (s : Int) : List Int := upF st (s.toNat + 1) s
theorem upF_two {st : List Sta} (ha : Ahead st) (n : Nat) : ∀ (s : Int) (f g : Nat), s.toNat < f → s.toNat < g → s.toNat ≤ n → upF st f s = upF st g s := by
  induction n with
  | zero =>
    intro s f g hf hg hn
    cases f with
    | zero => omega
    | succ f =>
      cases g with
      | zero => omega
      | succ g =>
        simp only [upF]
        by_cases c : thS st s ∧ 0 ≤ (rdS st s).f1
        · have := (ahead_at ha c.1).1; omega
        · rw [if_neg c, if_neg c]
  | succ n ih =>
    intro s f g hf hg hn
    cases f with
    | zero => omega
    | succ f =>
      cases g with
      | zero => omega
      | succ g =>
        simp only [upF]
        by_cases c : thS st s ∧ 0 ≤ (rdS st s).f1
        · have := (ahead_at ha c.1).1
          have := c.2
          have := c.1.1
          rw [if_pos c, if_pos c, ih _ f g (by omega) (by omega) (by omega)]
        · rw [if_neg c, if_neg c]
theorem upP_eq {st : List Sta} (ha : Ahead st) (s : Int) : upP st s = if thS st s ∧ 0 ≤ (rdS st s).f1 then (rdS st s).f1 :: upP st (rdS st s).f1 else [] := by
  rw [show upP st s = if thS st s ∧ 0 ≤ (rdS st s).f1 then (rdS st s).f1 :: upF st s.toNat (rdS st s).f1 else [] from rfl]
  unfold upP
  by_cases c : thS st s ∧ 0 ≤ (rdS st s).f1
  · have := (ahead_at ha c.1).1
    have := c.2
    have := c.1.1
    rw [if_pos c, if_pos c, upF_two ha s.toNat _ s.toNat ((rdS st s).f1.toNat + 1) (by omega) (by omega) (by omega)]
  · rw [if_neg c, if_neg c]
theorem inC_low (st : List Sta) (s b : Int) (h : s ≤ b ∨ s ≤ 0 ∨ (st.length : Int) ≤ s) : inC st s b = false := by
  rw [inC_eq, if_neg (by omega)]
theorem up_in {st : List Sta} (ha : Ahead st) (b : Int) (n : Nat) : ∀ s : Int, s.toNat ≤ n → (upP st s).contains b = (decide (0 ≤ b) && inC st s b) := by
  have low : ∀ s : Int, ¬ (thS st s ∧ 0 ≤ (rdS st s).f1) → (upP st s).contains b = (decide (0 ≤ b) && inC st s b) := by
    intro s c
    rw [upP_eq ha, if_neg c, inC_low]
    · simp
    · by_cases h1 : 0 < s ∧ s < (st.length : Int)
      · exact absurd ⟨⟨by omega, h1.2⟩, (ahead_at ha ⟨by omega, h1.2⟩).2 h1.1⟩ c
      · omega
  induction n with
  | zero =>
    intro s hs
    by_cases c : thS st s ∧ 0 ≤ (rdS st s).f1
    · have := (ahead_at ha c.1).1
      have := c.2
      omega
    · exact low s c
  | succ n ih =>
    intro s hs
    by_cases c : thS st s ∧ 0 ≤ (rdS st s).f1
    · have h1 := (ahead_at ha c.1).1
      have h2 := c.2
      have h3 := c.1.2
      rw [upP_eq ha, if_pos c, List.contains_cons, ih _ (by omega), inC_eq st s b]
      by_cases hb : s > b
      · rw [if_pos ⟨hb, by omega, h3⟩, if_neg (by show ¬ ((rdS st s).f1 ≥ s); omega)]
        by_cases he : (rdS st s).f1 = b
        · rw [if_pos he]
          simp [he]
          omega
        · rw [if_neg he]
          have : (b == (rdS st s).f1) = false := by simp; omega
          rw [this, Bool.false_or]
      · rw [if_neg (by omega), inC_low _ _ _ (by omega)]
        have : (b == (rdS st s).f1) = false := by simp; omega
        rw [this]
        simp
    · exact low s c
theorem tin_eq {st : List Sta} (ha : Ahead st) (s b : Int) : (upP st s).contains b = (decide (0 ≤ b) && inC st s b) := up_in ha b s.toNat s (Nat.le_refl _)
theorem upF_len (st : List Sta) (f : Nat) : ∀ s : Int, (upF st f s).length ≤ f := by
  induction f with
  | zero => intro s; simp [upF]
  | succ f ih =>
    intro s
    simp only [upF]
    by_cases c : thS st s ∧ 0 ≤ (rdS st s).f1
    · rw [if_pos c, List.length_cons]; have := ih (rdS st s).f1; omega
    · rw [if_neg c]; simp
def TrM (w : World) (g : Nat) (v : Int) (st : List Sta) (tr : List Tra) : Prop :=
  ∃ A ca B cb, w.heap[g]? = some (.cells #[.int .i64 v, .slice A st.length ca, .slice B tr.length cb] 106 (0, 0)) ∧ ChM w A ca st B cb tr
theorem TrM.below {w w' : World} {g : Nat} {v : Int} {st : List Sta} {tr : List Tra} (h : TrM w g v st tr) (hb : Below w.heap.size w w') : TrM w' g v st tr := by
  obtain ⟨A, ca, B, cb, h1, h2⟩ := h
  exact ⟨A, ca, B, cb, (hb.block g (lt_of_block h1)).trans h1, h2.below hb⟩
section
variable {g : Nat} {v : Int} {st : List Sta} {tr : List Tra} {w : World}
set_option maxHeartbeats 4000000 in
theorem tthere_any (h : TrM w g v st tr) (s : Int) : Calls Tryz.prog 64 #[.pointer (some ⟨g, 0, none⟩), .int .i64 s] w fun e w' => e = .returned (.bool (decide (thS st s))) ∧ Below w.heap.size w w' := by
  obtain ⟨A, ca, B, cb, h1, h2⟩ := h
  have y1 : w.cell? ⟨g, 1, none⟩ = some (.slice A st.length ca) := blk_cell h1 1
  have y0 : w.cell? ⟨g, 0, none⟩ = some (.int .i64 v) := blk_cell h1 0
  clear h1 h2
  by_cases c : 0 ≤ s
  · have d1 : decide (s ≥ 0) = true := decide_eq_true c
    have d1' : decide (0 ≤ s) = true := decide_eq_true c
    by_cases c2 : s < (st.length : Int)
    · have d2 : decide (s < (st.length : Int)) = true := decide_eq_true c2
      have HR : Hid (decide (thS st s) = true) := Lib.hid (decide_eq_true ⟨c, c2⟩)
      clear c c2
      go_enter Tryz.func64, Tryz.ntmps64
      go_wp2_with fail
      go_ret
      exact ⟨by rw [HR.out]; rfl, Below.refl _ _⟩
    · have d2 : decide (s < (st.length : Int)) = false := decide_eq_false c2
      have HR : Hid (decide (thS st s) = false) := Lib.hid (decide_eq_false (fun h => c2 h.2))
      clear c c2
      go_enter Tryz.func64, Tryz.ntmps64
      go_wp2_with fail
      go_ret
      exact ⟨by rw [HR.out]; rfl, Below.refl _ _⟩
  · have d1 : decide (s ≥ 0) = false := decide_eq_false c
    have d1' : decide (0 ≤ s) = false := decide_eq_false c
    have HR : Hid (decide (thS st s) = false) := Lib.hid (decide_eq_false (fun h => c h.1))
    clear c
    go_enter Tryz.func64, Tryz.ntmps64
    go_wp2_with fail
    go_ret
    exact ⟨by rw [HR.out]; rfl, Below.refl _ _⟩
theorem trm_at (h : TrM w g v st tr) {s : Int} (hs : thS st s) : ∃ ad ca, w.cell? ⟨g, 0, none⟩ = some (.int .i64 v) ∧ w.cell? ⟨g, 1, none⟩ = some (.slice (some ad) st.length ca) ∧ w.cell? (ad.add (s.toNat * 5)) = some (.int .i64 (rdS st s).f0) ∧ w.cell? ⟨(ad.add (s.toNat * 5)).block, (ad.add (s.toNat * 5)).off + 1, none⟩ = some (.int .i64 (rdS st s).f1) := by
  obtain ⟨A, ca, B, cb, h1, h2⟩ := h
  obtain ⟨ad, A2, c2, A3, c3, A4, c4, rfl, q0, q1, _⟩ := PAll.at_T54 h2.cs s hs.1 hs.2
  exact ⟨ad, ca, blk_cell h1 0, blk_cell h1 1, q0, q1⟩
set_option maxHeartbeats 4000000 in
theorem tkind_any (h : TrM w g v st tr) (s : Int) : Calls Tryz.prog 31 #[.pointer (some ⟨g, 0, none⟩), .int .i64 s] w fun e w' => e = .returned (.int .i64 (kindP st s)) ∧ Below w.heap.size w w' := by
  have H := Lib.hid h
  by_cases c : thS st s
  · have HR : Hid (kindP st s = (rdS st s).f0) := Lib.hid (if_pos c)
    have HC := Lib.hid c
    have d1 : decide (thS st s) = true := decide_eq_true c
    have D1 := Lib.hid d1
    have p1 : (0 ≤ s) = True := eq_true c.1
    have p2 : (s < (st.length : Int)) = True := eq_true c.2
    clear h d1 c
    go_enter Tryz.func31, Tryz.ntmps31
    go_wp2_with fail
    refine (tthere_any H.out s).mono ?_
    rw [D1.out]
    rintro e w1 ⟨rfl, hb1⟩
    obtain ⟨ad, ca, y0, y1, q0, q1⟩ := trm_at (H.out.below hb1) HC.out
    have HB := Lib.hid hb1
    clear hb1
    go_wp2_with fail
    go_ret
    exact ⟨by rw [HR.out]; rfl, HB.out⟩
  · have HR : Hid (kindP st s = 0) := Lib.hid (if_neg c)
    have D1 : Hid (decide (thS st s) = false) := Lib.hid (decide_eq_false c)
    clear h c
    go_enter Tryz.func31, Tryz.ntmps31
    go_wp2_with fail
    refine (tthere_any H.out s).mono ?_
    rw [D1.out]
    rintro e w1 ⟨rfl, hb1⟩
    go_wp2_with fail
    go_ret
    exact ⟨by rw [HR.out]; rfl, hb1⟩
set_option maxHeartbeats 8000000 in
set_option maxRecDepth 100000 in
theorem tup_any (h : TrM w g v st tr) (ha : Ahead st) (hl : st.length ≤ 1000) (s : Int) : Calls Tryz.prog 57 #[.pointer (some ⟨g, 0, none⟩), .int .i64 s] w fun e w' => ∃ u : Value, e = .returned u ∧ InnR w' w.heap.size u (upP st s) ∧ Below w.heap.size w w' := by
  have H := Lib.hid h
  have HA := Lib.hid ha
  have hend : ∀ (q : Int), ¬ (thS st q ∧ 0 ≤ (rdS st q).f1) → upP st q = [] := fun q c => by rw [upP_eq ha, if_neg c]
  have HE := Lib.hid hend
  clear h ha hend
  go_enter Tryz.func57, Tryz.ntmps57
  go_wp2_with fail
  go_loopw [1, 5] (fun x u wr => ∃ (q : Int) (acc : List Int), x = .int .i64 q ∧ Hid (upP st s = acc ++ upP st q) ∧ Hid (InnR wr w.heap.size u acc) ∧ Hid (Below w.heap.size w wr) ∧ Hid (acc = [] ∨ acc.length + q.toNat ≤ st.length)) (fun x _ _ => (intOf x).toNat)
  case atStart => exact ⟨s, [], rfl, Lib.hid (by simp), Lib.hid (Kd.R_nil _ _ _ _ _), Lib.hid (Below.refl _ _), Lib.hid (.inl rfl)⟩
  case round =>
    obtain ⟨q, acc, rfl, HU, HO, HB, HL⟩ := hrel
    by_cases c : thS st q
    · have D1 : Hid (decide (thS st q) = true) := Lib.hid (decide_eq_true c)
      have HC := Lib.hid c
      have p1 : (0 ≤ q) = True := eq_true c.1
      have p2 : (q < (st.length : Int)) = True := eq_true c.2
      have hac : acc.length ≤ st.length := by rcases HL.out with h | h; · rw [h]; simp
                                              · omega
      by_cases c2 : 0 ≤ (rdS st q).f1
      · have d2 : decide ((rdS st q).f1 ≥ 0) = true := decide_eq_true c2
        have d2' : decide (0 ≤ (rdS st q).f1) = true := decide_eq_true c2
        have hlt := (ahead_at HA.out c).1
        have HU2 : Hid (upP st s = (acc ++ [(rdS st q).f1]) ++ upP st (rdS st q).f1) := Lib.hid (by rw [HU.out, upP_eq HA.out q, if_pos ⟨c, c2⟩]; simp)
        have HL2 : Hid (acc ++ [(rdS st q).f1] = [] ∨ (acc ++ [(rdS st q).f1]).length + (rdS st q).f1.toNat ≤ st.length) := Lib.hid (by
          right
          rw [List.length_append, List.length_singleton]
          have := c.1
          have := c.2
          rcases HL.out with h | h
          · rw [h, List.length_nil]; omega
          · omega)
        have HLt := Lib.hid (show (rdS st q).f1.toNat < q.toNat by have := c.1; omega)
        clear c c2 hlt
        go_wp2_with fail
        refine (tthere_any (H.out.below HB.out) q).mono ?_
        rw [D1.out]
        rintro e w1 ⟨rfl, hb1⟩
        have HB1 := Lib.hid (below_then HB.out HB.out.size hb1)
        have HO1 := Lib.hid (Kd.R_below HO.out hb1)
        obtain ⟨ad, ca, y0, y1, q0, q1⟩ := trm_at (H.out.below HB1.out) HC.out
        clear hb1 HB HO
        have hac2 : acc.length < 1000000 := by omega
        have hsz := HB1.out.size
        go_wp2_with (at_builtin; refine inn_append rfl (.tmp 30) (.tmp 32) rfl w.heap.size _ acc (rdS st q).f1 rfl _ rfl rfl HO1.out hsz hac2 ?_)
        intro v1 w2 h1 h2 h3
        have HB2 := Lib.hid (HB1.out.trans h2)
        have HO2 := Lib.hid h1
        go_wp2_with fail
        go_roundw
        case rel => exact ⟨(rdS st q).f1, _, rfl, HU2, HO2, HB2, HL2⟩
        case measure => have := HLt.out; simp [intOf]; omega
      · have d2 : decide ((rdS st q).f1 ≥ 0) = false := decide_eq_false c2
        have d2' : decide (0 ≤ (rdS st q).f1) = false := decide_eq_false c2
        have HR : Hid (upP st s = acc) := Lib.hid (by rw [HU.out, HE.out q (fun h => c2 h.2)]; simp)
        clear c c2
        go_wp2_with fail
        refine (tthere_any (H.out.below HB.out) q).mono ?_
        rw [D1.out]
        rintro e w1 ⟨rfl, hb1⟩
        have HB1 := Lib.hid (below_then HB.out HB.out.size hb1)
        have HO1 := Lib.hid (Kd.R_below HO.out hb1)
        obtain ⟨ad, ca, y0, y1, q0, q1⟩ := trm_at (H.out.below HB1.out) HC.out
        clear hb1 HB HO
        go_wp2_with fail
        go_ret
        exact ⟨_, rfl, by rw [HR.out]; exact HO1.out, HB1.out⟩
    · have D1 : Hid (decide (thS st q) = false) := Lib.hid (decide_eq_false c)
      have HR : Hid (upP st s = acc) := Lib.hid (by rw [HU.out, HE.out q (fun h => c h.1)]; simp)
      clear c
      go_wp2_with fail
      refine (tthere_any (H.out.below HB.out) q).mono ?_
      rw [D1.out]
      rintro e w1 ⟨rfl, hb1⟩
      have HB1 := Lib.hid (below_then HB.out HB.out.size hb1)
      have HO1 := Lib.hid (Kd.R_below HO.out hb1)
      clear hb1 HB HO
      go_wp2_with fail
      go_ret
      exact ⟨_, rfl, by rw [HR.out]; exact HO1.out, HB1.out⟩
end
end Go.Proofs.YtemoonhnncopoaaGreatDoor
end
section
set_option linter.unusedVariables false
set_option linter.unusedSimpArgs false
namespace Go.Proofs.YtemoonhnncopoaaGreatDoor
open Go.RowKit Go.Proofs.YtemoonhnncopoaaGreatDoorW.PrintWords
open PX (T V)
theorem idx_ev (l : List Int) (a : Int) (hl : l.length ≤ 1000000) (d : Nat) : ∀ i : Nat, i ≤ l.length → l.length - i = d → ∃ r : Int, Ev (fun k => PAll.slices_Index_int_int.l0 k l a (l.length : Int) i) r ∧ decide (r ≥ 0) = (l.drop i).contains a := by
  induction d with
  | zero =>
    intro i hi hd
    obtain rfl : i = l.length := by omega
    refine ⟨-1, Ev.step (fun k => rfl) ?_, by rw [List.drop_length]; rfl⟩
    simp only [PAll.slices_Index_int_int.l0]
    exact ev_neg (by omega) (Ev.now _)
  | succ d ih =>
    intro i hi hd
    have hlt : i < l.length := by omega
    have hr : rd l (i : Int) = l[i] := by simp [rd, List.getD_eq_getElem?_getD, List.getElem?_eq_getElem hlt]
    rw [List.drop_eq_getElem_cons hlt, List.contains_cons]
    by_cases he : a = l[i]
    · refine ⟨(i : Int), Ev.step (fun k => rfl) ?_, ?_⟩
      · simp only [PAll.slices_Index_int_int.l0]
        refine ev_pos (by omega) (ev_pos (by omega) (ev_pos (by omega) ?_))
        rw [hr]
        exact ev_pos he (Ev.now _)
      · rw [show (a == l[i]) = true by simp [he], Bool.true_or]; exact decide_eq_true (by omega)
    · obtain ⟨r, h1, h2⟩ := ih (i + 1) (by omega) (by omega)
      refine ⟨r, Ev.step (fun k => rfl) ?_, ?_⟩
      · simp only [PAll.slices_Index_int_int.l0]
        refine ev_pos (by omega) (ev_pos (by omega) (ev_pos (by omega) ?_))
        rw [hr]
        refine ev_neg he ?_
        rw [w64 (by omega) (by omega)]
        exact h1
      · rw [h2, show (a == l[i]) = false by simp [he], Bool.false_or]
theorem has_ev (l : List Int) (a : Int) (hl : l.length ≤ 1000000) : Ev (fun k => PAll.slices_Contains_int_int.f k l a) (l.contains a) := by
  obtain ⟨r, h1, h2⟩ := idx_ev l a hl l.length 0 (by omega) (by omega)
  rw [List.drop_zero] at h2
  rw [← h2]
  exact Ev.bind h1 (Ev.now _)
theorem drawn_below {w w' : World} (h : Drawn0 w w') : Below w.heap.size w w' := by
  obtain ⟨n, rfl⟩ := h
  exact below_drewN' (Below.refl _ _) n
section
variable {g : Nat} {v : Int} {st : List Sta} {tr : List Tra} {w : World}
theorem thas_any (A : Option Addr) (c : Nat) (l : List Int) (a : Int) (hl : l.length ≤ 1000000) (hc : l.length ≤ c) (hC : (Kd.int .i64).C w A l.length l) :
    Calls Tryz.prog 61 #[.slice A l.length c, .int .i64 a] w fun e w' => e = .returned (.bool (l.contains a)) ∧ Below w.heap.size w w' := by
  obtain ⟨k, hk⟩ := Ev.rounds (has_ev l a hl)
  refine (PAll.slices_Contains_int_int.calls k A c l a _ w hC hc hk).mono ?_
  rintro e w' ⟨rfl, hb⟩
  exact ⟨rfl, drawn_below hb⟩
set_option maxHeartbeats 4000000 in
theorem tin_any (h : TrM w g v st tr) (ha : Ahead st) (hl : st.length ≤ 1000) (a b : Int) : Calls Tryz.prog 29 #[.pointer (some ⟨g, 0, none⟩), .int .i64 a, .int .i64 b] w fun e w' => e = .returned (.bool (decide (0 ≤ b) && inC st a b)) ∧ Below w.heap.size w w' := by
  have H := Lib.hid h
  have HR : Hid ((upP st a).contains b = (decide (0 ≤ b) && inC st a b)) := Lib.hid (tin_eq ha a b)
  have HA := Lib.hid ha
  have hlen : (upP st a).length ≤ 1000000 := by
    by_cases c : thS st a
    · have := upF_len st (a.toNat + 1) a
      have := c.1
      have := c.2
      unfold upP; omega
    · rw [upP_eq ha, if_neg (fun h => c h.1)]; simp
  clear h ha
  go_enter Tryz.func29, Tryz.ntmps29
  go_wp2_with fail
  refine (tup_any H.out HA.out hl a).mono ?_
  rintro e w1 ⟨u, rfl, hu, hb1⟩
  obtain ⟨A, cap, rfl⟩ := Kd.R_slice hu
  obtain ⟨_, hcap, hC⟩ := Kd.R_reads' hu
  have HC := Lib.hid hC
  have HB1 := Lib.hid hb1
  clear hu hC hb1
  go_wp2_with fail
  refine (thas_any A cap (upP st a) b hlen hcap HC.out).mono ?_
  rintro e w2 ⟨rfl, hb2⟩
  go_wp2_with fail
  go_ret
  exact ⟨by rw [← HR.out]; simp, below_then HB1.out HB1.out.size hb2⟩
end
def setN (st : List Sta) (p : Int → Bool) : Nat → Nat
  | 0 => 0
  | n + 1 => setN st p n + if (rdS st (n : Int)).f0 < 5 ∧ p (n : Int) = true then 2 ^ n else 0
theorem setN_lt (st : List Sta) (p : Int → Bool) (n : Nat) : setN st p n < 2 ^ n := by
  induction n with
  | zero => simp [setN]
  | succ n ih =>
    simp only [setN]
    rw [Nat.pow_succ]
    split <;> omega
theorem setN_bit (st : List Sta) (p : Int → Bool) (n : Nat) : ∀ s : Nat, (setN st p n).testBit s = (decide (s < n) && (decide ((rdS st (s : Int)).f0 < 5) && p (s : Int))) := by
  induction n with
  | zero => intro s; simp [setN]
  | succ n ih =>
    intro s
    simp only [setN]
    by_cases hc : (rdS st (n : Int)).f0 < 5 ∧ p (n : Int) = true
    · rw [if_pos hc, Nat.add_comm]
      rcases Nat.lt_trichotomy s n with h | h | h
      · rw [Nat.testBit_two_pow_add_gt h, ih s, decide_eq_true h, decide_eq_true (show s < n + 1 by omega)]
      · subst h
        rw [Nat.testBit_two_pow_add_eq, Nat.testBit_lt_two_pow (setN_lt st p s), decide_eq_true (by omega), decide_eq_true hc.1, hc.2]
        rfl
      · rw [Nat.testBit_lt_two_pow, decide_eq_false (by omega)]
        · rfl
        · have := setN_lt st p n
          have h2 : 2 ^ (n + 1) ≤ 2 ^ s := Nat.pow_le_pow_right (by omega) h
          rw [Nat.pow_succ] at h2
          omega
    · rw [if_neg hc, Nat.add_zero, ih s]
      by_cases h : s = n
      · subst h
        rw [decide_eq_false (by omega), Bool.false_and]
        have : (decide ((rdS st (s : Int)).f0 < 5) && p (s : Int)) = false := by
          cases hp : p (s : Int)
          · simp
          · rw [decide_eq_false (fun h => hc ⟨h, hp⟩)]; rfl
        rw [this]; simp
      · by_cases h2 : s < n
        · rw [decide_eq_true h2, decide_eq_true (show s < n + 1 by omega)]
        · rw [decide_eq_false h2, decide_eq_false (show ¬ s < n + 1 by omega)]
theorem or_new {x q : Nat} (h : x < 2 ^ q) (hq : q < 32) : bits .or .u32 (x : Int) (2 ^ q % 4294967296) = ((x + 2 ^ q : Nat) : Int) := by
  have h2 : 2 ^ q < 4294967296 := Nat.lt_of_lt_of_le (Nat.pow_lt_pow_right (by omega) hq) (by decide)
  have h3 : ((2 : Int) ^ q % 4294967296) = ((2 ^ q : Nat) : Int) := by
    have : ((2 : Int) ^ q) = ((2 ^ q : Nat) : Int) := by simp
    rw [this]
    omega
  rw [h3, u32_or_nat x (2 ^ q) (by omega) h2, Nat.or_comm]
  have := Nat.two_pow_add_eq_or_of_lt h 1
  rw [Nat.mul_one] at this
  rw [← this, Nat.add_comm]
def Asks (F : Nat) (g1 g2 : Nat) (w : World) (n : Nat) (p : Int → Bool) : Prop :=
  ∀ wr, Below w.heap.size w wr → ∀ s : Nat, s < n → Calls Tryz.prog F #[.int .i64 (s : Int), .pointer (some ⟨g1, 0, none⟩), .pointer (some ⟨g2, 0, none⟩)] wr fun e w' => e = .returned (.bool (p (s : Int))) ∧ Below wr.heap.size wr w'
section
variable {g : Nat} {v : Int} {st : List Sta} {tr : List Tra} {w : World}
set_option maxHeartbeats 16000000 in
set_option maxRecDepth 100000 in
theorem tset_any (h : TrM w g v st tr) (hl : st.length ≤ 24) (F g1 g2 : Nat) (hrun : ∀ args w, (callFunc F args).run Tryz.prog w = .ok (.enter F args) w) (p : Int → Bool) (hp : Asks F g1 g2 w st.length p) :
    Calls Tryz.prog 65 #[.pointer (some ⟨g, 0, none⟩), .func (.func F) #[] #[.pointer (some ⟨g1, 0, none⟩), .pointer (some ⟨g2, 0, none⟩)]] w fun e w' => e = .returned (.int .u32 (setN st p st.length : Nat)) ∧ Below w.heap.size w w' := by
  have HP := Lib.hid hp
  obtain ⟨A, ca, B, cb, h1, h2⟩ := h
  have y1 : w.cell? ⟨g, 1, none⟩ = some (.slice A st.length ca) := blk_cell h1 1
  have HCs := Lib.hid h2.cs
  clear hp h1 h2
  go_enter Tryz.func65, Tryz.ntmps65
  go_wp2_with fail
  go_loopw [5, 14] (fun o x wr => ∃ q : Nat, x = .int .i64 q ∧ q ≤ st.length ∧ o = .int .u32 (setN st p q : Nat) ∧ Hid (Below w.heap.size w wr)) (fun _ x _ => st.length - (intOf x).toNat)
  case atStart => exact ⟨0, rfl, Nat.zero_le _, rfl, Lib.hid (Below.refl _ _)⟩
  case round =>
    obtain ⟨q, rfl, hq, rfl, HB⟩ := hrel
    by_cases hlt : q < st.length
    · have p1 : ((q : Int) < (st.length : Int)) = True := eq_true (by omega)
      obtain ⟨ad, A2, c2, A3, c3, A4, c4, rfl, q0, q1, q2, q3, q4, _⟩ := PAll.at_T54 (Kd.C_below HCs.out HB.out) (q : Int) (by omega) (by omega)
      rw [Int.toNat_natCast] at q0 q1 q2 q3 q4
      have HAl := Lib.hid ((HB.out.alloc HB.out.size (.cells #[.int .i64 (PAll.rd_T54 st q).f0, .int .i64 (PAll.rd_T54 st q).f1, .slice A2 (PAll.rd_T54 st q).f2.length c2, .slice A3 (PAll.rd_T54 st q).f3.length c3, .slice A4 (PAll.rd_T54 st q).f4.length c4] 54)))
      by_cases hk : (PAll.rd_T54 st q).f0 < 5
      · have d1 : decide ((PAll.rd_T54 st q).f0 < 5) = true := decide_eq_true hk
        go_wp2_with fail
        refine (HP.out _ HAl.out q hlt).mono ?_
        cases hpq : p (q : Int) with
        | true =>
          have HS : Hid (setN st p (q + 1) = setN st p q + 2 ^ q) := Lib.hid (by simp only [setN]; rw [if_pos ⟨hk, hpq⟩])
          have HLt := Lib.hid (setN_lt st p q)
          have hq24 : q < 32 := by omega
          clear hpq
          rintro e w2 ⟨rfl, hb2⟩
          have HB2 := Lib.hid (below_then HAl.out HAl.out.size hb2)
          clear hb2
          go_wp2_with fail
          go_roundw
          case rel => exact ⟨q + 1, by go_num, by omega, by rw [HS.out, or_new HLt.out hq24], HB2⟩
          case measure => simp [intOf]; omega
        | false =>
          have HS : Hid (setN st p (q + 1) = setN st p q) := Lib.hid (by simp only [setN]; rw [if_neg (fun h => by rw [hpq] at h; cases h.2)]; rfl)
          clear hpq
          rintro e w2 ⟨rfl, hb2⟩
          have HB2 := Lib.hid (below_then HAl.out HAl.out.size hb2)
          clear hb2
          go_wp2_with fail
          go_roundw
          case rel => exact ⟨q + 1, by go_num, by omega, by rw [HS.out], HB2⟩
          case measure => simp [intOf]; omega
      · have d1 : decide ((PAll.rd_T54 st q).f0 < 5) = false := decide_eq_false hk
        have HS : Hid (setN st p (q + 1) = setN st p q) := Lib.hid (by simp only [setN]; rw [if_neg (fun h => hk h.1)]; rfl)
        go_wp2_with fail
        go_roundw
        case rel => exact ⟨q + 1, by go_num, by omega, by rw [HS.out], HAl⟩
        case measure => simp [intOf]; omega
    · obtain rfl : q = st.length := by omega
      have p1 : ((st.length : Int) < (st.length : Int)) = False := eq_false (by omega)
      go_wp2_with fail
      go_ret
      exact ⟨rfl, HB.out⟩
end
end Go.Proofs.YtemoonhnncopoaaGreatDoor
end
section
set_option linter.unusedVariables false
set_option linter.unusedSimpArgs false
namespace Go.Proofs.YtemoonhnncopoaaGreatDoor
open Go.RowKit Go.Proofs.YtemoonhnncopoaaGreatDoorW.PrintWords Go.Proofs.YtemoonhnncopoaaGreatDoorW.PrintLast
open PX (T V)
abbrev inP (st : List Sta) (a b : Int) : Bool := decide (0 ≤ b) && inC st a b
section
variable {g : Nat} {v : Int} {st : List Sta} {tr : List Tra} {w : World}
set_option maxHeartbeats 4000000 in
theorem belfn_any (h : TrM w g v st tr) (ha : Ahead st) (hl : st.length ≤ 1000) (g1 g2 : Nat) (s x : Int) (h1 : w.heap[g1]? = some (.cells #[.pointer (some ⟨g, 0, none⟩)] 49 (0, 0))) (h2 : w.heap[g2]? = some (.cells #[.int .i64 s] 3 (0, 0))) :
    Calls Tryz.prog 66 #[.int .i64 x, .pointer (some ⟨g1, 0, none⟩), .pointer (some ⟨g2, 0, none⟩)] w fun e w' => e = .returned (.bool (inP st x s)) ∧ Below w.heap.size w w' := by
  have H := Lib.hid h
  have HA := Lib.hid ha
  have y1 : w.cell? ⟨g1, 0, none⟩ = some (.pointer (some ⟨g, 0, none⟩)) := blk_cell h1 0
  have y2 : w.cell? ⟨g2, 0, none⟩ = some (.int .i64 s) := blk_cell h2 0
  clear h ha h1 h2
  go_enter Tryz.func66, Tryz.ntmps66
  go_wp2_with fail
  refine (tin_any H.out HA.out hl x s).mono ?_
  rintro e w1 ⟨rfl, hb1⟩
  go_wp2_with fail
  go_ret
  exact ⟨rfl, hb1⟩
set_option maxHeartbeats 4000000 in
theorem joinfn_any (h : TrM w g v st tr) (ha : Ahead st) (hl : st.length ≤ 1000) (g1 g2 : Nat) (s x : Int) (h1 : w.heap[g1]? = some (.cells #[.pointer (some ⟨g, 0, none⟩)] 49 (0, 0))) (h2 : w.heap[g2]? = some (.cells #[.int .i64 s] 3 (0, 0))) :
    Calls Tryz.prog 62 #[.int .i64 x, .pointer (some ⟨g1, 0, none⟩), .pointer (some ⟨g2, 0, none⟩)] w fun e w' => e = .returned (.bool (!inP st x s)) ∧ Below w.heap.size w w' := by
  have H := Lib.hid h
  have HA := Lib.hid ha
  have y1 : w.cell? ⟨g1, 0, none⟩ = some (.pointer (some ⟨g, 0, none⟩)) := blk_cell h1 0
  have y2 : w.cell? ⟨g2, 0, none⟩ = some (.int .i64 s) := blk_cell h2 0
  clear h ha h1 h2
  go_enter Tryz.func62, Tryz.ntmps62
  go_wp2_with fail
  refine (tin_any H.out HA.out hl x s).mono ?_
  rintro e w1 ⟨rfl, hb1⟩
  go_wp2_with fail
  go_ret
  exact ⟨by simp [inP], hb1⟩
def belP (st : List Sta) (s : Int) : Nat := setN st (fun x => inP st x s) st.length
set_option maxHeartbeats 8000000 in
set_option maxRecDepth 100000 in
theorem tbel_any (h : TrM w g v st tr) (ha : Ahead st) (hl : st.length ≤ 24) (s : Int) :
    Calls Tryz.prog 34 #[.pointer (some ⟨g, 0, none⟩), .int .i64 s] w fun e w' => e = .returned (.int .u32 (belP st s : Nat)) ∧ Below w.heap.size w w' := by
  have hmf : ∀ (fn : Fn) (first cap : Array Value) (w : World), (Instr.makeFunc fn first cap).run Tryz.prog w = .ok (.func fn first cap) w := fun _ _ _ _ => rfl
  have hrun : ∀ args w, (callFunc 66 args).run Tryz.prog w = .ok (.enter 66 args) w := fun _ _ => rfl
  have hb0 : Below w.heap.size w ((w.alloc (.cells #[.pointer (some ⟨g, 0, none⟩)] 49)).alloc (.cells #[.int .i64 s] 3)) := ((Below.refl _ w).alloc (Nat.le_refl _) _).alloc (by simp) _
  have HB0 := Lib.hid hb0
  obtain ⟨hk1, hk2, hlt0, hsz⟩ := boxed2 (Below.refl _ ((w.alloc (.cells #[.pointer (some ⟨g, 0, none⟩)] 49)).alloc (.cells #[.int .i64 s] 3)))
  have HK1 := Lib.hid hk1
  have HK2 := Lib.hid hk2
  have y1 : ((w.alloc (.cells #[.pointer (some ⟨g, 0, none⟩)] 49)).alloc (.cells #[.int .i64 s] 3)).cell? ⟨w.heap.size, 0, none⟩ = some (.pointer (some ⟨g, 0, none⟩)) := blk_cell hk1 0
  have H := Lib.hid (h.below hb0)
  have HA := Lib.hid ha
  clear h ha hb0 hk1 hk2
  go_enter Tryz.func34, Tryz.ntmps34
  go_wp2_with fail
  generalize (w.alloc (.cells #[.pointer (some ⟨g, 0, none⟩)] 49)).alloc (.cells #[.int .i64 s] 3) = w0 at HB0 HK1 HK2 y1 H hlt0 ⊢
  have HAs : Hid (Asks 66 w.heap.size (w.heap.size + 1) w0 st.length (fun x => inP st x s)) := Lib.hid (fun wr hb x hx => belfn_any (H.out.below hb) HA.out (by omega) w.heap.size (w.heap.size + 1) s x ((hb.block _ (lt_of_block HK1.out)).trans HK1.out) ((hb.block _ (lt_of_block HK2.out)).trans HK2.out))
  go_wp2_with fail
  refine (tset_any H.out hl 66 w.heap.size (w.heap.size + 1) hrun _ HAs.out).mono ?_
  rintro e w1 ⟨rfl, hb1⟩
  go_wp2_with fail
  go_ret
  exact ⟨rfl, below_then HB0.out HB0.out.size hb1⟩
end
theorem addr0 (a : Addr) : a.add 0 = a := by cases a; simp [Addr.add]
def firstAt (p : Int → Bool) : List Int → Int → Int
  | [], _ => -1
  | a :: l, i => if p a = true then i else firstAt p l (i + 1)
theorem firstAt_pos (p : Int → Bool) (l : List Int) : ∀ i : Int, 0 ≤ i → decide (firstAt p l i ≥ 0) = l.any p := by
  induction l with
  | nil => intro i h; rfl
  | cons a l ih =>
    intro i h
    simp only [List.any_cons]
    by_cases hp : p a = true
    · have e : firstAt p (a :: l) i = i := if_pos hp
      rw [e, hp, Bool.true_or]; exact decide_eq_true h
    · have e : firstAt p (a :: l) i = firstAt p l (i + 1) := if_neg hp
      rw [e, Bool.eq_false_iff.mpr hp, Bool.false_or]; exact ih (i + 1) (by omega)
def AsksL (F : Nat) (g1 g2 : Nat) (w : World) (l : List Int) (p : Int → Bool) : Prop :=
  ∀ wr, Below w.heap.size w wr → ∀ x, x ∈ l → Calls Tryz.prog F #[.int .i64 x, .pointer (some ⟨g1, 0, none⟩), .pointer (some ⟨g2, 0, none⟩)] wr fun e w' => e = .returned (.bool (p x)) ∧ Below wr.heap.size wr w'
section
variable {w : World}
set_option maxHeartbeats 8000000 in
set_option maxRecDepth 100000 in
theorem fidx_any (F g1 g2 : Nat) (hrun : ∀ args w, (callFunc F args).run Tryz.prog w = .ok (.enter F args) w) (S : Option Addr) (c : Nat) (l : List Int) (hS : (Kd.int .i64).C w S l.length l) (hc : l.length ≤ c) (hl : l.length ≤ 1000000) (p : Int → Bool) (hp : AsksL F g1 g2 w l p) :
    Calls Tryz.prog 96 #[.slice S l.length c, .func (.func F) #[] #[.pointer (some ⟨g1, 0, none⟩), .pointer (some ⟨g2, 0, none⟩)]] w fun e w' => e = .returned (.int .i64 (firstAt p l 0)) ∧ Below w.heap.size w w' := by
  have HP := Lib.hid hp
  have HS := Lib.hid hS
  clear hS hp
  go_enter Tryz.func96, Tryz.ntmps96
  go_wp2_with fail
  go_loopw [8] (fun i wr => ∃ q : Nat, i = .int .i64 q ∧ q ≤ l.length ∧ Hid (Below w.heap.size w wr) ∧ Hid (firstAt p l 0 = firstAt p (l.drop q) q)) (fun i _ => l.length - (intOf i).toNat)
  case atStart => exact ⟨0, rfl, Nat.zero_le _, Lib.hid (Below.refl _ _), Lib.hid (by simp)⟩
  case round =>
    obtain ⟨q, rfl, hq, HB, HE⟩ := hrel
    by_cases hlt : q < l.length
    · obtain ⟨ad, rfl, a0⟩ := nums_at (Kd.C_below HS.out HB.out) q hlt
      have hds : l.drop q = l[q] :: l.drop (q + 1) := List.drop_eq_getElem_cons hlt
      have HE2 := HE.out
      rw [hds] at HE2
      have HMe := Lib.hid (show l[q] ∈ l from List.getElem_mem hlt)
      have p1 : ((q : Int) < (l.length : Int)) = True := eq_true (by omega)
      clear hds HE
      generalize l[q] = a at *
      have HE := Lib.hid HE2
      clear HE2
      go_wp2_with fail
      refine (HP.out _ HB.out a HMe.out).mono ?_
      cases hp : p a with
      | true =>
        have HE3 : Hid (firstAt p l 0 = (q : Int)) := Lib.hid (by have := HE.out; simp only [firstAt] at this; rw [if_pos hp] at this; exact this)
        clear hp
        rintro e w2 ⟨rfl, hb2⟩
        have HB2 := Lib.hid (below_then HB.out HB.out.size hb2)
        clear hb2 a0
        go_wp2_with fail
        go_ret
        exact ⟨by rw [HE3.out]; rfl, HB2.out⟩
      | false =>
        have HE3 : Hid (firstAt p l 0 = firstAt p (l.drop (q + 1)) ((q + 1 : Nat) : Int)) := Lib.hid (by have := HE.out; simp only [firstAt] at this; rw [if_neg (by rw [hp]; simp)] at this; rw [this]; rfl)
        clear hp
        rintro e w2 ⟨rfl, hb2⟩
        have HB2 := Lib.hid (below_then HB.out HB.out.size hb2)
        clear hb2 a0
        go_wp2_with fail
        go_roundw
        case rel => exact ⟨q + 1, by go_num, by omega, HB2, HE3⟩
        case measure => simp [intOf]; omega
    · obtain rfl : q = l.length := by omega
      have HE3 : Hid (firstAt p l 0 = -1) := Lib.hid (by rw [HE.out, List.drop_length]; rfl)
      go_wp2_with fail
      go_ret
      exact ⟨by rw [HE3.out]; rfl, HB.out⟩
set_option maxHeartbeats 8000000 in
theorem fhas_any (F g1 g2 : Nat) (hrun : ∀ args w, (callFunc F args).run Tryz.prog w = .ok (.enter F args) w) (S : Option Addr) (c : Nat) (l : List Int) (hS : (Kd.int .i64).C w S l.length l) (hc : l.length ≤ c) (hl : l.length ≤ 1000000) (p : Int → Bool) (hp : AsksL F g1 g2 w l p) :
    Calls Tryz.prog 63 #[.slice S l.length c, .func (.func F) #[] #[.pointer (some ⟨g1, 0, none⟩), .pointer (some ⟨g2, 0, none⟩)]] w fun e w' => e = .returned (.bool (l.any p)) ∧ Below w.heap.size w w' := by
  have HP := Lib.hid hp
  have HS := Lib.hid hS
  have HR := Lib.hid (firstAt_pos p l 0 (Int.le_refl _))
  clear hS hp
  go_enter Tryz.func63, Tryz.ntmps63
  go_wp2_with fail
  refine (fidx_any F g1 g2 hrun S c l HS.out hc hl p HP.out).mono ?_
  rintro e w1 ⟨rfl, hb1⟩
  go_wp2_with fail
  go_ret
  exact ⟨by rw [← HR.out]; rfl, hb1⟩
end
def joinF (st : List Sta) (l : List Int) : List Int → Int
  | [] => -1
  | s :: r => if kindP st s = 2 ∧ l.any (fun x => !inP st x s) = false then s else joinF st l r
def joinP (st : List Sta) (l : List Int) : Int := match l with | [] => -1 | a :: _ => joinF st l (upP st a)
section
variable {g : Nat} {v : Int} {st : List Sta} {tr : List Tra} {w : World}
set_option maxHeartbeats 16000000 in
set_option maxRecDepth 100000 in
theorem tjoin_any (h : TrM w g v st tr) (ha : Ahead st) (hl : st.length ≤ 1000) (S : Option Addr) (c : Nat) (l : List Int) (hS : (Kd.int .i64).C w S l.length l) (hc : l.length ≤ c) (hll : l.length ≤ 1000000) :
    Calls Tryz.prog 30 #[.pointer (some ⟨g, 0, none⟩), .slice S l.length c] w fun e w' => e = .returned (.int .i64 (joinP st l)) ∧ Below w.heap.size w w' := by
  have hmf : ∀ (fn : Fn) (first cap : Array Value) (w : World), (Instr.makeFunc fn first cap).run Tryz.prog w = .ok (.func fn first cap) w := fun _ _ _ _ => rfl
  have hrun : ∀ args w, (callFunc 62 args).run Tryz.prog w = .ok (.enter 62 args) w := fun _ _ => rfl
  have hb0 : Below w.heap.size w (w.alloc (.cells #[.pointer (some ⟨g, 0, none⟩)] 49)) := (Below.refl _ w).alloc (Nat.le_refl _) _
  have HB0 := Lib.hid hb0
  have hk1 := blk_new w (.cells #[.pointer (some ⟨g, 0, none⟩)] 49)
  have HK1 := Lib.hid hk1
  have y1 : (w.alloc (.cells #[.pointer (some ⟨g, 0, none⟩)] 49)).cell? ⟨w.heap.size, 0, none⟩ = some (.pointer (some ⟨g, 0, none⟩)) := blk_cell hk1 0
  have H := Lib.hid (h.below hb0)
  have HA := Lib.hid ha
  have HS := Lib.hid (Kd.C_below hS hb0)
  clear h hb0 hk1 hS
  by_cases hz : l.length = 0
  · obtain rfl : l = [] := List.eq_nil_of_length_eq_zero hz
    go_enter Tryz.func30, Tryz.ntmps30
    go_wp2_with fail
    go_ret
    exact ⟨rfl, HB0.out⟩
  have d1 : ((l.length : Int) == 0) = false := by rw [beq_eq_false_iff_ne]; omega
  have hpos : 0 < l.length := by omega
  obtain ⟨ad, rfl, a0⟩ := nums_at HS.out 0 hpos
  replace a0 : (w.alloc (.cells #[.pointer (some ⟨g, 0, none⟩)] 49)).cell? ad = some (.int .i64 (l[0]'hpos)) := by rw [addr0] at a0; exact a0
  have hup : (upP st (l[0]'hpos)).length ≤ 1000000 := by
    by_cases c : thS st (l[0]'hpos)
    · have := upF_len st ((l[0]'hpos).toNat + 1) (l[0]'hpos)
      have := c.1
      have := c.2
      unfold upP; omega
    · rw [upP_eq ha, if_neg (fun h => c h.1)]; simp
  have HJ : Hid (joinP st l = joinF st l (upP st (l[0]'hpos))) := Lib.hid (by cases l with | nil => simp at hz | cons a r => rfl)
  have p0 : ((0 : Int) < (l.length : Int)) = True := eq_true (by omega)
  have p0' : (0 < l.length) = True := eq_true (by omega)
  generalize l[0]'hpos = a at *
  clear hz hpos
  go_enter Tryz.func30, Tryz.ntmps30
  go_wp2_with fail
  generalize w.alloc (.cells #[.pointer (some ⟨g, 0, none⟩)] 49) = w0 at HB0 HK1 y1 H HS a0 ⊢
  have HB1 := Lib.hid (below_drew HB0.out)
  refine start_ (n := 7) (S := fun w' => w'.cell? ⟨w.heap.size, 0, none⟩ = some (.pointer (some ⟨g, 0, none⟩)) ∧ w'.cell? ad = some (.int .i64 a)) (ds := [4]) #[false, false, false, false, false, false, false] (by kernel_rfl) rfl rfl ⟨y1, a0⟩ (fun hHeld => ?_)
  refine take_ (i := 0) (N := some 11) (v := ?_) (a' := ?_) #[true, false, false, false, false, false, false] rfl rfl (by kernel_rfl) (fun _ _ _ h => h) (Or.inl ⟨by rfl, ?_⟩) hHeld ?_ ?_
  rotate_left
  · rintro w' ⟨s0, s1⟩
    go_simp
    with_reducible rfl
  rotate_left
  · simp only [Act.put, List.setIfInBounds_toArray, List.set_cons_zero, List.set_cons_succ, i64_w, i32_w]
    rfl
  refine pure_ (i := 1) (N := some 12) (v := ?_) (a' := ?_) #[true, true, false, false, false, false, false] rfl rfl (by kernel_rfl) (fun _ _ _ h => h) (Or.inl ⟨by rfl, ?_⟩) ?_ ?_
  rotate_left
  · intro w'
    go_simp
    with_reducible rfl
  rotate_left
  · simp only [Act.put, List.setIfInBounds_toArray, List.set_cons_zero, List.set_cons_succ, i64_w, i32_w]
    rfl
  refine pure_ (i := 2) (N := some 13) (v := ?_) (a' := ?_) #[true, true, true, false, false, false, false] rfl rfl (by kernel_rfl) (fun _ _ _ h => h) (Or.inl ⟨by rfl, ?_⟩) ?_ ?_
  rotate_left
  · intro w'
    go_simp
    with_reducible rfl
  rotate_left
  · simp only [Act.put, List.setIfInBounds_toArray, List.set_cons_zero, List.set_cons_succ, i64_w, i32_w]
    rfl
  refine take_ (i := 3) (N := some 14) (v := ?_) (a' := ?_) #[true, true, true, true, false, false, false] rfl rfl (by kernel_rfl) (fun _ _ _ h => h) (Or.inl ⟨by rfl, ?_⟩) hHeld ?_ ?_
  rotate_left
  · rintro w' ⟨s0, s1⟩
    go_simp
    with_reducible rfl
  rotate_left
  · simp only [Act.put, List.setIfInBounds_toArray, List.set_cons_zero, List.set_cons_succ, i64_w, i32_w]
    rfl
  refine pure_ (i := 6) (N := some 17) (v := ?_) (a' := ?_) #[true, true, true, true, false, false, true] rfl rfl (by kernel_rfl) (fun _ _ _ h => h) (Or.inl ⟨by rfl, ?_⟩) ?_ ?_
  rotate_left
  · intro w'
    go_simp
    with_reducible rfl
  rotate_left
  · simp only [Act.put, List.setIfInBounds_toArray, List.set_cons_zero, List.set_cons_succ, i64_w, i32_w]
    rfl
  refine last_ (i := 4) (N := some 15) #[true, true, true, true, true, false, true] rfl rfl (by kernel_rfl) (by decide) (fun K hK => ?_)
  refine goes_ Tryz.func57 (by kernel_rfl) rfl #[.pointer (some ⟨g, 0, none⟩), .int .i64 a] (by rfl) rfl rfl (by first | rfl | (go_simp; done) | (go_simp; exact ⟨rfl, rfl⟩) | (go_simp; rfl)) ?_
  refine (tup_any (H.out.below (below_drew (Below.refl _ _))) HA.out hl a).mono ?_
  rintro e1 w1 ⟨u, rfl, hu, hb⟩
  refine ⟨_, rfl, hK.out _ _ ?_⟩
  clear hK K
  obtain ⟨B, cap, rfl⟩ := Kd.R_slice hu
  obtain ⟨_, hcap, hC⟩ := Kd.R_reads' hu
  have HC := Lib.hid hC
  have HB2 := Lib.hid (HB1.out.trans (hb.mono HB1.out.size))
  have HH := Lib.hid (H.out.below (Below.trans (below_drew (Below.refl _ _)) hb))
  have HS2 := Lib.hid (Kd.C_below HS.out (Below.trans (below_drew (Below.refl _ _)) hb))
  have HK2 := Lib.hid ((hb.block _ (lt_of_block HK1.out)).trans HK1.out)
  clear hb hu hC
  refine pure_ (i := 5) (N := some 16) (v := ?_) (a' := ?_) #[true, true, true, true, true, true, true] rfl rfl (by kernel_rfl) (fun _ _ _ h => h) (Or.inl ⟨by rfl, ?_⟩) ?_ ?_
  rotate_left
  · intro w'
    go_simp
    with_reducible rfl
  rotate_left
  · simp only [Act.put, List.setIfInBounds_toArray, List.set_cons_zero, List.set_cons_succ, i64_w, i32_w]
    rfl
  refine done_ (by kernel_rfl) ?_
  go_wp2_with fail
  clear H HS HK1 HB0 HB1 y1 a0 hHeld
  go_loopw [17] (fun i wr => ∃ q : Nat, i = .int .i64 q ∧ q ≤ (upP st a).length ∧ Hid (Below w1.heap.size w1 wr) ∧ Hid (joinP st l = joinF st l ((upP st a).drop q))) (fun i _ => (upP st a).length - (intOf i).toNat)
  case atStart => exact ⟨0, rfl, Nat.zero_le _, Lib.hid (Below.refl _ _), Lib.hid (by rw [HJ.out, List.drop_zero])⟩
  case round =>
    clear HJ
    obtain ⟨q, rfl, hq, HB, HE⟩ := hrel
    have hfin : Below w.heap.size w wr := below_then HB2.out HB2.out.size HB.out
    have HFin := Lib.hid hfin
    clear hfin
    by_cases hlt : q < (upP st a).length
    · obtain ⟨ad2, rfl, a1⟩ := nums_at (Kd.C_below HC.out HB.out) q hlt
      have hds : (upP st a).drop q = (upP st a)[q] :: (upP st a).drop (q + 1) := List.drop_eq_getElem_cons hlt
      have HE2 := HE.out
      rw [hds] at HE2
      have p1 : ((q : Int) < ((upP st a).length : Int)) = True := eq_true (by omega)
      clear hds HE
      generalize (upP st a)[q] = s at *
      have HE := Lib.hid HE2
      clear HE2
      have hal : Below wr.heap.size wr (wr.alloc (.cells #[.int .i64 s] 3)) := (Below.refl _ wr).alloc (Nat.le_refl _) _
      have hk3 := blk_new wr (.cells #[.int .i64 s] 3)
      have HAl := Lib.hid hal
      have HK3 := Lib.hid hk3
      have HK4 := Lib.hid ((hal.block _ (by have := HB.out.size; have := lt_of_block HK2.out; omega)).trans ((HB.out.block _ (lt_of_block HK2.out)).trans HK2.out))
      have z1 : (wr.alloc (.cells #[.int .i64 s] 3)).cell? ⟨w.heap.size, 0, none⟩ = some (.pointer (some ⟨g, 0, none⟩)) := blk_cell HK4.out 0
      have z2 : (wr.alloc (.cells #[.int .i64 s] 3)).cell? ⟨wr.heap.size, 0, none⟩ = some (.int .i64 s) := blk_cell hk3 0
      clear hal hk3
      go_wp2_with fail
      generalize wr.alloc (.cells #[.int .i64 s] 3) = w2 at HAl HK3 HK4 z1 z2 ⊢
      have HH2 := Lib.hid (HH.out.below (below_then HB.out HB.out.size HAl.out))
      have HBb := Lib.hid (below_then HB.out HB.out.size HAl.out)
      refine (tkind_any HH2.out s).mono ?_
      rintro e3 w3 ⟨rfl, hb3⟩
      have HB3 := Lib.hid (below_then HBb.out HBb.out.size hb3)
      have HH3 := Lib.hid (HH2.out.below hb3)
      have HK33 := Lib.hid ((hb3.block _ (lt_of_block HK3.out)).trans HK3.out)
      have HK34 := Lib.hid ((hb3.block _ (lt_of_block HK4.out)).trans HK4.out)
      have z3 : w3.cell? ⟨wr.heap.size, 0, none⟩ = some (.int .i64 s) := blk_cell HK33.out 0
      clear hb3 z1 z2
      by_cases hk : kindP st s = 2
      · have d2 : (kindP st s == 2) = true := by simp [hk]
        have HAs : Hid (AsksL 62 w.heap.size wr.heap.size w3 l (fun x => !inP st x s)) := Lib.hid (fun wx hb x hx => joinfn_any (HH3.out.below hb) HA.out hl w.heap.size wr.heap.size s x ((hb.block _ (lt_of_block HK34.out)).trans HK34.out) ((hb.block _ (lt_of_block HK33.out)).trans HK33.out))
        go_wp2_with fail
        refine (fhas_any 62 w.heap.size wr.heap.size hrun (some ad) c l (Kd.C_below HS2.out HB3.out) hc hll _ HAs.out).mono ?_
        cases hany : l.any (fun x => !inP st x s) with
        | false =>
          have HR : Hid (joinP st l = s) := Lib.hid (by rw [HE.out]; simp only [joinF]; rw [if_pos ⟨hk, hany⟩])
          clear hany hk
          rintro e4 w4 ⟨rfl, hb4⟩
          have z4 : w4.cell? ⟨wr.heap.size, 0, none⟩ = some (.int .i64 s) := blk_cell ((hb4.block _ (lt_of_block HK33.out)).trans HK33.out) 0
          have HB4 := Lib.hid (below_then HB3.out HB3.out.size hb4)
          clear hb4
          go_wp2_with fail
          go_ret
          exact ⟨by rw [HR.out]; rfl, below_then HB2.out HB2.out.size HB4.out⟩
        | true =>
          have HR : Hid (joinP st l = joinF st l ((upP st a).drop (q + 1))) := Lib.hid (by rw [HE.out]; simp only [joinF]; rw [if_neg (fun h => by rw [hany] at h; cases h.2)])
          clear hany hk
          rintro e4 w4 ⟨rfl, hb4⟩
          have HB4 := Lib.hid (below_then HB3.out HB3.out.size hb4)
          clear hb4
          go_wp2_with fail
          go_roundw
          case rel => exact ⟨q + 1, by go_num, by omega, HB4, HR⟩
          case measure => simp [intOf]; omega
      · have d2 : (kindP st s == 2) = false := by simp [hk]
        have HR : Hid (joinP st l = joinF st l ((upP st a).drop (q + 1))) := Lib.hid (by rw [HE.out]; simp only [joinF]; rw [if_neg (fun h => hk h.1)])
        go_wp2_with fail
        go_roundw
        case rel => exact ⟨q + 1, by go_num, by omega, HB3, HR⟩
        case measure => simp [intOf]; omega
    · obtain rfl : q = (upP st a).length := by omega
      have HR : Hid (joinP st l = -1) := Lib.hid (by rw [HE.out, List.drop_length]; rfl)
      go_wp2_with fail
      go_ret
      exact ⟨by rw [HR.out]; rfl, HFin.out⟩
end
end Go.Proofs.YtemoonhnncopoaaGreatDoor
end
section
set_option linter.unusedVariables false
set_option linter.unusedSimpArgs false
namespace Go.Proofs.YtemoonhnncopoaaGreatDoor
open Go.RowKit Go.Proofs.YtemoonhnncopoaaGreatDoorW.PrintWords
open PX (T V)
theorem few_s {st : List Sta} {tr : List Tra} (h : fewP st tr = true) : (∀ x ∈ st, x.f2.length ≤ 1000 ∧ x.f3.length ≤ 1000 ∧ x.f4.length ≤ 1000) ∧ ∀ x ∈ tr, x.f3.length ≤ 1000 ∧ x.f5.length ≤ 1000 := by
  simp only [fewP, Bool.and_eq_true, decide_eq_true_eq, List.all_eq_true] at h
  obtain ⟨⟨⟨h1, h2⟩, h3⟩, h4⟩ := h
  refine ⟨fun x hx => ?_, fun x hx => ?_⟩
  · have := h3 x hx
    simp only [fewS, fewAP, Bool.and_eq_true, decide_eq_true_eq, List.all_eq_true] at this
    omega
  · have := h4 x hx
    simp only [fewT, fewAP, Bool.and_eq_true, decide_eq_true_eq, List.all_eq_true] at this
    omega
theorem erV_low {B B' : Nat} {w : World} {v : Value} {e : Er} (h : ErV B w v e) (hB : B' ≤ B) : ErV B' w v e := by
  cases e with
  | none => exact h
  | code c => exact h
  | spot a c => obtain ⟨g, h1, h2, h3⟩ := h; exact ⟨g, h1, by omega, h3⟩
theorem good_ahead {v : Int} {st : List Sta} {tr : List Tra} (h : chkP v st tr = .none) : Ahead st := by
  obtain ⟨_, h2, _⟩ := chk_none h
  exact ahead_of h2
set_option maxHeartbeats 8000000 in
set_option maxRecDepth 100000 in
theorem tnew_any (v : Int) (A B : Option Addr) (ca cb : Nat) (st : List Sta) (tr : List Tra) (hF : fewP st tr = true) (w : World) (hw : Laid w) (hM : ChM w A ca st B cb tr) :
    Calls Tryz.prog 26 #[ckV v A B st.length tr.length ca cb] w fun e w' => (∃ p ev, e = .returned (.tuple #[p, ev]) ∧ ((chkP v st tr = .none ∧ ∃ g, p = .pointer (some ⟨g, 0, none⟩) ∧ ev = .nilIface ∧ w.heap.size ≤ g ∧ TrM w' g v st tr) ∨ (chkP v st tr ≠ .none ∧ p = .pointer none ∧ ErV w.heap.size w' ev (chkP v st tr)))) ∧ Below w.heap.size w w' := by
  have k6 := eqErr
  have hb0 : Below w.heap.size w (w.alloc (.cells #[.int .i64 v, .slice A st.length ca, .slice B tr.length cb] 47)) := (Below.refl _ w).alloc (Nat.le_refl _) _
  have HB0 := Lib.hid hb0
  have HW := Lib.hid (hw.below hb0)
  have HM := Lib.hid (hM.below hb0)
  have HG := Lib.hid (blk_new w (.cells #[.int .i64 v, .slice A st.length ca, .slice B tr.length cb] 47))
  obtain ⟨hfc, hl1, hl2⟩ := few_of hF
  obtain ⟨hS, hT⟩ := few_s hF
  have HFC := Lib.hid hfc
  have HSl := Lib.hid hS
  have HTl := Lib.hid hT
  clear hb0 hw hM hfc hS hT
  go_enter Tryz.func26, Tryz.ntmps26
  go_wp2_with fail
  generalize w.alloc (.cells #[.int .i64 v, .slice A st.length ca, .slice B tr.length cb] 47) = w0 at HB0 HW HM HG ⊢
  have hk := HG.out
  obtain ⟨y0, y1, y2⟩ : w0.cell? ⟨w.heap.size, 0, none⟩ = some (.int .i64 v) ∧ w0.cell? ⟨w.heap.size, 1, none⟩ = some (.slice A st.length ca) ∧ w0.cell? ⟨w.heap.size, 2, none⟩ = some (.slice B tr.length cb) := ⟨blk_cell hk 0, blk_cell hk 1, blk_cell hk 2⟩
  clear hk
  go_wp2_with fail
  refine (check_any v A B ca cb st tr HFC.out _ HW.out HM.out).mono ?_
  rintro e w1 ⟨ev, rfl, hev, hb1⟩
  have HB1 := Lib.hid (below_then HB0.out HB0.out.size hb1)
  by_cases he : chkP v st tr = .none
  · obtain rfl := er_nil hev he
    have HE := Lib.hid he
    have hk := (hb1.block _ (lt_of_block HG.out)).trans HG.out
    clear y0 y1 y2
    obtain ⟨y0, y1, y2⟩ : w1.cell? ⟨w.heap.size, 0, none⟩ = some (.int .i64 v) ∧ w1.cell? ⟨w.heap.size, 1, none⟩ = some (.slice A st.length ca) ∧ w1.cell? ⟨w.heap.size, 2, none⟩ = some (.slice B tr.length cb) := ⟨blk_cell hk 0, blk_cell hk 1, blk_cell hk 2⟩
    have HM1 := Lib.hid (HM.out.below hb1)
    clear he hev hk hb1
    go_wp2_with fail
    refine (copied_any v A B ca cb st tr (by have := (chk_none HE.out).1; omega) (by omega) (by omega) HSl.out HTl.out _ HM1.out).mono ?_
    rintro e w2 ⟨A', ca', B', cb', rfl, hM2, hb2⟩
    have HB2 := Lib.hid (below_then HB1.out HB1.out.size hb2)
    have hal : Below w2.heap.size w2 (w2.alloc (.cells #[.int .i64 v, .slice A' st.length ca', .slice B' tr.length cb'] 106)) := (Below.refl _ w2).alloc (Nat.le_refl _) _
    have HTr := Lib.hid (show TrM (w2.alloc (.cells #[.int .i64 v, .slice A' st.length ca', .slice B' tr.length cb'] 106)) w2.heap.size v st tr from ⟨A', ca', B', cb', blk_new w2 _, hM2.below hal⟩)
    have HB3 := Lib.hid (below_then HB2.out HB2.out.size hal)
    clear hM2 hal hb2
    go_wp2_with fail
    go_ret2
    exact ⟨⟨_, _, rfl, .inl ⟨HE.out, _, rfl, rfl, HB2.out.size, HTr.out⟩⟩, HB3.out⟩
  · have HE := Lib.hid he
    have HEv := Lib.hid (erV_low hev HB0.out.size)
    rcases er_some hev he with ⟨c, rfl⟩ | ⟨c, rfl⟩
    all_goals
      clear he hev
      go_wp2_with fail
      go_ret2
      exact ⟨⟨_, _, rfl, .inr ⟨HE.out, rfl, HEv.out⟩⟩, HB1.out⟩
set_option maxHeartbeats 8000000 in
set_option maxRecDepth 100000 in
theorem least7_any (w : World) : Calls Tryz.prog 56 #[] w fun e w' => ∃ A, e = .returned (ckV 0 A none 2 0 2 0) ∧ ChM w' A 2 least2 none 0 [] ∧ Below w.heap.size w w' := by
  go_enter Tryz.func56, Tryz.ntmps56
  go_wp2_with fail
  have e1 : (w.alloc (.cells #[.int .i64 0, .slice (some ⟨w.heap.size + 1 + 1, 0, none⟩) 2 2, .slice none 0 0] 47)).heap.size = w.heap.size + 1 := by simp
  have k1 := blk_new w (.cells #[.int .i64 0, .slice (some ⟨w.heap.size + 1 + 1, 0, none⟩) 2 2, .slice none 0 0] 47)
  have b1 : Below w.heap.size w (w.alloc (.cells #[.int .i64 0, .slice (some ⟨w.heap.size + 1 + 1, 0, none⟩) 2 2, .slice none 0 0] 47)) := (Below.refl _ w).alloc (Nat.le_refl _) _
  generalize w.alloc (.cells #[.int .i64 0, .slice (some ⟨w.heap.size + 1 + 1, 0, none⟩) 2 2, .slice none 0 0] 47) = w1 at e1 k1 b1 ⊢
  have e2 : (w1.alloc (.cells #[.int .i64 1] 3)).heap.size = w.heap.size + 1 + 1 := by simp [e1]
  have k2 := blk_new w1 (.cells #[.int .i64 1] 3)
  have b2 : Below w1.heap.size w1 (w1.alloc (.cells #[.int .i64 1] 3)) := (Below.refl _ w1).alloc (Nat.le_refl _) _
  rw [e1] at k2
  generalize w1.alloc (.cells #[.int .i64 1] 3) = w2 at e2 k2 b2 ⊢
  have k3 := blk_new w2 (.cells #[.int .i64 2, .int .i64 (-1), .slice (some ⟨w.heap.size + 1, 0, none⟩) 1 1, .slice none 0 0, .slice none 0 0, .int .i64 1, .int .i64 0, .slice none 0 0, .slice none 0 0, .slice none 0 0] 54)
  have b3 : Below w2.heap.size w2 (w2.alloc (.cells #[.int .i64 2, .int .i64 (-1), .slice (some ⟨w.heap.size + 1, 0, none⟩) 1 1, .slice none 0 0, .slice none 0 0, .int .i64 1, .int .i64 0, .slice none 0 0, .slice none 0 0, .slice none 0 0] 54)) := (Below.refl _ w2).alloc (Nat.le_refl _) _
  rw [e2] at k3
  generalize w2.alloc (.cells #[.int .i64 2, .int .i64 (-1), .slice (some ⟨w.heap.size + 1, 0, none⟩) 1 1, .slice none 0 0, .slice none 0 0, .int .i64 1, .int .i64 0, .slice none 0 0, .slice none 0 0, .slice none 0 0] 54) = w3 at k3 b3 ⊢
  have c1 := (b3.block _ (by omega)).trans ((b2.block _ (by omega)).trans k1)
  have c2 := (b3.block _ (by omega)).trans k2
  refine bodyPost_ret (results_cell_row rfl _ _ w.heap.size 47 _ (0, 0) _ rfl c1 Tryz.underlying47 rfl (by kernel_rfl)) rfl ?_
  exact ⟨some ⟨w.heap.size + 1 + 1, 0, none⟩, rfl, ⟨states2 (i0 := [1]) k3 (by simp) (one_new c2), Nat.le_refl _, nilC _ _, Nat.le_refl _⟩, below_then (below_then b1 (by omega) b2) (by omega) b3⟩
theorem few7 : fewP least2 [] = true := by decide
theorem kind7 : kindP least2 1 = 1 := by decide
theorem up70 : upP least2 0 = [] := by decide
theorem in710 : (decide ((0 : Int) ≤ 0) && inC least2 1 0) = true := by decide
theorem bel70 : belP least2 0 = 2 := by decide
set_option maxHeartbeats 8000000 in
set_option maxRecDepth 100000 in
theorem up07 (w : World) (hw : Laid w) : Calls Tryz.prog 24 #[] w fun e w' => e = .returned (.bool true) ∧ Below w.heap.size w w' := by
  have k6 := eqErr
  have HW := Lib.hid hw
  have HA : Hid (Ahead least2) := Lib.hid (good_ahead chk2)
  clear hw
  go_enter Tryz.func24, Tryz.ntmps24
  go_wp2_with fail
  refine (least7_any w).mono ?_
  rintro e w1 ⟨A, rfl, hM, hb1⟩
  have HM := Lib.hid hM
  have HB1 := Lib.hid hb1
  clear hM hb1
  go_wp2_with fail
  refine (tnew_any 0 A none 2 0 least2 [] few7 _ (HW.out.below HB1.out) HM.out).mono ?_
  rintro e w2 ⟨⟨p, ev, rfl, h⟩, hb2⟩
  rcases h with ⟨_, g, rfl, rfl, hg, hT⟩ | ⟨h, _⟩
  rotate_left
  · exact absurd chk2 h
  have HT := Lib.hid hT
  have HB2 := Lib.hid (below_then HB1.out HB1.out.size hb2)
  clear hT hb2
  go_wp2_with fail
  refine (tnew_any 0 none none 0 0 [] [] rfl _ (HW.out.below HB2.out) ⟨nilC _ _, Nat.le_refl _, nilC _ _, Nat.le_refl _⟩).mono ?_
  rw [chk0]
  rintro e w3 ⟨⟨p, ev, rfl, h⟩, hb3⟩
  rcases h with ⟨h, _⟩ | ⟨_, rfl, hev⟩
  · cases h
  obtain rfl : ev = .iface 93 (.int .i64 3) := hev
  have HT3 := Lib.hid (HT.out.below hb3)
  have HB3 := Lib.hid (below_then HB2.out HB2.out.size hb3)
  clear hb3
  go_wp2_with fail
  refine (tup_any HT3.out HA.out (by decide) 0).mono ?_
  rw [up70]
  rintro e w4 ⟨u, rfl, hu, hb4⟩
  obtain ⟨Bu, cap, rfl⟩ := Kd.R_slice hu
  have HT4 := Lib.hid (HT3.out.below hb4)
  have HB4 := Lib.hid (below_then HB3.out HB3.out.size hb4)
  clear hb4 hu
  go_wp2_with fail
  refine (tin_any HT4.out HA.out (by decide) 1 0).mono ?_
  rw [in710]
  rintro e w5 ⟨rfl, hb5⟩
  have HT5 := Lib.hid (HT4.out.below hb5)
  have HB5 := Lib.hid (below_then HB4.out HB4.out.size hb5)
  clear hb5
  go_wp2_with fail
  refine (tbel_any HT5.out HA.out (by decide) 0).mono ?_
  rw [bel70]
  rintro e w6 ⟨rfl, hb6⟩
  have HT6 := Lib.hid (HT5.out.below hb6)
  have HB6 := Lib.hid (below_then HB5.out HB5.out.size hb6)
  clear hb6
  go_wp2_with fail
  refine (tkind_any HT6.out 1).mono ?_
  rw [kind7]
  rintro e w7 ⟨rfl, hb7⟩
  go_wp2_with fail
  go_ret
  exact ⟨rfl, below_then HB6.out HB6.out.size hb7⟩
end Go.Proofs.YtemoonhnncopoaaGreatDoor
end
section
set_option linter.unusedVariables false
set_option linter.unusedSimpArgs false
namespace Go.Proofs.YtemoonhnncopoaaGreatDoor
open Go.RowKit Go.Proofs.YtemoonhnncopoaaGreatDoorW.PrintWords
open PX (T V)
def pastP (st : List Sta) (s : Int) : Bool := decide ((rdS st s).f0 = 5 ∨ (rdS st s).f0 = 6)
theorem past_f (st : List Sta) (tr : List Tra) (v s : Int) (h : thS st s) : PAll.spinetref07_Past.f v st tr s = some (pastP st s) := by
  unfold PAll.spinetref07_Past.f pastP
  rw [if_pos h.1, if_pos h.2]
  by_cases h5 : (rdS st s).f0 = 5
  · rw [if_pos h5, decide_eq_true (.inl h5)]
  · rw [if_neg h5]
    by_cases h6 : (rdS st s).f0 = 6
    · rw [decide_eq_true (.inr h6)]; congr 1; simp [h6]
    · rw [decide_eq_false (by omega)]; congr 1; simp [h6]
theorem hasb_ev (d : Nat) : ∀ (x : Nat) (i s : Nat), x < 4294967296 → i ≤ s → s - i = d → s ≤ 1000000 → Ev (fun k => PAll.spinetref07_Has.l0 k (x : Int) (s : Int) (i : Int)) (x.testBit d) := by
  induction d with
  | zero =>
    intro x i s hx hi hd hs
    obtain rfl : i = s := by omega
    refine Ev.step (fun k => rfl) ?_
    simp only [PAll.spinetref07_Has.l0]
    refine ev_neg (by omega) (ev_pos (by omega) (ev_is ?_ (Ev.now _)))
    rw [Nat.testBit_zero]
    have : Int.tmod (x : Int) 2 = ((x % 2 : Nat) : Int) := by rw [Int.tmod_eq_emod_of_nonneg (by omega)]; omega
    rw [this]
    by_cases h : x % 2 = 1
    · rw [decide_eq_true h, h]; rfl
    · rw [decide_eq_false h, show x % 2 = 0 by omega]; rfl
  | succ d ih =>
    intro x i s hx hi hd hs
    refine Ev.step (fun k => rfl) ?_
    simp only [PAll.spinetref07_Has.l0]
    refine ev_pos (by omega) ?_
    have e1 : Int.tdiv (x : Int) 2 % 4294967296 = ((x / 2 : Nat) : Int) := by rw [Int.tdiv_eq_ediv_of_nonneg (by omega)]; omega
    rw [w64 (by omega) (by omega), e1, Nat.testBit_succ]
    exact ih (x / 2) (i + 1) s (by omega) (by omega) (by omega) hs
theorem hasb_any (x : Nat) (s : Nat) (hx : x < 4294967296) (hs : s ≤ 1000000) (w : World) : Calls Tryz.prog 33 #[.int .u32 (x : Int), .int .i64 (s : Int)] w fun e w' => e = .returned (.bool (x.testBit s)) ∧ Below w.heap.size w w' := by
  obtain ⟨k, hk⟩ := Ev.rounds (show Ev (fun k => PAll.spinetref07_Has.f k (x : Int) (s : Int)) (x.testBit s) from hasb_ev s x 0 s hx (by omega) (by omega) hs)
  refine (PAll.spinetref07_Has.calls k (x : Int) (s : Int) _ w hk).mono ?_
  rintro e w' ⟨rfl, hb⟩
  exact ⟨rfl, drawn_below hb⟩
theorem past_any {w : World} {A B : Option Addr} {ca cb : Nat} {st : List Sta} {tr : List Tra} (h : ChM w A ca st B cb tr) (v s : Int) (hs : thS st s) : Calls Tryz.prog 32 #[ckV v A B st.length tr.length ca cb, .int .i64 s] w fun e w' => e = .returned (.bool (pastP st s)) ∧ Below w.heap.size w w' :=
  PAll.spinetref07_Past.calls v A ca st B cb tr s _ w h.cs h.sc h.ct h.tc (past_f st tr v s hs)
theorem good_kind {v : Int} {st : List Sta} {tr : List Tra} (h : chkP v st tr = .none) {s : Int} (hs : thS st s) : 1 ≤ (rdS st s).f0 ∧ (rdS st s).f0 ≤ 6 := by
  have := (chk_none h).2.1 s hs.1 hs.2
  unfold stateP at this
  split at this
  · omega
  · rename_i h1
    simp only [not_or] at h1
    obtain ⟨h1, h2, _⟩ := h1
    show 1 ≤ (PAll.rd_T54 st s).f0 ∧ (PAll.rd_T54 st s).f0 ≤ 6
    omega
theorem inP_self (st : List Sta) (x : Int) : inP st x x = false := by
  unfold inP; rw [inC_low _ _ _ (.inl (Int.le_refl _)), Bool.and_false]
theorem inP_two {st : List Sta} {x y : Int} (h : inP st x y = true) : inP st y x = false := by
  unfold inP at h ⊢
  rw [Bool.and_eq_true] at h
  have := inC_lt h.2
  rw [inC_low _ _ _ (.inl (by omega)), Bool.and_false]
theorem inP_three {st : List Sta} {x y z : Int} (h : inP st x y = true) (k : inP st y z = true) : inP st x z = true := by
  unfold inP at h k ⊢
  rw [Bool.and_eq_true] at h k ⊢
  exact ⟨k.1, in_trans k.2 x.toNat x (Nat.le_refl _) h.2⟩
theorem joinF_in {st : List Sta} {l : List Int} (u : List Int) : 0 ≤ joinF st l u → kindP st (joinF st l u) = 2 ∧ ∀ x ∈ l, inP st x (joinF st l u) = true := by
  induction u with
  | nil => intro h; exact absurd h (by simp [joinF])
  | cons s r ih =>
    intro h
    simp only [joinF] at h ⊢
    by_cases c : kindP st s = 2 ∧ l.any (fun x => !inP st x s) = false
    · rw [if_pos c]
      refine ⟨c.1, fun x hx => ?_⟩
      have := c.2
      rw [List.any_eq_false] at this
      simpa using this x hx
    · rw [if_neg c] at h ⊢
      exact ih h
theorem bel_lt {st : List Sta} (hl : st.length ≤ 24) (s : Int) : belP st s < 4294967296 := by
  have h1 := setN_lt st (fun x => inP st x s) st.length
  have h2 : 2 ^ st.length ≤ 2 ^ 24 := Nat.pow_le_pow_right (by omega) hl
  have h3 : (2 : Nat) ^ 24 < 4294967296 := by decide
  unfold belP
  omega
theorem bel_has {v : Int} {st : List Sta} {tr : List Tra} (h : chkP v st tr = .none) (x : Int) (s : Nat) (hs : s < st.length) : (belP st x).testBit s = (inP st (s : Int) x && !pastP st (s : Int)) := by
  obtain ⟨h1, h2⟩ := good_kind h (s := (s : Int)) ⟨by omega, by omega⟩
  unfold belP pastP
  rw [setN_bit, decide_eq_true hs, Bool.true_and, Bool.and_comm]
  congr 1
  by_cases c : (rdS st (s : Int)).f0 < 5
  · rw [decide_eq_true c, decide_eq_false (by omega)]; rfl
  · rw [decide_eq_false c, decide_eq_true (by omega)]; rfl
theorem two_new {W : World} {g ty : Nat} {x y : Int} (h : W.heap[g]? = some (.cells #[.int .i64 x, .int .i64 y] ty (0, 0))) : (Kd.int .i64).C W (some ⟨g, 0, none⟩) ([x, y] : List Int).length [x, y] := by
  refine ⟨rfl, by simp, fun _ => ⟨_, rfl, ?_⟩⟩
  intro j p hj
  have one : ∀ (k : Nat) (z : Int), (#[.int .i64 x, .int .i64 y] : Array Value)[k]? = some (.int .i64 z) → ∃ c : List Value, c.length = (Kd.int .i64).sz ∧ (Kd.int .i64).K W z c ∧ ∀ i u, c[i]? = some u → W.cell? ((⟨g, 0, none⟩ : Addr).add (k * (Kd.int .i64).sz + i)) = some u := by
    intro k z hk
    refine ⟨[.int .i64 z], rfl, rfl, ?_⟩
    intro i u hi
    rw [add_at]
    match i, hi with
    | 0, hi =>
      simp only [List.getElem?_cons_zero, Option.some.injEq] at hi
      subst hi
      have e : 0 + (k * (Kd.int .i64).sz + 0) = k := by show 0 + (k * 1 + 0) = k; omega
      rw [e, blk_cell h k]
      exact hk
    | n + 1, hi => simp at hi
  match j, hj with
  | 0, hj => simp only [List.getElem?_cons_zero, Option.some.injEq] at hj; subst hj; exact one 0 _ rfl
  | 1, hj => simp only [List.getElem?_cons_zero, List.getElem?_cons_succ, Option.some.injEq] at hj; subst hj; exact one 1 _ rfl
  | n + 2, hj => simp at hj
theorem tin_is {w : World} {g : Nat} {v : Int} {st : List Sta} {tr : List Tra} (h : TrM w g v st tr) (ha : Ahead st) (hl : st.length ≤ 24) (a b : Int) {r : Bool} (hr : inP st a b = r) : Calls Tryz.prog 29 #[.pointer (some ⟨g, 0, none⟩), .int .i64 a, .int .i64 b] w fun e w' => e = .returned (.bool r) ∧ Below w.heap.size w w' := by
  subst hr
  exact tin_any h ha (by omega) a b
set_option maxHeartbeats 16000000 in
set_option maxRecDepth 100000 in
theorem TreeOrder_walk (w : World) (hw : Laid w) (cs : Array Value) (x0 : Int × List StaT × List TraT × Unit) (v1 v2 v3 : Value) (x y z : Int) (h0 : RChart.ok (fun b => b < w.heap.size) w cs.toList x0) (h1 : (Rep.int .i64).ok (fun b => b < w.heap.size) w [v1] x) (h2 : (Rep.int .i64).ok (fun b => b < w.heap.size) w [v2] y) (h3 : (Rep.int .i64).ok (fun b => b < w.heap.size) w [v3] z) :
    Calls Tryz.prog 6 #[.agg cs, v1, v2, v3] w fun e w' => e = .returned (.bool true) ∧ Below w.heap.size w w' := by
  obtain ⟨A, ca, B, cb, st, tr, hcs, hM⟩ := chartArg h0
  obtain ⟨h1, _⟩ := h1
  obtain rfl : v1 = .int .i64 x := by simpa using h1
  obtain ⟨h2, _⟩ := h2
  obtain rfl : v2 = .int .i64 y := by simpa using h2
  obtain ⟨h3, _⟩ := h3
  obtain rfl : v3 = .int .i64 z := by simpa using h3
  rw [hcs]
  generalize x0.1 = v at *
  clear h0 hcs h1 h2 h3
  have hb0 : Below w.heap.size w (w.alloc (.cells #[.int .i64 v, .slice A st.length ca, .slice B tr.length cb] 47)) := (Below.refl _ w).alloc (Nat.le_refl _) _
  have HB0 := Lib.hid hb0
  have HWE := Lib.hid (hw.below hb0)
  have HM := Lib.hid (hM.below hb0)
  have HG := Lib.hid (blk_new w (.cells #[.int .i64 v, .slice A st.length ca, .slice B tr.length cb] 47))
  clear hb0 hw hM
  go_enter Tryz.func6, Tryz.ntmps6
  go_wp2_with fail
  generalize w.alloc (.cells #[.int .i64 v, .slice A st.length ca, .slice B tr.length cb] 47) = w0 at HB0 HWE HM HG ⊢
  have hfin : ∀ wr, Below w0.heap.size w0 wr → Below w.heap.size w wr := fun wr h => HB0.out.trans (h.mono HB0.out.size)
  have HFin := Lib.hid hfin
  clear hfin
  refine (up07 _ HWE.out).mono ?_
  rintro e w1 ⟨rfl, hb1⟩
  have HB1 := Lib.hid hb1
  have hk := (hb1.block _ (lt_of_block HG.out)).trans HG.out
  obtain ⟨y0, y1, y2⟩ : w1.cell? ⟨w.heap.size, 0, none⟩ = some (.int .i64 v) ∧ w1.cell? ⟨w.heap.size, 1, none⟩ = some (.slice A st.length ca) ∧ w1.cell? ⟨w.heap.size, 2, none⟩ = some (.slice B tr.length cb) := ⟨blk_cell hk 0, blk_cell hk 1, blk_cell hk 2⟩
  clear hk hb1
  go_wp2_with fail
  refine (fewc_any (HM.out.below HB1.out) v).mono ?_
  cases hf : fewP st tr with
  | false =>
    rintro e w2 ⟨rfl, hb2⟩
    go_wp2_with fail
    go_ret
    exact ⟨rfl, HFin.out _ (below_then HB1.out HB1.out.size hb2)⟩
  | true =>
    have HF := Lib.hid hf
    clear hf
    rintro e w2 ⟨rfl, hb2⟩
    have HB2 := Lib.hid (below_then HB1.out HB1.out.size hb2)
    have hk := (HB2.out.block _ (lt_of_block HG.out)).trans HG.out
    clear y0 y1 y2
    obtain ⟨y0, y1, y2⟩ : w2.cell? ⟨w.heap.size, 0, none⟩ = some (.int .i64 v) ∧ w2.cell? ⟨w.heap.size, 1, none⟩ = some (.slice A st.length ca) ∧ w2.cell? ⟨w.heap.size, 2, none⟩ = some (.slice B tr.length cb) := ⟨blk_cell hk 0, blk_cell hk 1, blk_cell hk 2⟩
    clear hk hb2
    go_wp2_with fail
    refine (tnew_any v A B ca cb st tr HF.out _ (HWE.out.below HB2.out) (HM.out.below HB2.out)).mono ?_
    rintro e w3 ⟨⟨p, ev, rfl, h⟩, hb3⟩
    have HB3 := Lib.hid (below_then HB2.out HB2.out.size hb3)
    clear y0 y1 y2 hb3
    rcases h with ⟨he, g, rfl, rfl, hg, hT⟩ | ⟨he, rfl, hev⟩
    rotate_left
    · rcases er_some hev he with ⟨c, rfl⟩ | ⟨c, rfl⟩
      all_goals
        clear hev he
        go_wp2_with fail
        go_ret
        exact ⟨rfl, HFin.out _ HB3.out⟩
    have HT3 := Lib.hid hT
    have HE := Lib.hid he
    have HA := Lib.hid (good_ahead he)
    have hl : st.length ≤ 24 := (chk_none he).1.2.2.2.1
    clear hT he hg
    -- region 8
    have hor : inP st x y = false ∨ (inP st x y = true ∧ inP st y x = false ∧ inP st y z = false) ∨ (inP st x y = true ∧ inP st y x = false ∧ inP st y z = true ∧ inP st x z = true) := by
      cases h1 : inP st x y with
      | false => exact .inl rfl
      | true =>
        cases h2 : inP st y z with
        | false => exact .inr (.inl ⟨rfl, inP_two h1, rfl⟩)
        | true => exact .inr (.inr ⟨rfl, inP_two h1, rfl, inP_three h1 h2⟩)
    rcases hor with q1 | ⟨q1, q2, q3⟩ | ⟨q1, q2, q3, q4⟩
    case' inl =>
      have Q1 := Lib.hid q1
      clear q1
      go_wp2_with fail
      refine (tin_is HT3.out HA.out hl x x (inP_self st x)).mono ?_
      rintro e w4 ⟨rfl, hb4⟩
      have HT4 := Lib.hid (HT3.out.below hb4)
      have HB4 := Lib.hid (below_then HB3.out HB3.out.size hb4)
      clear hb4 HT3 HB3
      go_wp2_with fail
      refine (tin_is HT4.out HA.out hl x y (Q1.out)).mono ?_
      rintro e w5 ⟨rfl, hb5⟩
      have HT5 := Lib.hid (HT4.out.below hb5)
      have HB5 := Lib.hid (below_then HB4.out HB4.out.size hb5)
      clear hb5 HT4 HB4
      go_wp2_with fail
      refine (tin_is HT5.out HA.out hl x y (Q1.out)).mono ?_
      rintro e w6 ⟨rfl, hb6⟩
      have HT6 := Lib.hid (HT5.out.below hb6)
      have HB6 := Lib.hid (below_then HB5.out HB5.out.size hb6)
      clear hb6 HT5 HB5
      go_wp2_with fail
      clear Q1
      obtain ⟨we, HTe, HBe, hwe⟩ : ∃ we, Hid (TrM we g v st tr) ∧ Hid (Below w0.heap.size w0 we) ∧ we = w6 := ⟨_, HT6, HB6, rfl⟩
      rw [← hwe]
      clear hwe HT6 HB6
    case' inr.inl =>
      have Q1 := Lib.hid q1
      have Q2 := Lib.hid q2
      have Q3 := Lib.hid q3
      clear q1 q2 q3
      go_wp2_with fail
      refine (tin_is HT3.out HA.out hl x x (inP_self st x)).mono ?_
      rintro e w4 ⟨rfl, hb4⟩
      have HT4 := Lib.hid (HT3.out.below hb4)
      have HB4 := Lib.hid (below_then HB3.out HB3.out.size hb4)
      clear hb4 HT3 HB3
      go_wp2_with fail
      refine (tin_is HT4.out HA.out hl x y (Q1.out)).mono ?_
      rintro e w5 ⟨rfl, hb5⟩
      have HT5 := Lib.hid (HT4.out.below hb5)
      have HB5 := Lib.hid (below_then HB4.out HB4.out.size hb5)
      clear hb5 HT4 HB4
      go_wp2_with fail
      refine (tin_is HT5.out HA.out hl y x (Q2.out)).mono ?_
      rintro e w6 ⟨rfl, hb6⟩
      have HT6 := Lib.hid (HT5.out.below hb6)
      have HB6 := Lib.hid (below_then HB5.out HB5.out.size hb6)
      clear hb6 HT5 HB5
      go_wp2_with fail
      refine (tin_is HT6.out HA.out hl x y (Q1.out)).mono ?_
      rintro e w7 ⟨rfl, hb7⟩
      have HT7 := Lib.hid (HT6.out.below hb7)
      have HB7 := Lib.hid (below_then HB6.out HB6.out.size hb7)
      clear hb7 HT6 HB6
      go_wp2_with fail
      refine (tin_is HT7.out HA.out hl y z (Q3.out)).mono ?_
      rintro e w8 ⟨rfl, hb8⟩
      have HT8 := Lib.hid (HT7.out.below hb8)
      have HB8 := Lib.hid (below_then HB7.out HB7.out.size hb8)
      clear hb8 HT7 HB7
      go_wp2_with fail
      clear Q1 Q2 Q3
      obtain ⟨we, HTe, HBe, hwe⟩ : ∃ we, Hid (TrM we g v st tr) ∧ Hid (Below w0.heap.size w0 we) ∧ we = w8 := ⟨_, HT8, HB8, rfl⟩
      rw [← hwe]
      clear hwe HT8 HB8
    case' inr.inr =>
      have Q1 := Lib.hid q1
      have Q2 := Lib.hid q2
      have Q3 := Lib.hid q3
      have Q4 := Lib.hid q4
      clear q1 q2 q3 q4
      go_wp2_with fail
      refine (tin_is HT3.out HA.out hl x x (inP_self st x)).mono ?_
      rintro e w4 ⟨rfl, hb4⟩
      have HT4 := Lib.hid (HT3.out.below hb4)
      have HB4 := Lib.hid (below_then HB3.out HB3.out.size hb4)
      clear hb4 HT3 HB3
      go_wp2_with fail
      refine (tin_is HT4.out HA.out hl x y (Q1.out)).mono ?_
      rintro e w5 ⟨rfl, hb5⟩
      have HT5 := Lib.hid (HT4.out.below hb5)
      have HB5 := Lib.hid (below_then HB4.out HB4.out.size hb5)
      clear hb5 HT4 HB4
      go_wp2_with fail
      refine (tin_is HT5.out HA.out hl y x (Q2.out)).mono ?_
      rintro e w6 ⟨rfl, hb6⟩
      have HT6 := Lib.hid (HT5.out.below hb6)
      have HB6 := Lib.hid (below_then HB5.out HB5.out.size hb6)
      clear hb6 HT5 HB5
      go_wp2_with fail
      refine (tin_is HT6.out HA.out hl x y (Q1.out)).mono ?_
      rintro e w7 ⟨rfl, hb7⟩
      have HT7 := Lib.hid (HT6.out.below hb7)
      have HB7 := Lib.hid (below_then HB6.out HB6.out.size hb7)
      clear hb7 HT6 HB6
      go_wp2_with fail
      refine (tin_is HT7.out HA.out hl y z (Q3.out)).mono ?_
      rintro e w8 ⟨rfl, hb8⟩
      have HT8 := Lib.hid (HT7.out.below hb8)
      have HB8 := Lib.hid (below_then HB7.out HB7.out.size hb8)
      clear hb8 HT7 HB7
      go_wp2_with fail
      refine (tin_is HT8.out HA.out hl x z (Q4.out)).mono ?_
      rintro e w9 ⟨rfl, hb9⟩
      have HT9 := Lib.hid (HT8.out.below hb9)
      have HB9 := Lib.hid (below_then HB8.out HB8.out.size hb9)
      clear hb9 HT8 HB8
      go_wp2_with fail
      clear Q1 Q2 Q3 Q4
      obtain ⟨we, HTe, HBe, hwe⟩ : ∃ we, Hid (TrM we g v st tr) ∧ Hid (Below w0.heap.size w0 we) ∧ we = w9 := ⟨_, HT9, HB9, rfl⟩
      rw [← hwe]
      clear hwe HT9 HB9
    all_goals
      have hal : Below we.heap.size we (we.alloc (.cells #[.int .i64 x, .int .i64 y] 3)) := (Below.refl _ we).alloc (Nat.le_refl _) _
      have HC := Lib.hid (two_new (x := x) (y := y) (blk_new we (.cells #[.int .i64 x, .int .i64 y] 3)))
      have HTa := Lib.hid (HTe.out.below hal)
      have HBa := Lib.hid (below_then HBe.out HBe.out.size hal)
      clear hal HTe HBe
      go_wp2_with fail
      generalize we.alloc (.cells #[.int .i64 x, .int .i64 y] 3) = wa at HC HTa HBa ⊢
      refine (tjoin_any HTa.out HA.out (by omega) (some ⟨we.heap.size, 0, none⟩) 2 [x, y] HC.out (Nat.le_refl _) (by simp)).mono ?_
      have hjj : 0 ≤ joinP st [x, y] → kindP st (joinP st [x, y]) = 2 ∧ inP st x (joinP st [x, y]) = true ∧ inP st y (joinP st [x, y]) = true := fun h => by
        obtain ⟨h1, h2⟩ := joinF_in (upP st x) h
        exact ⟨h1, h2 x (by simp), h2 y (by simp)⟩
      generalize joinP st [x, y] = m at hjj ⊢
      rintro e wb ⟨rfl, hbb⟩
      have HTb := Lib.hid (HTa.out.below hbb)
      have HBb := Lib.hid (below_then HBa.out HBa.out.size hbb)
      clear hbb HTa HBa HC
      have hml : (decide (m ≥ 0) = false ∧ decide (0 ≤ m) = false) ∨ (decide (m ≥ 0) = true ∧ decide (0 ≤ m) = true ∧ kindP st m = 2 ∧ inP st x m = true ∧ inP st y m = true) := by
        by_cases c : 0 ≤ m
        · exact .inr ⟨decide_eq_true c, decide_eq_true c, hjj c⟩
        · exact .inl ⟨decide_eq_false c, decide_eq_false c⟩
      clear hjj
      rcases hml with ⟨dm, dm'⟩ | ⟨dm, dm', km, xm, ym⟩
      case' inl =>
        go_wp2_with fail
        obtain ⟨wf, HTf, HBf, hwf⟩ : ∃ wf, Hid (TrM wf g v st tr) ∧ Hid (Below w0.heap.size w0 wf) ∧ wf = wb := ⟨_, HTb, HBb, rfl⟩
        rw [← hwf]
        clear hwf HTb HBb
      case' inr =>
        have KM := Lib.hid km
        have XM := Lib.hid xm
        have YM := Lib.hid ym
        clear km xm ym
        go_wp2_with fail
        refine (tin_is HTb.out HA.out hl x m XM.out).mono ?_
        rintro e wc ⟨rfl, hbc⟩
        have HTc := Lib.hid (HTb.out.below hbc)
        have HBc := Lib.hid (below_then HBb.out HBb.out.size hbc)
        clear hbc HTb HBb
        go_wp2_with fail
        refine (tin_is HTc.out HA.out hl y m YM.out).mono ?_
        rintro e wd ⟨rfl, hbd⟩
        have HTd := Lib.hid (HTc.out.below hbd)
        have HBd := Lib.hid (below_then HBc.out HBc.out.size hbd)
        clear hbd HTc HBc
        go_wp2_with fail
        refine (tkind_any HTd.out m).mono ?_
        rw [KM.out]
        rintro e wk ⟨rfl, hbk⟩
        have HTk := Lib.hid (HTd.out.below hbk)
        have HBk := Lib.hid (below_then HBd.out HBd.out.size hbk)
        clear hbk HTd HBd
        go_wp2_with fail
        obtain ⟨wf, HTf, HBf, hwf⟩ : ∃ wf, Hid (TrM wf g v st tr) ∧ Hid (Below w0.heap.size w0 wf) ∧ wf = wk := ⟨_, HTk, HBk, rfl⟩
        rw [← hwf]
        clear hwf HTk HBk KM XM YM
      all_goals
        go_loopw [14] (fun i wr => ∃ q : Nat, i = .int .i64 q ∧ q ≤ st.length ∧ Hid (TrM wr g v st tr) ∧ Hid (Below w0.heap.size w0 wr)) (fun i _ => st.length - (intOf i).toNat)
        case atStart => exact ⟨0, rfl, Nat.zero_le _, HTf, HBf⟩
        case round =>
          clear HTf HBf
          obtain ⟨q, rfl, hq, HT, HB⟩ := hrel
          have hk := (HB.out.block _ (lt_of_block HG.out)).trans HG.out
          obtain ⟨y0, y1, y2⟩ : wr.cell? ⟨w.heap.size, 0, none⟩ = some (.int .i64 v) ∧ wr.cell? ⟨w.heap.size, 1, none⟩ = some (.slice A st.length ca) ∧ wr.cell? ⟨w.heap.size, 2, none⟩ = some (.slice B tr.length cb) := ⟨blk_cell hk 0, blk_cell hk 1, blk_cell hk 2⟩
          clear hk
          by_cases hlt : q < st.length
          · have p1 : ((q : Int) < (st.length : Int)) = True := eq_true (by omega)
            have HHas := Lib.hid (bel_has HE.out x q hlt)
            have HLb := Lib.hid (bel_lt hl x)
            go_wp2_with fail
            refine (past_any (HM.out.below HB.out) v (q : Int) ⟨by omega, by omega⟩).mono ?_
            rintro e x1 ⟨rfl, hx1⟩
            have HT1 := Lib.hid (HT.out.below hx1)
            have HB1 := Lib.hid (below_then HB.out HB.out.size hx1)
            clear hx1 HT HB y0 y1 y2
            go_wp2_with fail
            refine (tbel_any HT1.out HA.out hl x).mono ?_
            rintro e x2 ⟨rfl, hx2⟩
            have HT2 := Lib.hid (HT1.out.below hx2)
            have HB2 := Lib.hid (below_then HB1.out HB1.out.size hx2)
            clear hx2 HT1 HB1
            go_wp2_with fail
            refine (hasb_any (belP st x) q HLb.out (by omega) _).mono ?_
            rw [HHas.out]
            generalize hr : inP st (q : Int) x = r
            generalize pastP st (q : Int) = pp
            rintro e x3 ⟨rfl, hx3⟩
            have HT3 := Lib.hid (HT2.out.below hx3)
            have HB3 := Lib.hid (below_then HB2.out HB2.out.size hx3)
            have HR := Lib.hid hr
            clear hx3 HT2 HB2 hr HHas HLb
            go_wp2_with fail
            refine (tin_is HT3.out HA.out hl (q : Int) x HR.out).mono ?_
            rintro e x4 ⟨rfl, hx4⟩
            have HT4 := Lib.hid (HT3.out.below hx4)
            have HB4 := Lib.hid (below_then HB3.out HB3.out.size hx4)
            clear hx4 HT3 HB3 HR
            cases r <;> cases pp
            all_goals
              go_wp2_with fail
              go_roundw
              case rel => exact ⟨q + 1, by go_num, by omega, HT4, HB4⟩
              case measure => simp [intOf]; omega
          · obtain rfl : q = st.length := by omega
            have p1 : ((st.length : Int) < (st.length : Int)) = False := eq_false (by omega)
            go_wp2_with fail
            go_ret
            exact ⟨rfl, HFin.out _ HB.out⟩
end Go.Proofs.YtemoonhnncopoaaGreatDoor
end
section
set_option linter.unusedVariables false
set_option linter.unusedSimpArgs false
namespace Go.Proofs.YtemoonhnncopoaaGreatDoor
open Go.ChangeShapes Go.WideShapes Go.RowKit PX Go.Proofs.YtemoonhnncopoaaGreatDoorW.PrintWords
namespace Door
abbrev laid5 : List (String × DataW Unit) := [("math/bits.deBruijn32tab", Rows.laid_math_bits_deBruijn32tab), ("math/bits.deBruijn64tab", Rows.laid_math_bits_deBruijn64tab), ("internal/strconv.uint64pow10", Rows.laid_internal_strconv_uint64pow10), ("strconv.ErrRange", Rows.laid_strconv_ErrRange), ("strconv.ErrSyntax", Rows.laid_strconv_ErrSyntax)]
theorem gRange : Tryz.prog.globalNamed "strconv.ErrRange" = some 3 := by kernel_rfl
theorem gRangeT : (Tryz.prog.globals[3]?).map (·.type) = some 37 := by kernel_rfl
theorem gPow : Tryz.prog.globalNamed "internal/strconv.uint64pow10" = some 4 := by kernel_rfl
theorem gPowT : (Tryz.prog.globals[4]?).map (·.type) = some 261 := by kernel_rfl
theorem powT : Tryz.prog.underlying 261 = some (.array 20 170) := by kernel_rfl
theorem powIs {H : Type} : (Rows.laid_internal_strconv_uint64pow10 : DataW H) = Lib.tabData .u64 Lib.pow10Tab := rfl
theorem laid_of_met5 {W : World} (h : laidMet Tryz.prog laid5 W) : Laid W := by
  obtain ⟨g, t, cs, fuel, p, h1, h2, h3, h4⟩ := Lib.laidMet.reads h (n := "strconv.ErrRange") (d := Rows.laid_strconv_ErrRange) (.tail _ (.tail _ (.tail _ (.head _))))
  obtain rfl := Option.some.inj (gRange.symm.trans h1)
  obtain rfl := Option.some.inj (gRangeT.symm.trans h2)
  obtain ⟨_, u, v, he, _, _⟩ := iface_of_trod Tryz.underlying37 h4
  have hc : cs = #[.iface u v] := Array.eq_one_of_toList he
  subst hc
  obtain ⟨g, t, cs, fuel, p, k1, k2, k3, k4⟩ := Lib.laidMet.reads h (n := "internal/strconv.uint64pow10") (d := Rows.laid_internal_strconv_uint64pow10) (.tail _ (.tail _ (.head _)))
  obtain rfl := Option.some.inj (gPow.symm.trans k1)
  obtain rfl := Option.some.inj (gPowT.symm.trans k2)
  refine ⟨⟨u, v, h3⟩, ?_⟩
  unfold Lib.TabIs
  rw [powIs] at k4
  rw [k3, ← Lib.cells_of_tab powT (by kernel_rfl) (by kernel_rfl) (by kernel_rfl) k4]
theorem laid_of5 {W : World} (h : laidMetH Tryz.prog laid5 W) : Laid W := laid_of_met5 (laidMetH_iff.1 h).1
def cellsOfData : DataW Unit → Array Value
  | .agg l => (l.map fun | .lit (.int k z) => Value.int k z | _ => .nilIface).toArray
  | _ => #[]
noncomputable def laidWorld (os : Os) : World :=
  let N := (World.holding Tryz.prog os ⟨#[], #[], []⟩).heap.size
  let w0 := World.holding Tryz.prog os ⟨#[.cells #[.string ⟨#[118, 97, 108, 117, 101, 32, 111, 117, 116, 32, 111, 102, 32, 114, 97, 110, 103, 101]⟩] 253, .cells #[.string ⟨#[105, 110, 118, 97, 108, 105, 100, 32, 115, 121, 110, 116, 97, 120]⟩] 253], #[], []⟩
  let put (h : Array Obj) (g : Nat) (cs : Array Value) : Array Obj := h.modify g fun
    | .cells _ t frozen => .cells cs t frozen
    | o => o
  { w0 with heap := put (put (put (put (put (put w0.heap
      1 (cellsOfData Rows.laid_math_bits_deBruijn32tab)) 5 (cellsOfData Rows.laid_math_bits_deBruijn64tab)) 4 (cellsOfData Rows.laid_internal_strconv_uint64pow10))
      0 #[.iface 213 (.agg #[.pointer (some ⟨6, 37, none⟩)])]) 3 #[.iface 251 (.pointer (some ⟨N, 0, none⟩))]) 2 #[.iface 251 (.pointer (some ⟨N + 1, 0, none⟩))] }
theorem met5 (os : Os) (args : Array Value) : laidMet Tryz.prog laid5 ((laidWorld os).forCall (fun _ _ => 0) ⟨#[], args, []⟩).memory :=
  laidMet_of_run3 10 (by kernel_rfl) (by kernel_rfl) (by kernel_rfl)
theorem met5H (os : Os) (args : Array Value) : laidMetH Tryz.prog laid5 ((laidWorld os).forCall (fun _ _ => 0) ⟨#[], args, []⟩).memory :=
  laidMetH_of_parts (met5 os args) (by kernel_rfl)
end Door
end Go.Proofs.YtemoonhnncopoaaGreatDoor
end
