/- Texts of this claim, merged (ChFew, ChLaw, Actone, Tre, Tset, Tbel, Ebit, Tnew, Tord, Esh, Ekid, Town). -/
import Derived.Deep.RegionLawGrows
import Derived.Laws.BitsAllLaws
import Derived.Shelf.Spec.TrailingZeros
import Derived.Lib.LaidTab
import Derived.Deep.QuietTactic
import Derived.BigQuiet
import Derived.Test.YtemoonhnncopoaaGreatDoorZEnterWhole14
import Derived.Test.YtemoonhnncopoaaGreatDoorZEnterWhole15
import Derived.Test.YtemoonhnncopoaaGreatDoorZEnterWhole23
import Derived.Test.YtemoonhnncopoaaGreatDoorZEnterWhole20
import Derived.Test.YtemoonhnncopoaaGreatDoorZEnterWhole21
import Derived.Test.YtemoonhnncopoaaGreatDoorZEnterWhole16
import Derived.Test.YtemoonhnncopoaaGreatDoorZEnterWhole22
import Derived.Test.YtemoonhnncopoaaGreatDoorZEnterWhole17
import Derived.Test.YtemoonhnncopoaaGreatDoorZEnterWhole19
import Derived.Test.YtemoonhnncopoaaGreatDoorZEnterWhole18
set_option linter.unusedVariables false
set_option linter.unusedSimpArgs false
set_option maxRecDepth 100000
set_option maxHeartbeats 16000000
section
namespace Go.Proofs.YtemoonhnncopoaaGreatDoor
open Go.RowKit Go.Proofs.YtemoonhnncopoaaGreatDoorW.PrintWords
open PX (T V)
def fewAP (l : List Ac) : Bool := (l.all fun a => decide (a.f3.size ≤ 500)) && decide (l.length ≤ 20)
theorem fewA_l0 (l : List Ac) (hl : l.length ≤ 9223372036854775807) (d : Nat) : ∀ a : Nat, a ≤ l.length → l.length - a = d → Ev (fun k => PAll.spinetref05_fewActs.l0 k l a) (((l.drop a).all fun x => decide (x.f3.size ≤ 500)) && decide (l.length ≤ 20)) := by
 induction d with
 | zero =>
  intro a ha hd
  obtain rfl : a = l.length := by omega
  refine Ev.step (fun k => rfl) ?_
  simp only [PAll.spinetref05_fewActs.l0]
  refine ev_neg (by omega) ?_
  have : (((l.drop l.length).all fun x => decide (x.f3.size ≤ 500)) && decide (l.length ≤ 20)) = decide ((l.length : Int) ≤ 20) := by
   rw [List.drop_length]
   simp
   omega
  rw [this]
  exact Ev.now _
 | succ d ih =>
  intro a ha hd
  have hlt : a < l.length := by omega
  refine Ev.step (fun k => rfl) ?_
  simp only [PAll.spinetref05_fewActs.l0]
  have hr : PAll.rd_T80 l (a : Int) = l[a] := by simp [PAll.rd_T80, List.getD_eq_getElem?_getD, List.getElem?_eq_getElem hlt]
  rw [hr, List.drop_eq_getElem_cons hlt]
  refine ev_pos (by omega) (ev_pos (by omega) ?_)
  by_cases h5 : 500 < l[a].f3.size
  ·have : ((l[a] :: l.drop (a + 1)).all fun x => decide (x.f3.size ≤ 500)) = false := by
    rw [List.all_cons, decide_eq_false (by omega)]
    rfl
   rw [this]
   exact ev_pos (by omega) (Ev.now _)
  ·refine ev_neg (by omega) ?_
   rw [w64 (by omega) (by omega)]
   rw [List.all_cons, decide_eq_true (show l[a].f3.size ≤ 500 by omega)]
   exact ih (a + 1) (by omega) (by omega)
theorem fewA_ev (l : List Ac) (hl : l.length ≤ 9223372036854775807) : Ev (fun k => PAll.spinetref05_fewActs.f k l) (fewAP l) := by
 have h := fewA_l0 l hl l.length 0 (by omega) (by omega)
 rw [List.drop_zero] at h
 exact h
def fewS (x : Sta) : Bool := fewAP x.f3 && fewAP x.f4 && decide (x.f2.length ≤ 20)
def fewT (x : Tra) : Bool := fewAP x.f5 && decide (x.f3.length ≤ 20) && decide (x.f2.size ≤ 500)
def fewP (st : List Sta) (tr : List Tra) : Bool := decide (st.length ≤ 40) && decide (tr.length ≤ 60) && st.all fewS && tr.all fewT
theorem few_l1 (v : Int) (st : List Sta) (tr : List Tra) (hT : ∀ x ∈ tr, x.f5.length ≤ 9223372036854775807) (hl : tr.length ≤ 60) (d : Nat) : ∀ a : Nat, a ≤ tr.length → tr.length - a = d →
  Ev (fun k => PAll.spinetref05_Few.l1 k a v st tr) ((tr.drop a).all fewT) := by
 induction d with
 | zero =>
  intro a ha hd
  obtain rfl : a = tr.length := by omega
  refine Ev.step (fun k => rfl) ?_
  simp only [PAll.spinetref05_Few.l1]
  rw [List.drop_length]
  exact ev_neg (by omega) (Ev.now _)
 | succ d ih =>
  intro a ha hd
  have hlt : a < tr.length := by omega
  refine Ev.step (fun k => rfl) ?_
  simp only [PAll.spinetref05_Few.l1]
  have hr : PAll.rd_T56 tr (a : Int) = tr[a] := by simp [PAll.rd_T56, List.getD_eq_getElem?_getD, List.getElem?_eq_getElem hlt]
  rw [hr, List.drop_eq_getElem_cons hlt, List.all_cons]
  refine ev_pos (by omega) (ev_pos (by omega) (Ev.bind (fewA_ev _ (hT _ (List.getElem_mem hlt))) ?_))
  cases h1 : fewAP tr[a].f5 with
  | false => exact ev_is (by simp [fewT, h1]) (ev_neg (by simp) (Ev.now _))
  | true =>
   refine ev_pos rfl ?_
   by_cases h2 : 20 < tr[a].f3.length
   ·exact ev_is (by simp [fewT]; omega) (ev_pos (by omega) (Ev.now false))
   ·refine ev_neg (by omega) ?_
    by_cases h3 : 500 < tr[a].f2.size
    ·exact ev_is (by simp [fewT]; omega) (ev_pos (by omega) (Ev.now false))
    ·refine ev_neg (by omega) ?_
     rw [w64 (by omega) (by omega)]
     refine ev_is ?_ (ih (a + 1) (by omega) (by omega))
     have : fewT tr[a] = true := by simp [fewT, h1]; omega
     rw [this, Bool.true_and]
theorem few_l0 (v : Int) (st : List Sta) (tr : List Tra) (hS : ∀ x ∈ st, x.f3.length ≤ 9223372036854775807 ∧ x.f4.length ≤ 9223372036854775807) (hT : ∀ x ∈ tr, x.f5.length ≤ 9223372036854775807) (hl : tr.length ≤ 60) (hn : st.length ≤ 40) (d : Nat) : ∀ a : Nat, a ≤ st.length → st.length - a = d →
  Ev (fun k => PAll.spinetref05_Few.l0 k a v st tr) ((st.drop a).all fewS && tr.all fewT) := by
 induction d with
 | zero =>
  intro a ha hd
  obtain rfl : a = st.length := by omega
  refine Ev.step (fun k => rfl) ?_
  simp only [PAll.spinetref05_Few.l0]
  rw [List.drop_length]
  have h := few_l1 v st tr hT hl tr.length 0 (by omega) (by omega)
  rw [List.drop_zero] at h
  exact ev_neg (by omega) h
 | succ d ih =>
  intro a ha hd
  have hlt : a < st.length := by omega
  refine Ev.step (fun k => rfl) ?_
  simp only [PAll.spinetref05_Few.l0]
  have hr : PAll.rd_T54 st (a : Int) = st[a] := by simp [PAll.rd_T54, List.getD_eq_getElem?_getD, List.getElem?_eq_getElem hlt]
  rw [hr, List.drop_eq_getElem_cons hlt, List.all_cons]
  refine ev_pos (by omega) (ev_pos (by omega) (Ev.bind (fewA_ev _ (hS _ (List.getElem_mem hlt)).1) (Ev.bind (fewA_ev _ (hS _ (List.getElem_mem hlt)).2) ?_)))
  cases h1 : fewAP st[a].f3 with
  | false => exact ev_is (by simp [fewS, h1]) (ev_neg (by simp) (Ev.now _))
  | true =>
   refine ev_pos rfl ?_
   cases h2 : fewAP st[a].f4 with
   | false => exact ev_is (by simp [fewS, h2]) (ev_neg (by simp) (Ev.now _))
   | true =>
    refine ev_pos rfl ?_
    by_cases h3 : 20 < st[a].f2.length
    ·exact ev_is (by simp [fewS]; omega) (ev_pos (by omega) (Ev.now false))
    ·refine ev_neg (by omega) ?_
     rw [w64 (by omega) (by omega)]
     refine ev_is ?_ (ih (a + 1) (by omega) (by omega))
     have : fewS st[a] = true := by simp [fewS, h1, h2]; omega
     rw [this, Bool.true_and]
theorem few_ev (v : Int) (st : List Sta) (tr : List Tra) (hS : ∀ x ∈ st, x.f3.length ≤ 9223372036854775807 ∧ x.f4.length ≤ 9223372036854775807) (hT : ∀ x ∈ tr, x.f5.length ≤ 9223372036854775807) : Ev (fun k => PAll.spinetref05_Few.f k v st tr) (fewP st tr) := by
 have stop : ∀ x : Bool, x = true → Ev (fun k => PAll.spinetref05_Few.j0 k x v st tr) false := by
  intro x hx
  refine Ev.step (fun k => rfl) ?_
  simp only [PAll.spinetref05_Few.j0]
  exact ev_pos hx (Ev.now _)
 unfold PAll.spinetref05_Few.f
 by_cases h1 : 40 < st.length
 ·exact ev_is (by simp [fewP]; omega) (ev_pos (by omega) (stop _ rfl))
 ·refine ev_neg (by omega) ?_
  by_cases h2 : 60 < tr.length
  ·exact ev_is (by simp [fewP]; omega) (stop _ (decide_eq_true (by omega)))
  ·have h := few_l0 v st tr hS hT (by omega) (by omega) st.length 0 (by omega) (by omega)
   rw [List.drop_zero] at h
   rw [decide_eq_false (show ¬ ((tr.length : Int) > 60) by omega)]
   refine Ev.step (fun k => rfl) ?_
   simp only [PAll.spinetref05_Few.j0]
   refine ev_neg (by simp) (ev_is ?_ h)
   simp only [fewP]
   rw [decide_eq_true (show st.length ≤ 40 by omega), decide_eq_true (show tr.length ≤ 60 by omega)]
   simp
theorem few_of {st : List Sta} {tr : List Tra} (h : fewP st tr = true) : FewC st tr ∧ st.length ≤ 40 ∧ tr.length ≤ 60 := by
 simp only [fewP, Bool.and_eq_true, decide_eq_true_eq, List.all_eq_true] at h
 obtain ⟨⟨⟨h1, h2⟩, h3⟩, h4⟩ := h
 refine ⟨⟨fun x hx => ?_, fun x hx => ?_⟩, h1, h2⟩
 ·have := h3 x hx
  simp only [fewS, fewAP, Bool.and_eq_true, decide_eq_true_eq, List.all_eq_true] at this
  obtain ⟨⟨⟨a1, a2⟩, b1, b2⟩, _⟩ := this
  refine ⟨by omega, by omega, fun a ha => ?_⟩
  rcases List.mem_append.1 ha with ha | ha
  ·have := a1 a ha; omega
  ·have := b1 a ha; omega
 ·have := h4 x hx
  simp only [fewT, fewAP, Bool.and_eq_true, decide_eq_true_eq, List.all_eq_true] at this
  obtain ⟨⟨⟨a1, a2⟩, _⟩, c1⟩ := this
  exact ⟨by omega, fun a ha => by have := a1 a ha; omega⟩
section
variable {A B : Option Addr} {ca cb : Nat} {st : List Sta} {tr : List Tra} {w : World}
theorem cs_len (h : ChM w A ca st B cb tr) : ∀ x ∈ st, x.f3.length ≤ 9223372036854775807 ∧ x.f4.length ≤ 9223372036854775807 := by
 intro x hx
 obtain ⟨q, hq, rfl⟩ := List.mem_iff_getElem.1 hx
 obtain ⟨ad, A2, c2, A3, c3, A4, c4, _, _, _, _, _, _, l3, g3, l4, g4⟩ := state_full h (q : Int) (by omega) (by omega)
 have hr : PAll.rd_T54 st (q : Int) = st[q] := by simp [PAll.rd_T54, List.getD_eq_getElem?_getD, List.getElem?_eq_getElem hq]
 rw [hr] at g3 g4
 exact ⟨g3.2.1, g4.2.1⟩
theorem ct_len (h : ChM w A ca st B cb tr) : ∀ x ∈ tr, x.f5.length ≤ 9223372036854775807 := by
 intro x hx
 obtain ⟨q, hq, rfl⟩ := List.mem_iff_getElem.1 hx
 obtain ⟨ad, A3, c3, A5, c5, _, _, _, _, _, _, _, l3, g3, l5, g5⟩ := PAll.at_T56 h.ct (q : Int) (by omega) (by omega)
 have hr : PAll.rd_T56 tr (q : Int) = tr[q] := by simp [PAll.rd_T56, List.getD_eq_getElem?_getD, List.getElem?_eq_getElem hq]
 rw [hr] at g5
 exact g5.2.1
theorem fewc_any (h : ChM w A ca st B cb tr) (v : Int) : Calls Tryz.prog 25 #[ckV v A B st.length tr.length ca cb] w fun e w' => e = .returned (.bool (fewP st tr)) ∧ Below w.heap.size w w' := by
 obtain ⟨k, hk⟩ := Ev.rounds (few_ev v st tr (cs_len h) (ct_len h))
 exact PAll.spinetref05_Few.calls k v A ca st B cb tr _ w h.cs h.sc h.ct h.tc hk
theorem rkids_l0 (st : List Sta) (tr : List Tra) (v s : Int) (hn : st.length ≤ 1000000) : ∀ (suf pre : List Sta) (acc : List Int), st = pre ++ suf → acc.length ≤ pre.length →
  Ev (fun k => PAll.spinetref05_Kids.l0 k s acc (pre.length : Int) v st tr) (acc ++ kidsF s suf (pre.length : Int)) := by
 intro suf
 induction suf with
 | nil =>
  intro pre acc h _
  refine Ev.step (fun k => rfl) ?_
  simp only [PAll.spinetref05_Kids.l0, kidsF, List.append_nil]
  exact ev_neg (by rw [h]; simp) (Ev.now _)
 | cons x suf ih =>
  intro pre acc h ha
  have hlen : st.length = pre.length + (suf.length + 1) := by rw [h]; simp
  have hrd : PAll.rd_T54 st (pre.length : Int) = x := by
   simp [PAll.rd_T54, List.getD_eq_getElem?_getD, h]
  have hw : wrap64 ((pre.length : Int) + 1) = ((pre ++ [x]).length : Int) := by rw [w64 (by omega) (by omega)]; simp
  have nx := fun acc' ha' => ih (pre ++ [x]) acc' (by rw [h]; simp) ha'
  have e1 : ((pre ++ [x]).length : Int) = (pre.length : Int) + 1 := by simp
  refine Ev.step (fun k => rfl) ?_
  simp only [PAll.spinetref05_Kids.l0]
  rw [hrd, hw]
  refine ev_pos (by omega) (ev_pos (by omega) ?_)
  by_cases c : x.f1 = s
  ·refine ev_pos c ?_
   cases hh : histP x.f0 with
   | true =>
    have e : kidsF s (x :: suf) (pre.length : Int) = kidsF s suf ((pre ++ [x]).length : Int) := by rw [e1]; simp only [kidsF]; rw [if_neg]; simp [hh]
    have n1 := nx acc (by simp; omega)
    by_cases h5 : x.f0 = 5
    ·exact ev_is (by rw [e]) (ev_pos h5 n1)
    ·have h6 : x.f0 = 6 := by simpa [histP, h5] using hh
     exact ev_is (by rw [e]) (ev_neg h5 (ev_pos h6 n1))
   | false =>
    have h56 : x.f0 ≠ 5 ∧ x.f0 ≠ 6 := by simpa [histP] using hh
    have e : kidsF s (x :: suf) (pre.length : Int) = (pre.length : Int) :: kidsF s suf ((pre ++ [x]).length : Int) := by rw [e1]; simp only [kidsF]; rw [if_pos]; exact ⟨c, hh⟩
    have := nx (acc ++ [(pre.length : Int)]) (by simp; omega)
    exact ev_is (by rw [e]; simp) (ev_neg h56.1 (ev_neg h56.2 (ev_pos (by omega) this)))
  ·have e : kidsF s (x :: suf) (pre.length : Int) = kidsF s suf ((pre ++ [x]).length : Int) := by rw [e1]; simp only [kidsF]; rw [if_neg]; exact fun h => c h.1
   exact ev_is (by rw [e]) (ev_neg c (nx acc (by simp; omega)))
theorem rkids_any (h : ChM w A ca st B cb tr) (v i : Int) (hn : st.length ≤ 1000000) : Calls Tryz.prog 44 #[ckV v A B st.length tr.length ca cb, .int .i64 i] w fun e w' => ∃ u : Value, e = .returned u ∧ Kd.R (Kd.int .i64) 3 w' w.heap.size (fun _ => True) u (kidsP st i) ∧ Below w.heap.size w w' := by
 have h0 := rkids_l0 st tr v i hn st [] [] rfl (by simp)
 rw [List.nil_append] at h0
 obtain ⟨k, hk⟩ := Ev.rounds (show Ev (fun k => PAll.spinetref05_Kids.f k v st tr i) (kidsP st i) from h0)
 exact PAll.spinetref05_Kids.calls k v A ca st B cb tr i _ w h.cs h.sc h.ct h.tc hk
end
abbrev ActT := Int × Int × Int × ByteArray × Unit
abbrev StaT := Int × Int × List Int × List ActT × List ActT × Unit
abbrev TraT := Int × Int × ByteArray × List Int × Bool × List ActT × Unit
def RSta : Rep StaT := (Rep.int .i64).pair ((Rep.int .i64).pair ((Rep.int .i64).slice.pair (RAct.slice.pair (RAct.slice.pair Rep.unit))))
def RTra : Rep TraT := (Rep.int .i64).pair ((Rep.int .i64).pair (Rep.str.pair ((Rep.int .i64).slice.pair (Rep.bool.pair (RAct.slice.pair Rep.unit)))))
def RChart : Rep (Int × List StaT × List TraT × Unit) := (Rep.int .i64).pair (RSta.slice.pair (RTra.slice.pair Rep.unit))
theorem ints_reads : Reads Tryz.prog 27 (Rep.int .i64).slice := reads_slice Tryz.underlying27 (by kernel_rfl) (reads_int Tryz.underlying3 (by kernel_rfl)) (by decide)
theorem acts_reads : Reads Tryz.prog 22 RAct.slice := reads_slice Tryz.underlying22 (by kernel_rfl) RAct.reads (by decide)
theorem RSta.reads : Reads Tryz.prog 54 RSta :=
 reads_struct Tryz.underlying54 (fields_cons rfl (reads_int Tryz.underlying3 (by kernel_rfl)) (fields_cons rfl (reads_int Tryz.underlying3 (by kernel_rfl)) (fields_cons rfl ints_reads (fields_cons rfl acts_reads (fields_cons rfl acts_reads (fields_nil _ _)))))) (by kernel_rfl)
theorem RTra.reads : Reads Tryz.prog 56 RTra :=
 reads_struct Tryz.underlying56 (fields_cons rfl (reads_int Tryz.underlying3 (by kernel_rfl)) (fields_cons rfl (reads_int Tryz.underlying3 (by kernel_rfl)) (fields_cons rfl (reads_str Tryz.underlying9 (by kernel_rfl)) (fields_cons rfl ints_reads (fields_cons rfl (reads_bool Tryz.underlying4 (by kernel_rfl)) (fields_cons rfl acts_reads (fields_nil _ _))))))) (by kernel_rfl)
theorem RChart.reads : Reads Tryz.prog 47 RChart :=
 reads_struct Tryz.underlying47 (fields_cons rfl (reads_int Tryz.underlying3 (by kernel_rfl)) (fields_cons rfl (reads_slice Tryz.underlying44 (by kernel_rfl) RSta.reads (by decide)) (fields_cons rfl (reads_slice Tryz.underlying45 (by kernel_rfl) RTra.reads (by decide)) (fields_nil _ _)))) (by kernel_rfl)
def acOf (t : ActT) : Ac := ⟨t.1, t.2.1, t.2.2.1, t.2.2.2.1⟩
def staOf (t : StaT) : Sta := ⟨t.1, t.2.1, t.2.2.1.map id, t.2.2.2.1.map acOf, t.2.2.2.2.1.map acOf⟩
def traOf (t : TraT) : Tra := ⟨t.1, t.2.1, t.2.2.1, t.2.2.2.1.map id, t.2.2.2.2.1, t.2.2.2.2.2.1.map acOf⟩
theorem repK_act : RepK RAct PAll.k80 acOf := by
 intro F w cs x h
 obtain ⟨c1, d1, rfl, _, ⟨rfl, _⟩, c2, d2, rfl, _, ⟨rfl, _⟩, c3, d3, rfl, _, ⟨rfl, _⟩, c4, d4, rfl, _, ⟨rfl, _⟩, rfl⟩ := h
 exact PAll.k80_mk w (acOf x)
theorem repK_sta : RepK RSta PAll.k54 staOf := by
 intro F w cs x h
 obtain ⟨c1, d1, rfl, _, ⟨rfl, _⟩, c2, d2, rfl, _, ⟨rfl, _⟩, c3, d3, rfl, _, h3, c4, d4, rfl, _, h4, c5, d5, rfl, _, h5, rfl⟩ := h
 obtain ⟨A2, n2, rfl, l2, g2⟩ := repK_slice 3 (repK_int .i64) rfl _ _ _ _ h3
 obtain ⟨A3, n3, rfl, l3, g3⟩ := repK_slice 80 repK_act rfl _ _ _ _ h4
 obtain ⟨A4, n4, rfl, l4, g4⟩ := repK_slice 80 repK_act rfl _ _ _ _ h5
 exact PAll.k54_mk w (staOf x) (c2 := n2) l2 g2 (c3 := n3) l3 g3 (c4 := n4) l4 g4
theorem repK_tra : RepK RTra PAll.k56 traOf := by
 intro F w cs x h
 obtain ⟨c1, d1, rfl, _, ⟨rfl, _⟩, c2, d2, rfl, _, ⟨rfl, _⟩, c3, d3, rfl, _, ⟨rfl, _⟩, c4, d4, rfl, _, h4, c5, d5, rfl, _, rfl, c6, d6, rfl, _, h6, rfl⟩ := h
 obtain ⟨A3, n3, rfl, l3, g3⟩ := repK_slice 3 (repK_int .i64) rfl _ _ _ _ h4
 obtain ⟨A5, n5, rfl, l5, g5⟩ := repK_slice 80 repK_act rfl _ _ _ _ h6
 exact PAll.k56_mk w (traOf x) (c3 := n3) l3 g3 (c5 := n5) l5 g5
theorem chartArg {w : World} {cs : Array Value} {x : Int × List StaT × List TraT × Unit} (h : RChart.ok (fun b => b < w.heap.size) w cs.toList x) :
  ∃ A ca B cb, ∃ st : List Sta, ∃ tr : List Tra, Value.agg cs = ckV x.1 A B st.length tr.length ca cb ∧ ChM w A ca st B cb tr := by
 obtain ⟨c1, d1, he, _, ⟨rfl, _⟩, c2, d2, rfl, _, h2, c3, d3, rfl, _, h3, rfl⟩ := h
 obtain ⟨A, n, rfl, l, g⟩ := repK_slice 54 repK_sta rfl _ _ _ _ h2
 obtain ⟨B, m, rfl, l', g'⟩ := repK_slice 56 repK_tra rfl _ _ _ _ h3
 refine ⟨A, n, B, m, _, _, ?_, ⟨g, l, g', l'⟩⟩
 have : cs = #[.int .i64 x.1, .slice A (x.2.1.map staOf).length n, .slice B (x.2.2.1.map traOf).length m] := by
  apply Array.ext'
  rw [he]; rfl
 rw [this]
end Go.Proofs.YtemoonhnncopoaaGreatDoor
end
section
namespace Go.Proofs.YtemoonhnncopoaaGreatDoor
open Go.RowKit Go.Proofs.YtemoonhnncopoaaGreatDoorW.PrintWords
open PX (T V)
theorem chk_none {v : Int} {st : List Sta} {tr : List Tra} (h : chkP v st tr = .none) : (0 ≤ v ∧ v ≤ 8 ∧ 1 ≤ st.length ∧ st.length ≤ 24 ∧ tr.length ≤ 40) ∧ (∀ j : Int, 0 ≤ j → j < (st.length : Int) → stateP v st j = 0) ∧ ∀ j : Int, 0 ≤ j → j < (tr.length : Int) → transP v st (PAll.rd_T56 tr j) = 0 := by
 unfold chkP at h
 split at h
 ·cases h
 ·rename_i hb
  refine ⟨by omega, ?_⟩
  cases h1 : findBad (stateP v st) st.length 0 with
  | some x => rw [h1] at h; cases h
  | none =>
   rw [h1] at h
   simp only at h
   cases h2 : findBad (fun i => transP v st (PAll.rd_T56 tr i)) tr.length 0 with
   | some x => rw [h2] at h; cases h
   | none =>
    have a1 := (findBad_none _ _ _).1 h1
    have a2 := (findBad_none _ _ _).1 h2
    exact ⟨fun j h1 h2 => a1 j h1 (by omega), fun j h1 h2 => a2 j h1 (by omega)⟩
theorem in_first {v : Int} {st : List Sta} (hz : ∀ j : Int, 0 ≤ j → j < (st.length : Int) → stateP v st j = 0) (n : Nat) : ∀ s : Int, 0 < s → s < (st.length : Int) → s.toNat ≤ n → inC st s 0 = true := by
 induction n with
 | zero => intro s h1 h2 h3; omega
 | succ n ih =>
  intro s h1 h2 h3
  obtain ⟨p1, p2⟩ := par_ok h1 (state_par (hz s (by omega) h2)).2
  have hl : (PAll.rd_T54 st s).f1 < s := by
   rcases p2 with p2 | p2
   ·omega
   ·have := inC_lt p2; omega
  rw [inC_eq, if_pos (by omega), if_neg (by omega)]
  split
  ·rfl
  ·exact ih _ (by omega) (by omega) (by omega)
end Go.Proofs.YtemoonhnncopoaaGreatDoor
end
section
namespace Go.Proofs.YtemoonhnncopoaaGreatDoor
open Go.RowKit Go.Proofs.YtemoonhnncopoaaGreatDoorW.PrintWords
open PX (T V)
section
variable {ops : Array Oper} {rest : List Oper} {o : Oper} {a : Act} {Q : Exit → Act → World → Prop}
theorem inn_append {W : World} (hgd : o.guard = none) (s x : Operand)
  (ho : o.op = .call { callee := .builtin .append, args := #[s, x], argTypes := #[27, 27] })
  (B : Nat) (v : Value) (xs : List Int) (p : Int) (hs : a.eval s = v) (N : Nat) (hx : a.eval x = .slice (some ⟨N, 0, none⟩) 1 1) (hN : N = W.heap.size)
  (HO : InnR W B v xs) (hB : B ≤ W.heap.size) (hl : xs.length < 1000000)
  (h : ∀ v1 w1, InnR w1 B v1 (xs ++ [p]) → Below B W w1 → W.grownBy w1 v.ownBlock → wpList Tryz.prog ops Q rest (a.put o.dst v1) w1) :
  wpList Tryz.prog ops Q (o :: rest) a (W.alloc (.cells #[.int .i64 p] 3)) := by
 subst hN
 refine Kd.R_append (Kd.int .i64) (w0 := W) B hgd s x 27 3 (.int .i64 0) 8 ho Tryz.underlying27 (by kernel_rfl) rfl (by decide) (by omega) v xs p [.int .i64 p]
  (fun _ => True) (fun _ => False) hs hx rfl (fun _ hk => hk.elim) (fun _ _ => trivial) HO (Below.refl _ _) hB (by omega) ?_
 intro v1 w1 h1 h2 h3 h4
 exact h v1 w1 h1 h2 h3
end
end Go.Proofs.YtemoonhnncopoaaGreatDoor
end
section
namespace Go.Proofs.YtemoonhnncopoaaGreatDoor
open Go.RowKit Go.Proofs.YtemoonhnncopoaaGreatDoorW.PrintWords
open PX (T V)
abbrev rdS (st : List Sta) (i : Int) : Sta := PAll.rd_T54 st i
abbrev thS (st : List Sta) (i : Int) : Prop := 0 ≤ i ∧ i < (st.length : Int)
theorem ahead_at {st : List Sta} (ha : Ahead st) {s : Int} (h : thS st s) : (rdS st s).f1 < s ∧ (0 < s → 0 ≤ (rdS st s).f1) := ⟨(ha s h.1 h.2).1, (ha s h.1 h.2).2.1⟩
def kindP (st : List Sta) (s : Int) : Int := if thS st s then (rdS st s).f0 else 0
def upF (st : List Sta) : Nat → Int → List Int
 | 0, _ => []
 | f + 1, s => if thS st s ∧ 0 ≤ (rdS st s).f1 then (rdS st s).f1 :: upF st f (rdS st s).f1 else []
def upP (st : List Sta) (s : Int) : List Int := upF st (s.toNat + 1) s
theorem upF_two {st : List Sta} (ha : Ahead st) (n : Nat) : ∀ (s : Int) (f g : Nat), s.toNat < f → s.toNat < g → s.toNat ≤ n → upF st f s = upF st g s := by
 induction n with
 | zero =>
  intro s f g hf hg hn
  cases f with
  | zero => omega
  | succ f =>
   cases g with
   | zero => omega
   | succ g =>
    simp only [upF]
    by_cases c : thS st s ∧ 0 ≤ (rdS st s).f1
    ·have := (ahead_at ha c.1).1; omega
    ·rw [if_neg c, if_neg c]
 | succ n ih =>
  intro s f g hf hg hn
  cases f with
  | zero => omega
  | succ f =>
   cases g with
   | zero => omega
   | succ g =>
    simp only [upF]
    by_cases c : thS st s ∧ 0 ≤ (rdS st s).f1
    ·have := (ahead_at ha c.1).1
     have := c.2
     have := c.1.1
     rw [if_pos c, if_pos c, ih _ f g (by omega) (by omega) (by omega)]
    ·rw [if_neg c, if_neg c]
theorem upP_eq {st : List Sta} (ha : Ahead st) (s : Int) : upP st s = if thS st s ∧ 0 ≤ (rdS st s).f1 then (rdS st s).f1 :: upP st (rdS st s).f1 else [] := by
 rw [show upP st s = if thS st s ∧ 0 ≤ (rdS st s).f1 then (rdS st s).f1 :: upF st s.toNat (rdS st s).f1 else [] from rfl]
 unfold upP
 by_cases c : thS st s ∧ 0 ≤ (rdS st s).f1
 ·have := (ahead_at ha c.1).1
  have := c.2
  have := c.1.1
  rw [if_pos c, if_pos c, upF_two ha s.toNat _ s.toNat ((rdS st s).f1.toNat + 1) (by omega) (by omega) (by omega)]
 ·rw [if_neg c, if_neg c]
theorem inC_low (st : List Sta) (s b : Int) (h : s ≤ b ∨ s ≤ 0 ∨ (st.length : Int) ≤ s) : inC st s b = false := by
 rw [inC_eq, if_neg (by omega)]
theorem up_in {st : List Sta} (ha : Ahead st) (b : Int) (n : Nat) : ∀ s : Int, s.toNat ≤ n → (upP st s).contains b = (decide (0 ≤ b) && inC st s b) := by
 have low : ∀ s : Int, ¬ (thS st s ∧ 0 ≤ (rdS st s).f1) → (upP st s).contains b = (decide (0 ≤ b) && inC st s b) := by
  intro s c
  rw [upP_eq ha, if_neg c, inC_low]
  ·simp
  ·by_cases h1 : 0 < s ∧ s < (st.length : Int)
   ·exact absurd ⟨⟨by omega, h1.2⟩, (ahead_at ha ⟨by omega, h1.2⟩).2 h1.1⟩ c
   ·omega
 induction n with
 | zero =>
  intro s hs
  by_cases c : thS st s ∧ 0 ≤ (rdS st s).f1
  ·have := (ahead_at ha c.1).1
   have := c.2
   omega
  ·exact low s c
 | succ n ih =>
  intro s hs
  by_cases c : thS st s ∧ 0 ≤ (rdS st s).f1
  ·have h1 := (ahead_at ha c.1).1
   have h2 := c.2
   have h3 := c.1.2
   rw [upP_eq ha, if_pos c, List.contains_cons, ih _ (by omega), inC_eq st s b]
   by_cases hb : s > b
   ·rw [if_pos ⟨hb, by omega, h3⟩, if_neg (by show ¬ ((rdS st s).f1 ≥ s); omega)]
    by_cases he : (rdS st s).f1 = b
    ·rw [if_pos he]
     simp [he]
     omega
    ·rw [if_neg he]
     have : (b == (rdS st s).f1) = false := by simp; omega
     rw [this, Bool.false_or]
   ·rw [if_neg (by omega), inC_low _ _ _ (by omega)]
    have : (b == (rdS st s).f1) = false := by simp; omega
    rw [this]
    simp
  ·exact low s c
theorem tin_eq {st : List Sta} (ha : Ahead st) (s b : Int) : (upP st s).contains b = (decide (0 ≤ b) && inC st s b) := up_in ha b s.toNat s (Nat.le_refl _)
theorem upF_len (st : List Sta) (f : Nat) : ∀ s : Int, (upF st f s).length ≤ f := by
 induction f with
 | zero => intro s; simp [upF]
 | succ f ih =>
  intro s
  simp only [upF]
  by_cases c : thS st s ∧ 0 ≤ (rdS st s).f1
  ·rw [if_pos c, List.length_cons]; have := ih (rdS st s).f1; omega
  ·rw [if_neg c]; simp
def TrM (w : World) (g : Nat) (v : Int) (st : List Sta) (tr : List Tra) : Prop :=
 ∃ A ca B cb, w.heap[g]? = some (.cells #[.int .i64 v, .slice A st.length ca, .slice B tr.length cb] 106 (0, 0)) ∧ ChM w A ca st B cb tr
theorem TrM.below {w w' : World} {g : Nat} {v : Int} {st : List Sta} {tr : List Tra} (h : TrM w g v st tr) (hb : Below w.heap.size w w') : TrM w' g v st tr := by
 obtain ⟨A, ca, B, cb, h1, h2⟩ := h
 exact ⟨A, ca, B, cb, (hb.block g (lt_of_block h1)).trans h1, h2.below hb⟩
section
variable {g : Nat} {v : Int} {st : List Sta} {tr : List Tra} {w : World}
theorem tthere_any (h : TrM w g v st tr) (s : Int) : Calls Tryz.prog 64 #[.pointer (some ⟨g, 0, none⟩), .int .i64 s] w fun e w' => e = .returned (.bool (decide (thS st s))) ∧ Below w.heap.size w w' := by
 obtain ⟨A, ca, B, cb, h1, h2⟩ := h
 have y1 : w.cell? ⟨g, 1, none⟩ = some (.slice A st.length ca) := blk_cell h1 1
 have y0 : w.cell? ⟨g, 0, none⟩ = some (.int .i64 v) := blk_cell h1 0
 clear h1 h2
 by_cases c : 0 ≤ s
 ·have d1 : decide (s ≥ 0) = true := decide_eq_true c
  have d1' : decide (0 ≤ s) = true := decide_eq_true c
  by_cases c2 : s < (st.length : Int)
  ·have d2 : decide (s < (st.length : Int)) = true := decide_eq_true c2
   have HR : Hid (decide (thS st s) = true) := Lib.hid (decide_eq_true ⟨c, c2⟩)
   clear c c2
   go_enter Tryz.func64, Tryz.ntmps64
   go_wp2_with fail
   go_ret
   exact ⟨by rw [HR.out]; rfl, Below.refl _ _⟩
  ·have d2 : decide (s < (st.length : Int)) = false := decide_eq_false c2
   have HR : Hid (decide (thS st s) = false) := Lib.hid (decide_eq_false (fun h => c2 h.2))
   clear c c2
   go_enter Tryz.func64, Tryz.ntmps64
   go_wp2_with fail
   go_ret
   exact ⟨by rw [HR.out]; rfl, Below.refl _ _⟩
 ·have d1 : decide (s ≥ 0) = false := decide_eq_false c
  have d1' : decide (0 ≤ s) = false := decide_eq_false c
  have HR : Hid (decide (thS st s) = false) := Lib.hid (decide_eq_false (fun h => c h.1))
  clear c
  go_enter Tryz.func64, Tryz.ntmps64
  go_wp2_with fail
  go_ret
  exact ⟨by rw [HR.out]; rfl, Below.refl _ _⟩
theorem trm_at (h : TrM w g v st tr) {s : Int} (hs : thS st s) : ∃ ad ca, w.cell? ⟨g, 0, none⟩ = some (.int .i64 v) ∧ w.cell? ⟨g, 1, none⟩ = some (.slice (some ad) st.length ca) ∧ w.cell? (ad.add (s.toNat * 5)) = some (.int .i64 (rdS st s).f0) ∧ w.cell? ⟨(ad.add (s.toNat * 5)).block, (ad.add (s.toNat * 5)).off + 1, none⟩ = some (.int .i64 (rdS st s).f1) := by
 obtain ⟨A, ca, B, cb, h1, h2⟩ := h
 obtain ⟨ad, A2, c2, A3, c3, A4, c4, rfl, q0, q1, _⟩ := PAll.at_T54 h2.cs s hs.1 hs.2
 exact ⟨ad, ca, blk_cell h1 0, blk_cell h1 1, q0, q1⟩
theorem tkind_any (h : TrM w g v st tr) (s : Int) : Calls Tryz.prog 31 #[.pointer (some ⟨g, 0, none⟩), .int .i64 s] w fun e w' => e = .returned (.int .i64 (kindP st s)) ∧ Below w.heap.size w w' := by
 have H := Lib.hid h
 by_cases c : thS st s
 ·have HR : Hid (kindP st s = (rdS st s).f0) := Lib.hid (if_pos c)
  have HC := Lib.hid c
  have d1 : decide (thS st s) = true := decide_eq_true c
  have D1 := Lib.hid d1
  have p1 : (0 ≤ s) = True := eq_true c.1
  have p2 : (s < (st.length : Int)) = True := eq_true c.2
  clear h d1 c
  go_enter Tryz.func31, Tryz.ntmps31
  go_wp2_with fail
  refine (tthere_any H.out s).mono ?_
  rw [D1.out]
  rintro e w1 ⟨rfl, hb1⟩
  obtain ⟨ad, ca, y0, y1, q0, q1⟩ := trm_at (H.out.below hb1) HC.out
  have HB := Lib.hid hb1
  clear hb1
  go_wp2_with fail
  go_ret
  exact ⟨by rw [HR.out]; rfl, HB.out⟩
 ·have HR : Hid (kindP st s = 0) := Lib.hid (if_neg c)
  have D1 : Hid (decide (thS st s) = false) := Lib.hid (decide_eq_false c)
  clear h c
  go_enter Tryz.func31, Tryz.ntmps31
  go_wp2_with fail
  refine (tthere_any H.out s).mono ?_
  rw [D1.out]
  rintro e w1 ⟨rfl, hb1⟩
  go_wp2_with fail
  go_ret
  exact ⟨by rw [HR.out]; rfl, hb1⟩
theorem tup_any (h : TrM w g v st tr) (ha : Ahead st) (hl : st.length ≤ 1000) (s : Int) : Calls Tryz.prog 57 #[.pointer (some ⟨g, 0, none⟩), .int .i64 s] w fun e w' => ∃ u : Value, e = .returned u ∧ InnR w' w.heap.size u (upP st s) ∧ Below w.heap.size w w' := by
 have H := Lib.hid h
 have HA := Lib.hid ha
 have hend : ∀ (q : Int), ¬ (thS st q ∧ 0 ≤ (rdS st q).f1) → upP st q = [] := fun q c => by rw [upP_eq ha, if_neg c]
 have HE := Lib.hid hend
 clear h ha hend
 go_enter Tryz.func57, Tryz.ntmps57
 go_wp2_with fail
 go_loopw [1, 5] (fun x u wr => ∃ (q : Int) (acc : List Int), x = .int .i64 q ∧ Hid (upP st s = acc ++ upP st q) ∧ Hid (InnR wr w.heap.size u acc) ∧ Hid (Below w.heap.size w wr) ∧ Hid (acc = [] ∨ acc.length + q.toNat ≤ st.length)) (fun x _ _ => (intOf x).toNat)
 case atStart => exact ⟨s, [], rfl, Lib.hid (by simp), Lib.hid (Kd.R_nil _ _ _ _ _), Lib.hid (Below.refl _ _), Lib.hid (.inl rfl)⟩
 case round =>
  obtain ⟨q, acc, rfl, HU, HO, HB, HL⟩ := hrel
  by_cases c : thS st q
  ·have D1 : Hid (decide (thS st q) = true) := Lib.hid (decide_eq_true c)
   have HC := Lib.hid c
   have p1 : (0 ≤ q) = True := eq_true c.1
   have p2 : (q < (st.length : Int)) = True := eq_true c.2
   have hac : acc.length ≤ st.length := HL.out.elim (fun h => by rw [h]; simp) (fun h => by omega)
   by_cases c2 : 0 ≤ (rdS st q).f1
   ·have d2 : decide ((rdS st q).f1 ≥ 0) = true := decide_eq_true c2
    have d2' : decide (0 ≤ (rdS st q).f1) = true := decide_eq_true c2
    have hlt := (ahead_at HA.out c).1
    have HU2 : Hid (upP st s = (acc ++ [(rdS st q).f1]) ++ upP st (rdS st q).f1) := Lib.hid (by rw [HU.out, upP_eq HA.out q, if_pos ⟨c, c2⟩]; simp)
    have HL2 : Hid (acc ++ [(rdS st q).f1] = [] ∨ (acc ++ [(rdS st q).f1]).length + (rdS st q).f1.toNat ≤ st.length) := Lib.hid (by
     right
     rw [List.length_append, List.length_singleton]
     have := c.1
     have := c.2
     rcases HL.out with h | h
     ·rw [h, List.length_nil]; omega
     ·omega)
    have HLt := Lib.hid (show (rdS st q).f1.toNat < q.toNat by have := c.1; omega)
    clear c c2 hlt
    go_wp2_with fail
    refine (tthere_any (H.out.below HB.out) q).mono ?_
    rw [D1.out]
    rintro e w1 ⟨rfl, hb1⟩
    have HB1 := Lib.hid (below_then HB.out HB.out.size hb1)
    have HO1 := Lib.hid (Kd.R_below HO.out hb1)
    obtain ⟨ad, ca, y0, y1, q0, q1⟩ := trm_at (H.out.below HB1.out) HC.out
    clear hb1 HB HO
    have hac2 : acc.length < 1000000 := by omega
    have hsz := HB1.out.size
    go_wp2_with (at_builtin; refine inn_append rfl (.tmp 30) (.tmp 32) rfl w.heap.size _ acc (rdS st q).f1 rfl _ rfl rfl HO1.out hsz hac2 ?_)
    intro v1 w2 h1 h2 h3
    have HB2 := Lib.hid (HB1.out.trans h2)
    have HO2 := Lib.hid h1
    go_wp2_with fail
    go_roundw
    case rel => exact ⟨(rdS st q).f1, _, rfl, HU2, HO2, HB2, HL2⟩
    case measure => have := HLt.out; simp [intOf]; omega
   ·have d2 : decide ((rdS st q).f1 ≥ 0) = false := decide_eq_false c2
    have d2' : decide (0 ≤ (rdS st q).f1) = false := decide_eq_false c2
    have HR : Hid (upP st s = acc) := Lib.hid (by rw [HU.out, HE.out q (fun h => c2 h.2)]; simp)
    clear c c2
    go_wp2_with fail
    refine (tthere_any (H.out.below HB.out) q).mono ?_
    rw [D1.out]
    rintro e w1 ⟨rfl, hb1⟩
    have HB1 := Lib.hid (below_then HB.out HB.out.size hb1)
    have HO1 := Lib.hid (Kd.R_below HO.out hb1)
    obtain ⟨ad, ca, y0, y1, q0, q1⟩ := trm_at (H.out.below HB1.out) HC.out
    clear hb1 HB HO
    go_wp2_with fail
    go_ret
    exact ⟨_, rfl, by rw [HR.out]; exact HO1.out, HB1.out⟩
  ·have D1 : Hid (decide (thS st q) = false) := Lib.hid (decide_eq_false c)
   have HR : Hid (upP st s = acc) := Lib.hid (by rw [HU.out, HE.out q (fun h => c h.1)]; simp)
   clear c
   go_wp2_with fail
   refine (tthere_any (H.out.below HB.out) q).mono ?_
   rw [D1.out]
   rintro e w1 ⟨rfl, hb1⟩
   have HB1 := Lib.hid (below_then HB.out HB.out.size hb1)
   have HO1 := Lib.hid (Kd.R_below HO.out hb1)
   clear hb1 HB HO
   go_wp2_with fail
   go_ret
   exact ⟨_, rfl, by rw [HR.out]; exact HO1.out, HB1.out⟩
end
end Go.Proofs.YtemoonhnncopoaaGreatDoor
end
section
namespace Go.Proofs.YtemoonhnncopoaaGreatDoor
open Go.RowKit Go.Proofs.YtemoonhnncopoaaGreatDoorW.PrintWords
open PX (T V)
theorem idx_ev (l : List Int) (a : Int) (hl : l.length ≤ 1000000) (d : Nat) : ∀ i : Nat, i ≤ l.length → l.length - i = d → ∃ r : Int, Ev (fun k => PAll.slices_Index_int_int.l0 k l a (l.length : Int) i) r ∧ decide (r ≥ 0) = (l.drop i).contains a := by
 induction d with
 | zero =>
  intro i hi hd
  obtain rfl : i = l.length := by omega
  refine ⟨-1, Ev.step (fun k => rfl) ?_, by rw [List.drop_length]; rfl⟩
  simp only [PAll.slices_Index_int_int.l0]
  exact ev_neg (by omega) (Ev.now _)
 | succ d ih =>
  intro i hi hd
  have hlt : i < l.length := by omega
  have hr : rd l (i : Int) = l[i] := by simp [rd, List.getD_eq_getElem?_getD, List.getElem?_eq_getElem hlt]
  rw [List.drop_eq_getElem_cons hlt, List.contains_cons]
  by_cases he : a = l[i]
  ·refine ⟨(i : Int), Ev.step (fun k => rfl) ?_, ?_⟩
   ·simp only [PAll.slices_Index_int_int.l0]
    refine ev_pos (by omega) (ev_pos (by omega) (ev_pos (by omega) ?_))
    rw [hr]
    exact ev_pos he (Ev.now _)
   ·rw [show (a == l[i]) = true by simp [he], Bool.true_or]; exact decide_eq_true (by omega)
  ·obtain ⟨r, h1, h2⟩ := ih (i + 1) (by omega) (by omega)
   refine ⟨r, Ev.step (fun k => rfl) ?_, ?_⟩
   ·simp only [PAll.slices_Index_int_int.l0]
    refine ev_pos (by omega) (ev_pos (by omega) (ev_pos (by omega) ?_))
    rw [hr]
    refine ev_neg he ?_
    rw [w64 (by omega) (by omega)]
    exact h1
   ·rw [h2, show (a == l[i]) = false by simp [he], Bool.false_or]
theorem has_ev (l : List Int) (a : Int) (hl : l.length ≤ 1000000) : Ev (fun k => PAll.slices_Contains_int_int.f k l a) (l.contains a) := by
 obtain ⟨r, h1, h2⟩ := idx_ev l a hl l.length 0 (by omega) (by omega)
 rw [List.drop_zero] at h2
 rw [← h2]
 exact Ev.bind h1 (Ev.now _)
theorem drawn_below {w w' : World} (h : Drawn0 w w') : Below w.heap.size w w' := by
 obtain ⟨n, rfl⟩ := h
 exact below_drewN' (Below.refl _ _) n
section
variable {g : Nat} {v : Int} {st : List Sta} {tr : List Tra} {w : World}
theorem thas_any (A : Option Addr) (c : Nat) (l : List Int) (a : Int) (hl : l.length ≤ 1000000) (hc : l.length ≤ c) (hC : (Kd.int .i64).C w A l.length l) :
  Calls Tryz.prog 61 #[.slice A l.length c, .int .i64 a] w fun e w' => e = .returned (.bool (l.contains a)) ∧ Below w.heap.size w w' := by
 obtain ⟨k, hk⟩ := Ev.rounds (has_ev l a hl)
 refine (PAll.slices_Contains_int_int.calls k A c l a _ w hC hc hk).mono ?_
 rintro e w' ⟨rfl, hb⟩
 exact ⟨rfl, drawn_below hb⟩
theorem tin_any (h : TrM w g v st tr) (ha : Ahead st) (hl : st.length ≤ 1000) (a b : Int) : Calls Tryz.prog 29 #[.pointer (some ⟨g, 0, none⟩), .int .i64 a, .int .i64 b] w fun e w' => e = .returned (.bool (decide (0 ≤ b) && inC st a b)) ∧ Below w.heap.size w w' := by
 have H := Lib.hid h
 have HR : Hid ((upP st a).contains b = (decide (0 ≤ b) && inC st a b)) := Lib.hid (tin_eq ha a b)
 have HA := Lib.hid ha
 have hlen : (upP st a).length ≤ 1000000 := by
  by_cases c : thS st a
  ·have := upF_len st (a.toNat + 1) a
   have := c.1
   have := c.2
   unfold upP; omega
  ·rw [upP_eq ha, if_neg (fun h => c h.1)]; simp
 clear h ha
 go_enter Tryz.func29, Tryz.ntmps29
 go_wp2_with fail
 refine (tup_any H.out HA.out hl a).mono ?_
 rintro e w1 ⟨u, rfl, hu, hb1⟩
 obtain ⟨A, cap, rfl⟩ := Kd.R_slice hu
 obtain ⟨_, hcap, hC⟩ := Kd.R_reads' hu
 have HC := Lib.hid hC
 have HB1 := Lib.hid hb1
 clear hu hC hb1
 go_wp2_with fail
 refine (thas_any A cap (upP st a) b hlen hcap HC.out).mono ?_
 rintro e w2 ⟨rfl, hb2⟩
 go_wp2_with fail
 go_ret
 exact ⟨by rw [← HR.out]; simp, below_then HB1.out HB1.out.size hb2⟩
end
def setN (st : List Sta) (p : Int → Bool) : Nat → Nat
 | 0 => 0
 | n + 1 => setN st p n + if (rdS st (n : Int)).f0 < 5 ∧ p (n : Int) = true then 2 ^ n else 0
theorem setN_lt (st : List Sta) (p : Int → Bool) (n : Nat) : setN st p n < 2 ^ n := by
 induction n with
 | zero => simp [setN]
 | succ n ih =>
  simp only [setN]
  rw [Nat.pow_succ]
  split <;> omega
theorem setN_bit (st : List Sta) (p : Int → Bool) (n : Nat) : ∀ s : Nat, (setN st p n).testBit s = (decide (s < n) && (decide ((rdS st (s : Int)).f0 < 5) && p (s : Int))) := by
 induction n with
 | zero => intro s; simp [setN]
 | succ n ih =>
  intro s
  simp only [setN]
  by_cases hc : (rdS st (n : Int)).f0 < 5 ∧ p (n : Int) = true
  ·rw [if_pos hc, Nat.add_comm]
   rcases Nat.lt_trichotomy s n with h | h | h
   ·rw [Nat.testBit_two_pow_add_gt h, ih s, decide_eq_true h, decide_eq_true (show s < n + 1 by omega)]
   ·subst h
    rw [Nat.testBit_two_pow_add_eq, Nat.testBit_lt_two_pow (setN_lt st p s), decide_eq_true (by omega), decide_eq_true hc.1, hc.2]
    rfl
   ·rw [Nat.testBit_lt_two_pow, decide_eq_false (by omega)]
    ·rfl
    ·have := setN_lt st p n
     have h2 : 2 ^ (n + 1) ≤ 2 ^ s := Nat.pow_le_pow_right (by omega) h
     rw [Nat.pow_succ] at h2
     omega
  ·rw [if_neg hc, Nat.add_zero, ih s]
   by_cases h : s = n
   ·subst h
    rw [decide_eq_false (by omega), Bool.false_and]
    have : (decide ((rdS st (s : Int)).f0 < 5) && p (s : Int)) = false := by
     cases hp : p (s : Int)
     ·simp
     ·rw [decide_eq_false (fun h => hc ⟨h, hp⟩)]; rfl
    rw [this]; simp
   ·by_cases h2 : s < n
    ·rw [decide_eq_true h2, decide_eq_true (show s < n + 1 by omega)]
    ·rw [decide_eq_false h2, decide_eq_false (show ¬ s < n + 1 by omega)]
theorem or_new {x q : Nat} (h : x < 2 ^ q) (hq : q < 32) : bits .or .u32 (x : Int) (2 ^ q % 4294967296) = ((x + 2 ^ q : Nat) : Int) := by
 have h2 : 2 ^ q < 4294967296 := Nat.lt_of_lt_of_le (Nat.pow_lt_pow_right (by omega) hq) (by decide)
 have h3 : ((2 : Int) ^ q % 4294967296) = ((2 ^ q : Nat) : Int) := by
  have : ((2 : Int) ^ q) = ((2 ^ q : Nat) : Int) := by simp
  rw [this]
  omega
 rw [h3, u32_or_nat x (2 ^ q) (by omega) h2, Nat.or_comm]
 have := Nat.two_pow_add_eq_or_of_lt h 1
 rw [Nat.mul_one] at this
 rw [← this, Nat.add_comm]
def Asks (F : Nat) (g1 g2 : Nat) (w : World) (n : Nat) (p : Int → Bool) : Prop :=
 ∀ wr, Below w.heap.size w wr → ∀ s : Nat, s < n → Calls Tryz.prog F #[.int .i64 (s : Int), .pointer (some ⟨g1, 0, none⟩), .pointer (some ⟨g2, 0, none⟩)] wr fun e w' => e = .returned (.bool (p (s : Int))) ∧ Below wr.heap.size wr w'
section
variable {g : Nat} {v : Int} {st : List Sta} {tr : List Tra} {w : World}
theorem tset_any (h : TrM w g v st tr) (hl : st.length ≤ 24) (F g1 g2 : Nat) (hrun : ∀ args w, (callFunc F args).run Tryz.prog w = .ok (.enter F args) w) (p : Int → Bool) (hp : Asks F g1 g2 w st.length p) :
  Calls Tryz.prog 65 #[.pointer (some ⟨g, 0, none⟩), .func (.func F) #[] #[.pointer (some ⟨g1, 0, none⟩), .pointer (some ⟨g2, 0, none⟩)]] w fun e w' => e = .returned (.int .u32 (setN st p st.length : Nat)) ∧ Below w.heap.size w w' := by
 have HP := Lib.hid hp
 obtain ⟨A, ca, B, cb, h1, h2⟩ := h
 have y1 : w.cell? ⟨g, 1, none⟩ = some (.slice A st.length ca) := blk_cell h1 1
 have HCs := Lib.hid h2.cs
 clear hp h1 h2
 go_enter Tryz.func65, Tryz.ntmps65
 go_wp2_with fail
 go_loopw [5, 14] (fun o x wr => ∃ q : Nat, x = .int .i64 q ∧ q ≤ st.length ∧ o = .int .u32 (setN st p q : Nat) ∧ Hid (Below w.heap.size w wr)) (fun _ x _ => st.length - (intOf x).toNat)
 case atStart => exact ⟨0, rfl, Nat.zero_le _, rfl, Lib.hid (Below.refl _ _)⟩
 case round =>
  obtain ⟨q, rfl, hq, rfl, HB⟩ := hrel
  by_cases hlt : q < st.length
  ·have p1 : ((q : Int) < (st.length : Int)) = True := eq_true (by omega)
   obtain ⟨ad, A2, c2, A3, c3, A4, c4, rfl, q0, q1, q2, q3, q4, _⟩ := PAll.at_T54 (Kd.C_below HCs.out HB.out) (q : Int) (by omega) (by omega)
   rw [Int.toNat_natCast] at q0 q1 q2 q3 q4
   have HAl := Lib.hid ((HB.out.alloc HB.out.size (.cells #[.int .i64 (PAll.rd_T54 st q).f0, .int .i64 (PAll.rd_T54 st q).f1, .slice A2 (PAll.rd_T54 st q).f2.length c2, .slice A3 (PAll.rd_T54 st q).f3.length c3, .slice A4 (PAll.rd_T54 st q).f4.length c4] 54)))
   by_cases hk : (PAll.rd_T54 st q).f0 < 5
   ·have d1 : decide ((PAll.rd_T54 st q).f0 < 5) = true := decide_eq_true hk
    go_wp2_with fail
    refine (HP.out _ HAl.out q hlt).mono ?_
    cases hpq : p (q : Int) with
    | true =>
     have HS : Hid (setN st p (q + 1) = setN st p q + 2 ^ q) := Lib.hid (by simp only [setN]; rw [if_pos ⟨hk, hpq⟩])
     have HLt := Lib.hid (setN_lt st p q)
     have hq24 : q < 32 := by omega
     clear hpq
     rintro e w2 ⟨rfl, hb2⟩
     have HB2 := Lib.hid (below_then HAl.out HAl.out.size hb2)
     clear hb2
     go_wp2_with fail
     go_roundw
     case rel => exact ⟨q + 1, by go_num, by omega, by rw [HS.out, or_new HLt.out hq24], HB2⟩
     case measure => simp [intOf]; omega
    | false =>
     have HS : Hid (setN st p (q + 1) = setN st p q) := Lib.hid (by simp only [setN]; rw [if_neg (fun h => by rw [hpq] at h; cases h.2)]; rfl)
     clear hpq
     rintro e w2 ⟨rfl, hb2⟩
     have HB2 := Lib.hid (below_then HAl.out HAl.out.size hb2)
     clear hb2
     go_wp2_with fail
     go_roundw
     case rel => exact ⟨q + 1, by go_num, by omega, by rw [HS.out], HB2⟩
     case measure => simp [intOf]; omega
   ·have d1 : decide ((PAll.rd_T54 st q).f0 < 5) = false := decide_eq_false hk
    have HS : Hid (setN st p (q + 1) = setN st p q) := Lib.hid (by simp only [setN]; rw [if_neg (fun h => hk h.1)]; rfl)
    go_wp2_with fail
    go_roundw
    case rel => exact ⟨q + 1, by go_num, by omega, by rw [HS.out], HAl⟩
    case measure => simp [intOf]; omega
  ·obtain rfl : q = st.length := by omega
   have p1 : ((st.length : Int) < (st.length : Int)) = False := eq_false (by omega)
   go_wp2_with fail
   go_ret
   exact ⟨rfl, HB.out⟩
end
end Go.Proofs.YtemoonhnncopoaaGreatDoor
end
section
namespace Go.Proofs.YtemoonhnncopoaaGreatDoor
open Go.RowKit Go.Proofs.YtemoonhnncopoaaGreatDoorW.PrintWords Go.Proofs.YtemoonhnncopoaaGreatDoorW.PrintLast
open PX (T V)
abbrev inP (st : List Sta) (a b : Int) : Bool := decide (0 ≤ b) && inC st a b
section
variable {g : Nat} {v : Int} {st : List Sta} {tr : List Tra} {w : World}
theorem belfn_any (h : TrM w g v st tr) (ha : Ahead st) (hl : st.length ≤ 1000) (g1 g2 : Nat) (s x : Int) (h1 : w.heap[g1]? = some (.cells #[.pointer (some ⟨g, 0, none⟩)] 49 (0, 0))) (h2 : w.heap[g2]? = some (.cells #[.int .i64 s] 3 (0, 0))) :
  Calls Tryz.prog 66 #[.int .i64 x, .pointer (some ⟨g1, 0, none⟩), .pointer (some ⟨g2, 0, none⟩)] w fun e w' => e = .returned (.bool (inP st x s)) ∧ Below w.heap.size w w' := by
 have H := Lib.hid h
 have HA := Lib.hid ha
 have y1 : w.cell? ⟨g1, 0, none⟩ = some (.pointer (some ⟨g, 0, none⟩)) := blk_cell h1 0
 have y2 : w.cell? ⟨g2, 0, none⟩ = some (.int .i64 s) := blk_cell h2 0
 clear h ha h1 h2
 go_enter Tryz.func66, Tryz.ntmps66
 go_wp2_with fail
 refine (tin_any H.out HA.out hl x s).mono ?_
 rintro e w1 ⟨rfl, hb1⟩
 go_wp2_with fail
 go_ret
 exact ⟨rfl, hb1⟩
def belP (st : List Sta) (s : Int) : Nat := setN st (fun x => inP st x s) st.length
theorem tbel_any (h : TrM w g v st tr) (ha : Ahead st) (hl : st.length ≤ 24) (s : Int) :
  Calls Tryz.prog 34 #[.pointer (some ⟨g, 0, none⟩), .int .i64 s] w fun e w' => e = .returned (.int .u32 (belP st s : Nat)) ∧ Below w.heap.size w w' := by
 have hmf : ∀ (fn : Fn) (first cap : Array Value) (w : World), (Instr.makeFunc fn first cap).run Tryz.prog w = .ok (.func fn first cap) w := fun _ _ _ _ => rfl
 have hrun : ∀ args w, (callFunc 66 args).run Tryz.prog w = .ok (.enter 66 args) w := fun _ _ => rfl
 have hb0 : Below w.heap.size w ((w.alloc (.cells #[.pointer (some ⟨g, 0, none⟩)] 49)).alloc (.cells #[.int .i64 s] 3)) := ((Below.refl _ w).alloc (Nat.le_refl _) _).alloc (by simp) _
 have HB0 := Lib.hid hb0
 obtain ⟨hk1, hk2, hlt0, hsz⟩ := boxed2 (Below.refl _ ((w.alloc (.cells #[.pointer (some ⟨g, 0, none⟩)] 49)).alloc (.cells #[.int .i64 s] 3)))
 have HK1 := Lib.hid hk1
 have HK2 := Lib.hid hk2
 have y1 : ((w.alloc (.cells #[.pointer (some ⟨g, 0, none⟩)] 49)).alloc (.cells #[.int .i64 s] 3)).cell? ⟨w.heap.size, 0, none⟩ = some (.pointer (some ⟨g, 0, none⟩)) := blk_cell hk1 0
 have H := Lib.hid (h.below hb0)
 have HA := Lib.hid ha
 clear h ha hb0 hk1 hk2
 go_enter Tryz.func34, Tryz.ntmps34
 go_wp2_with fail
 generalize (w.alloc (.cells #[.pointer (some ⟨g, 0, none⟩)] 49)).alloc (.cells #[.int .i64 s] 3) = w0 at HB0 HK1 HK2 y1 H hlt0 ⊢
 have HAs : Hid (Asks 66 w.heap.size (w.heap.size + 1) w0 st.length (fun x => inP st x s)) := Lib.hid (fun wr hb x hx => belfn_any (H.out.below hb) HA.out (by omega) w.heap.size (w.heap.size + 1) s x ((hb.block _ (lt_of_block HK1.out)).trans HK1.out) ((hb.block _ (lt_of_block HK2.out)).trans HK2.out))
 go_wp2_with fail
 refine (tset_any H.out hl 66 w.heap.size (w.heap.size + 1) hrun _ HAs.out).mono ?_
 rintro e w1 ⟨rfl, hb1⟩
 go_wp2_with fail
 go_ret
 exact ⟨rfl, below_then HB0.out HB0.out.size hb1⟩
end
theorem addr0 (a : Addr) : a.add 0 = a := by cases a; simp [Addr.add]
end Go.Proofs.YtemoonhnncopoaaGreatDoor
end
section
namespace Go.Proofs.YtemoonhnncopoaaGreatDoor
open Go.RowKit Go.Proofs.YtemoonhnncopoaaGreatDoorW.PrintWords
open PX (T V)
def bitsN (x : Nat) (i n : Nat) : List Nat := (List.range' i n).filter (fun j => x.testBit j)
def listP (x : Nat) : List Int := (bitsN x 0 32).map (fun (j : Nat) => (j : Int))
theorem bitsN_split (x i a b : Nat) : bitsN x i (a + b) = bitsN x i a ++ bitsN x (i + a) b := by
 unfold bitsN
 have : List.range' i (a + b) = List.range' i a ++ List.range' (i + a) b := by simp [List.range'_append_1]
 rw [this, List.filter_append]
theorem bitsN_none {x i n : Nat} (h : ∀ j, i ≤ j → j < i + n → x.testBit j = false) : bitsN x i n = [] := by
 unfold bitsN
 rw [List.filter_eq_nil_iff]
 intro j hj
 rw [List.mem_range'_1] at hj
 simp [h j hj.1 hj.2]
theorem bitsN_same {x y i n : Nat} (h : ∀ j, i ≤ j → j < i + n → x.testBit j = y.testBit j) : bitsN x i n = bitsN y i n := by
 unfold bitsN
 refine List.filter_congr ?_
 intro j hj
 rw [List.mem_range'_1] at hj
 exact h j hj.1 hj.2
theorem low_bits (k m : Nat) : (∀ j, j < k → (2 ^ k * (2 * m + 1)).testBit j = false) ∧ (2 ^ k * (2 * m + 1)).testBit k = true ∧
  (∀ j, j ≤ k → ((2 ^ k * (2 * m + 1)) &&& (2 ^ k * (2 * m + 1) - 1)).testBit j = false) ∧ ∀ j, k < j → ((2 ^ k * (2 * m + 1)) &&& (2 ^ k * (2 * m + 1) - 1)).testBit j = (2 ^ k * (2 * m + 1)).testBit j := by
 have hp : 0 < 2 ^ k := Nat.two_pow_pos k
 have e1 : ∀ j, (2 ^ k * (2 * m + 1)).testBit j = if j < k then false else (2 * m + 1).testBit (j - k) := by
  intro j
  have := Nat.testBit_two_pow_mul_add (2 * m + 1) (b := 0) hp j
  rw [Nat.add_zero, Nat.zero_testBit] at this
  exact this
 have e2 : ∀ j, (2 ^ k * (2 * m + 1) - 1).testBit j = if j < k then (2 ^ k - 1).testBit j else (2 * m).testBit (j - k) := by
  intro j
  have := Nat.testBit_two_pow_mul_add (2 * m) (i := k) (b := 2 ^ k - 1) (by omega) j
  have e : 2 ^ k * (2 * m) + (2 ^ k - 1) = 2 ^ k * (2 * m + 1) - 1 := by rw [Nat.mul_add, Nat.mul_one]; omega
  rw [e] at this
  exact this
 refine ⟨fun j hj => by rw [e1, if_pos hj], ?_, fun j hj => ?_, fun j hj => ?_⟩
 ·rw [e1, if_neg (Nat.lt_irrefl k), Nat.sub_self, Nat.testBit_zero]
  simp
 ·rw [Nat.testBit_and, e1, e2]
  by_cases h : j < k
  ·rw [if_pos h, Bool.false_and]
  ·obtain rfl : j = k := by omega
   rw [if_neg h, if_neg h, Nat.sub_self, Nat.testBit_zero, Nat.testBit_zero]
   simp
 ·rw [Nat.testBit_and, e1, e2, if_neg (by omega), if_neg (by omega)]
  obtain ⟨d, hd⟩ : ∃ d, j - k = d + 1 := ⟨j - k - 1, by omega⟩
  rw [hd, Nat.testBit_succ, Nat.testBit_succ, show (2 * m + 1) / 2 = m by omega, show 2 * m / 2 = m by omega, Bool.and_self]
theorem listP_step {x : Nat} (h0 : x ≠ 0) (h : x < 4294967296) : listP x = ((Lib.ctz 32 x : Nat) : Int) :: listP (x &&& (x - 1)) ∧ (x &&& (x - 1)) < x := by
 obtain ⟨m, hm, hk⟩ := Lib.ctzFrom_spec 32 x (by omega) h
 have hc : Lib.ctz 32 x = Lib.ctzFrom 32 x := by unfold Lib.ctz; rw [if_neg h0]
 rw [hc]
 generalize Lib.ctzFrom 32 x = k at *
 obtain ⟨l1, l2, l3, l4⟩ := low_bits k m
 rw [← hm] at l1 l2 l3 l4
 refine ⟨?_, ?_⟩
 ·have e : (32 : Nat) = k + (1 + (31 - k)) := by omega
  have s1 : bitsN x 0 32 = k :: bitsN x (k + 1) (31 - k) := by
   conv => lhs; rw [e]
   rw [bitsN_split, bitsN_split, bitsN_none (fun j _ hj => l1 j (by omega)), Nat.zero_add]
   have : bitsN x k 1 = [k] := by unfold bitsN; simp [List.range'_one, l2]
   rw [this]; rfl
  have s2 : bitsN (x &&& (x - 1)) 0 32 = bitsN x (k + 1) (31 - k) := by
   conv => lhs; rw [e]
   rw [bitsN_split, bitsN_split, bitsN_none (fun j _ hj => l3 j (by omega)), bitsN_none (fun j hj1 hj2 => l3 j (by omega)), Nat.zero_add]
   exact bitsN_same (fun j hj _ => l4 j (by omega))
  unfold listP
  rw [s1, s2]; rfl
 ·have := Nat.and_le_right (n := x) (m := x - 1)
  omega
theorem listP_zero : listP 0 = [] := by
 unfold listP
 rw [bitsN_none (fun j _ _ => Nat.zero_testBit j)]; rfl
theorem listP_mem {x : Nat} {y : Int} (h : y ∈ listP x) : 0 ≤ y ∧ y < 32 ∧ x.testBit y.toNat = true := by
 unfold listP bitsN at h
 rw [List.mem_map] at h
 obtain ⟨j, hj, rfl⟩ := h
 rw [List.mem_filter, List.mem_range'_1] at hj
 exact ⟨by omega, by omega, by simpa using hj.2⟩
theorem listP_len (x : Nat) : (listP x).length ≤ 32 := by
 unfold listP bitsN
 rw [List.length_map]
 exact Nat.le_trans (List.length_filter_le _ _) (by simp)
structure LaidZ (w : World) : Prop extends Laid w where
 tz : Lib.TabIs Tryz.prog w "math/bits.deBruijn32tab" .u8 (Lib.deBruijn32tab.map Int.ofNat)
theorem LaidZ.below {w w' : World} (h : LaidZ w) (hb : Below w.heap.size w w') : LaidZ w' := ⟨h.toLaid.below hb, var_below hb h.tz⟩
theorem gTz : Tryz.prog.globalNamed "math/bits.deBruijn32tab" = some 1 := by kernel_rfl
theorem tz_cell {w : World} (h : LaidZ w) (j : Nat) (hj : j < 32) : w.cell? ⟨1, j, none⟩ = some (.int .u8 (Lib.deBruijn32tab.getD j 0)) := by
 have := h.tz.cell gTz j (by show j < (Lib.deBruijn32tab.map Int.ofNat).length; simpa [Lib.deBruijn32tab] using hj)
 rw [this]
 have hl : j < Lib.deBruijn32tab.length := by simpa [Lib.deBruijn32tab] using hj
 simp [List.getD_eq_getElem?_getD, List.getElem?_eq_getElem hl]
theorem tz_core (x k idx : Nat) (w : World) (hx0 : ((x : Int) == 0) = false)
  (key : bits BinOp.and IntKind.u32 (x : Int) (-(x : Int) % 4294967296) * 125613361 % 4294967296 / 134217728 = (idx : Int))
  (hi : idx < 32) (hk : k < 32) (hcell : w.cell? ⟨1, idx, none⟩ = some (.int .u8 k)) :
  Calls Tryz.prog 134 #[.int .u32 (x : Int)] w fun e w' => e = .returned (.int .i64 (k : Int)) ∧ w' = w := by
 go_enter Tryz.func134, Tryz.ntmps134
 go_wp2_with (simp only [key])
 go_ret
 exact ⟨rfl, rfl⟩
theorem tz_any (x : Nat) (h0 : x ≠ 0) (hx : x < 4294967296) (w : World) (hw : LaidZ w) :
  Calls Tryz.prog 134 #[.int .u32 (x : Int)] w fun e w' => e = .returned (.int .i64 (Lib.ctz 32 x : Nat)) ∧ w' = w := by
 obtain ⟨hlow, hk⟩ := Lib.lowest_bit 32 x h0 hx
 obtain ⟨hi, htab⟩ := Lib.deBruijn32_at _ hk
 have hcell := tz_cell hw _ hi
 rw [htab] at hcell
 exact tz_core x _ _ w (by rw [beq_eq_false_iff_ne]; omega) (tz32_key x _ hx h0 hlow) hi hk hcell
end Go.Proofs.YtemoonhnncopoaaGreatDoor
end
section
namespace Go.Proofs.YtemoonhnncopoaaGreatDoor
open Go.RowKit Go.Proofs.YtemoonhnncopoaaGreatDoorW.PrintWords
open PX (T V)
theorem few_s {st : List Sta} {tr : List Tra} (h : fewP st tr = true) : (∀ x ∈ st, x.f2.length ≤ 1000 ∧ x.f3.length ≤ 1000 ∧ x.f4.length ≤ 1000) ∧ ∀ x ∈ tr, x.f3.length ≤ 1000 ∧ x.f5.length ≤ 1000 := by
 simp only [fewP, Bool.and_eq_true, decide_eq_true_eq, List.all_eq_true] at h
 obtain ⟨⟨⟨h1, h2⟩, h3⟩, h4⟩ := h
 refine ⟨fun x hx => ?_, fun x hx => ?_⟩
 ·have := h3 x hx
  simp only [fewS, fewAP, Bool.and_eq_true, decide_eq_true_eq, List.all_eq_true] at this
  omega
 ·have := h4 x hx
  simp only [fewT, fewAP, Bool.and_eq_true, decide_eq_true_eq, List.all_eq_true] at this
  omega
theorem erV_low {B B' : Nat} {w : World} {v : Value} {e : Er} (h : ErV B w v e) (hB : B' ≤ B) : ErV B' w v e := by
 cases e with
 | none => exact h
 | code c => exact h
 | spot a c => obtain ⟨g, h1, h2, h3⟩ := h; exact ⟨g, h1, by omega, h3⟩
theorem good_ahead {v : Int} {st : List Sta} {tr : List Tra} (h : chkP v st tr = .none) : Ahead st := by
 obtain ⟨_, h2, _⟩ := chk_none h
 exact ahead_of h2
theorem tnew_any (v : Int) (A B : Option Addr) (ca cb : Nat) (st : List Sta) (tr : List Tra) (hF : fewP st tr = true) (w : World) (hw : Laid w) (hM : ChM w A ca st B cb tr) :
  Calls Tryz.prog 26 #[ckV v A B st.length tr.length ca cb] w fun e w' => (∃ p ev, e = .returned (.tuple #[p, ev]) ∧ ((chkP v st tr = .none ∧ ∃ g, p = .pointer (some ⟨g, 0, none⟩) ∧ ev = .nilIface ∧ w.heap.size ≤ g ∧ TrM w' g v st tr) ∨ (chkP v st tr ≠ .none ∧ p = .pointer none ∧ ErV w.heap.size w' ev (chkP v st tr)))) ∧ Below w.heap.size w w' := by
 have k6 := eqErr
 have hb0 : Below w.heap.size w (w.alloc (.cells #[.int .i64 v, .slice A st.length ca, .slice B tr.length cb] 47)) := (Below.refl _ w).alloc (Nat.le_refl _) _
 have HB0 := Lib.hid hb0
 have HW := Lib.hid (hw.below hb0)
 have HM := Lib.hid (hM.below hb0)
 have HG := Lib.hid (blk_new w (.cells #[.int .i64 v, .slice A st.length ca, .slice B tr.length cb] 47))
 obtain ⟨hfc, hl1, hl2⟩ := few_of hF
 obtain ⟨hS, hT⟩ := few_s hF
 have HFC := Lib.hid hfc
 have HSl := Lib.hid hS
 have HTl := Lib.hid hT
 clear hb0 hw hM hfc hS hT
 go_enter Tryz.func26, Tryz.ntmps26
 go_wp2_with fail
 generalize w.alloc (.cells #[.int .i64 v, .slice A st.length ca, .slice B tr.length cb] 47) = w0 at HB0 HW HM HG ⊢
 have hk := HG.out
 obtain ⟨y0, y1, y2⟩ : w0.cell? ⟨w.heap.size, 0, none⟩ = some (.int .i64 v) ∧ w0.cell? ⟨w.heap.size, 1, none⟩ = some (.slice A st.length ca) ∧ w0.cell? ⟨w.heap.size, 2, none⟩ = some (.slice B tr.length cb) := ⟨blk_cell hk 0, blk_cell hk 1, blk_cell hk 2⟩
 clear hk
 go_wp2_with fail
 refine (check_any v A B ca cb st tr HFC.out _ HW.out HM.out).mono ?_
 rintro e w1 ⟨ev, rfl, hev, hb1⟩
 have HB1 := Lib.hid (below_then HB0.out HB0.out.size hb1)
 by_cases he : chkP v st tr = .none
 ·obtain rfl := er_nil hev he
  have HE := Lib.hid he
  have hk := (hb1.block _ (lt_of_block HG.out)).trans HG.out
  clear y0 y1 y2
  obtain ⟨y0, y1, y2⟩ : w1.cell? ⟨w.heap.size, 0, none⟩ = some (.int .i64 v) ∧ w1.cell? ⟨w.heap.size, 1, none⟩ = some (.slice A st.length ca) ∧ w1.cell? ⟨w.heap.size, 2, none⟩ = some (.slice B tr.length cb) := ⟨blk_cell hk 0, blk_cell hk 1, blk_cell hk 2⟩
  have HM1 := Lib.hid (HM.out.below hb1)
  clear he hev hk hb1
  go_wp2_with fail
  refine (copied_any v A B ca cb st tr (by have := (chk_none HE.out).1; omega) (by omega) (by omega) HSl.out HTl.out _ HM1.out).mono ?_
  rintro e w2 ⟨A', ca', B', cb', rfl, hM2, hb2⟩
  have HB2 := Lib.hid (below_then HB1.out HB1.out.size hb2)
  have hal : Below w2.heap.size w2 (w2.alloc (.cells #[.int .i64 v, .slice A' st.length ca', .slice B' tr.length cb'] 106)) := (Below.refl _ w2).alloc (Nat.le_refl _) _
  have HTr := Lib.hid (show TrM (w2.alloc (.cells #[.int .i64 v, .slice A' st.length ca', .slice B' tr.length cb'] 106)) w2.heap.size v st tr from ⟨A', ca', B', cb', blk_new w2 _, hM2.below hal⟩)
  have HB3 := Lib.hid (below_then HB2.out HB2.out.size hal)
  clear hM2 hal hb2
  go_wp2_with fail
  go_ret2
  exact ⟨⟨_, _, rfl, .inl ⟨HE.out, _, rfl, rfl, HB2.out.size, HTr.out⟩⟩, HB3.out⟩
 ·have HE := Lib.hid he
  have HEv := Lib.hid (erV_low hev HB0.out.size)
  rcases er_some hev he with ⟨c, rfl⟩ | ⟨c, rfl⟩
  all_goals
   clear he hev
   go_wp2_with fail
   go_ret2
   exact ⟨⟨_, _, rfl, .inr ⟨HE.out, rfl, HEv.out⟩⟩, HB1.out⟩
end Go.Proofs.YtemoonhnncopoaaGreatDoor
end
section
namespace Go.Proofs.YtemoonhnncopoaaGreatDoor
open Go.RowKit Go.Proofs.YtemoonhnncopoaaGreatDoorW.PrintWords
open PX (T V)
def pastP (st : List Sta) (s : Int) : Bool := decide ((rdS st s).f0 = 5 ∨ (rdS st s).f0 = 6)
theorem past_f (st : List Sta) (tr : List Tra) (v s : Int) (h : thS st s) : PAll.spinetref07_Past.f v st tr s = some (pastP st s) := by
 unfold PAll.spinetref07_Past.f pastP
 rw [if_pos h.1, if_pos h.2]
 by_cases h5 : (rdS st s).f0 = 5
 ·rw [if_pos h5, decide_eq_true (.inl h5)]
 ·rw [if_neg h5]
  by_cases h6 : (rdS st s).f0 = 6
  ·rw [decide_eq_true (.inr h6)]; congr 1; simp [h6]
  ·rw [decide_eq_false (by omega)]; congr 1; simp [h6]
theorem hasb_ev (d : Nat) : ∀ (x : Nat) (i s : Nat), x < 4294967296 → i ≤ s → s - i = d → s ≤ 1000000 → Ev (fun k => PAll.spinetref07_Has.l0 k (x : Int) (s : Int) (i : Int)) (x.testBit d) := by
 induction d with
 | zero =>
  intro x i s hx hi hd hs
  obtain rfl : i = s := by omega
  refine Ev.step (fun k => rfl) ?_
  simp only [PAll.spinetref07_Has.l0]
  refine ev_neg (by omega) (ev_pos (by omega) (ev_is ?_ (Ev.now _)))
  rw [Nat.testBit_zero]
  have : Int.tmod (x : Int) 2 = ((x % 2 : Nat) : Int) := by rw [Int.tmod_eq_emod_of_nonneg (by omega)]; omega
  rw [this]
  by_cases h : x % 2 = 1
  ·rw [decide_eq_true h, h]; rfl
  ·rw [decide_eq_false h, show x % 2 = 0 by omega]; rfl
 | succ d ih =>
  intro x i s hx hi hd hs
  refine Ev.step (fun k => rfl) ?_
  simp only [PAll.spinetref07_Has.l0]
  refine ev_pos (by omega) ?_
  have e1 : Int.tdiv (x : Int) 2 % 4294967296 = ((x / 2 : Nat) : Int) := by rw [Int.tdiv_eq_ediv_of_nonneg (by omega)]; omega
  rw [w64 (by omega) (by omega), e1, Nat.testBit_succ]
  exact ih (x / 2) (i + 1) s (by omega) (by omega) (by omega) hs
theorem hasb_any (x : Nat) (s : Nat) (hx : x < 4294967296) (hs : s ≤ 1000000) (w : World) : Calls Tryz.prog 33 #[.int .u32 (x : Int), .int .i64 (s : Int)] w fun e w' => e = .returned (.bool (x.testBit s)) ∧ Below w.heap.size w w' := by
 obtain ⟨k, hk⟩ := Ev.rounds (show Ev (fun k => PAll.spinetref07_Has.f k (x : Int) (s : Int)) (x.testBit s) from hasb_ev s x 0 s hx (by omega) (by omega) hs)
 refine (PAll.spinetref07_Has.calls k (x : Int) (s : Int) _ w hk).mono ?_
 rintro e w' ⟨rfl, hb⟩
 exact ⟨rfl, drawn_below hb⟩
theorem past_any {w : World} {A B : Option Addr} {ca cb : Nat} {st : List Sta} {tr : List Tra} (h : ChM w A ca st B cb tr) (v s : Int) (hs : thS st s) : Calls Tryz.prog 32 #[ckV v A B st.length tr.length ca cb, .int .i64 s] w fun e w' => e = .returned (.bool (pastP st s)) ∧ Below w.heap.size w w' :=
 PAll.spinetref07_Past.calls v A ca st B cb tr s _ w h.cs h.sc h.ct h.tc (past_f st tr v s hs)
theorem good_kind {v : Int} {st : List Sta} {tr : List Tra} (h : chkP v st tr = .none) {s : Int} (hs : thS st s) : 1 ≤ (rdS st s).f0 ∧ (rdS st s).f0 ≤ 6 := by
 have := (chk_none h).2.1 s hs.1 hs.2
 unfold stateP at this
 split at this
 ·omega
 ·rename_i h1
  simp only [not_or] at h1
  obtain ⟨h1, h2, _⟩ := h1
  show 1 ≤ (PAll.rd_T54 st s).f0 ∧ (PAll.rd_T54 st s).f0 ≤ 6
  omega
theorem bel_lt {st : List Sta} (hl : st.length ≤ 24) (s : Int) : belP st s < 4294967296 := by
 have h1 := setN_lt st (fun x => inP st x s) st.length
 have h2 : 2 ^ st.length ≤ 2 ^ 24 := Nat.pow_le_pow_right (by omega) hl
 have h3 : (2 : Nat) ^ 24 < 4294967296 := by decide
 unfold belP
 omega
theorem bel_has {v : Int} {st : List Sta} {tr : List Tra} (h : chkP v st tr = .none) (x : Int) (s : Nat) (hs : s < st.length) : (belP st x).testBit s = (inP st (s : Int) x && !pastP st (s : Int)) := by
 obtain ⟨h1, h2⟩ := good_kind h (s := (s : Int)) ⟨by omega, by omega⟩
 unfold belP pastP
 rw [setN_bit, decide_eq_true hs, Bool.true_and, Bool.and_comm]
 congr 1
 by_cases c : (rdS st (s : Int)).f0 < 5
 ·rw [decide_eq_true c, decide_eq_false (by omega)]; rfl
 ·rw [decide_eq_false c, decide_eq_true (by omega)]; rfl
end Go.Proofs.YtemoonhnncopoaaGreatDoor
end
section
namespace Go.Proofs.YtemoonhnncopoaaGreatDoor
open Go.RowKit Go.Proofs.YtemoonhnncopoaaGreatDoorW.PrintWords
open PX (T V)
theorem listP_iff {x : Nat} {y : Int} : y ∈ listP x ↔ 0 ≤ y ∧ y < 32 ∧ x.testBit y.toNat = true := by
 refine ⟨listP_mem, fun ⟨h0, h1, h2⟩ => ?_⟩
 unfold listP bitsN
 rw [List.mem_map]
 exact ⟨y.toNat, List.mem_filter.2 ⟨List.mem_range'_1.2 ⟨by omega, by omega⟩, h2⟩, by omega⟩
theorem mem_kidsF (s : Int) (l : List Sta) : ∀ (i : Int) (y : Int), y ∈ kidsF s l i ↔ ∃ j : Nat, ∃ x, l[j]? = some x ∧ y = i + j ∧ x.f1 = s ∧ histP x.f0 = false := by
 induction l with
 | nil => intro i y; simp [kidsF]
 | cons a l ih =>
  intro i y
  simp only [kidsF]
  have tail : (∃ j : Nat, ∃ x, l[j]? = some x ∧ y = (i + 1) + j ∧ x.f1 = s ∧ histP x.f0 = false) → ∃ j : Nat, ∃ x, (a :: l)[j]? = some x ∧ y = i + j ∧ x.f1 = s ∧ histP x.f0 = false := by
   rintro ⟨j, x, h1, h2, h3⟩
   exact ⟨j + 1, x, by simpa using h1, by omega, h3⟩
  constructor
  ·intro h
   split at h
   ·rename_i c
    rcases List.mem_cons.1 h with rfl | h
    ·exact ⟨0, a, rfl, by omega, c⟩
    ·exact tail ((ih _ _).1 h)
   ·exact tail ((ih _ _).1 h)
  ·rintro ⟨j, x, h1, h2, h3⟩
   cases j with
   | zero =>
    simp only [List.getElem?_cons_zero, Option.some.injEq] at h1
    subst h1
    rw [if_pos h3]
    exact List.mem_cons.2 (.inl (by omega))
   | succ j =>
    have : y ∈ kidsF s l (i + 1) := (ih _ _).2 ⟨j, x, by simpa using h1, by omega, h3⟩
    split
    ·exact List.mem_cons_of_mem _ this
    ·exact this
theorem mem_kidsP {st : List Sta} {s y : Int} : y ∈ kidsP st s ↔ thS st y ∧ (rdS st y).f1 = s ∧ histP (rdS st y).f0 = false := by
 unfold kidsP
 rw [mem_kidsF]
 have rd_of : ∀ (j : Nat) (x : Sta), st[j]? = some x → rdS st (j : Int) = x := by
  intro j x h
  show PAll.rd_T54 st (j : Int) = x
  unfold PAll.rd_T54
  rw [List.getD_eq_getElem?_getD, show ((j : Int)).toNat = j from rfl, h]; rfl
 constructor
 ·rintro ⟨j, x, h1, h2, h3, h4⟩
  obtain ⟨hj, _⟩ := List.getElem?_eq_some_iff.1 h1
  have e : y = (j : Int) := by omega
  rw [e, rd_of j x h1]
  exact ⟨⟨by omega, by omega⟩, h3, h4⟩
 ·rintro ⟨⟨h0, h1⟩, h3, h4⟩
  have hx := List.getElem?_eq_getElem (show y.toNat < st.length by omega)
  have e : y = (y.toNat : Int) := by omega
  refine ⟨y.toNat, _, hx, by omega, ?_, ?_⟩
  ·rw [← rd_of _ _ hx, ← e]; exact h3
  ·rw [← rd_of _ _ hx, ← e]; exact h4
def kidB (st : List Sta) (s : Int) : Nat := setN st (fun x => decide (thS st s) && decide ((rdS st x).f1 = s)) st.length
theorem kidB_lt {st : List Sta} (hl : st.length ≤ 24) (s : Int) : kidB st s < 4294967296 := by
 have h1 := setN_lt st (fun x => decide (thS st s) && decide ((rdS st x).f1 = s)) st.length
 have h2 : 2 ^ st.length ≤ 2 ^ 24 := Nat.pow_le_pow_right (by omega) hl
 have h3 : (2 : Nat) ^ 24 < 4294967296 := by decide
 unfold kidB
 omega
def shOf (st : List Sta) (hs : List Int) : Ent.Shp where
 n := st.length
 kind s := (rdS st s).f0
 par s := (rdS st s).f1
 ini s := rd (rdS st s).f2 0
 kids s := listP (kidB st s)
 bel := belP st
 up := upP st
 stands s := if s < (hs.length : Int) ∧ rd hs s ≠ 0 then listP (rd hs s).toNat else (rdS st s).f2
theorem filt_two {α : Type} {p q r : α → Bool} (l : List α) (h1 : ∀ x ∈ l, p x = true → r x = true ∧ q x = false) (h2 : ∀ x ∈ l, q x = true → r x = true) : (l.filter p).length + (l.filter q).length ≤ (l.filter r).length := by
 induction l with
 | nil => simp
 | cons a l ih =>
  have := ih (fun x hx => h1 x (List.mem_cons_of_mem _ hx)) (fun x hx => h2 x (List.mem_cons_of_mem _ hx))
  have a1 := h1 a (List.mem_cons_self ..)
  have a2 := h2 a (List.mem_cons_self ..)
  simp only [List.filter_cons]
  cases hp : p a with
  | true => obtain ⟨b1, b2⟩ := a1 hp; rw [b1, b2]; simp; omega
  | false =>
   cases hq : q a with
   | true => rw [a2 hq]; simp; omega
   | false => cases r a <;> simp <;> omega
theorem sh_ok {v : Int} {st : List Sta} {tr : List Tra} (h : chkP v st tr = .none) (hs : List Int) : Ent.ShOk (shOf st hs) (fun a b => inP st a b = true) := by
 have ha := good_ahead h
 obtain ⟨⟨_, _, hn1, hn, _⟩, hz, _⟩ := chk_none h
 have hkind : ∀ s : Int, 0 ≤ s → s < (st.length : Int) → 1 ≤ (rdS st s).f0 ∧ (rdS st s).f0 ≤ 6 := fun s h0 h1 => good_kind h ⟨h0, h1⟩
 have hist : ∀ k : Int, 1 ≤ k → k ≤ 6 → (histP k = false ↔ k < 5) := by
  intro k h1 h2
  unfold histP
  rw [Bool.or_eq_false_iff, beq_eq_false_iff_ne, beq_eq_false_iff_ne]
  omega
 have par0 : (rdS st 0).f1 = -1 := by
  obtain ⟨_, p2⟩ := state_par (hz 0 (Int.le_refl _) (by omega))
  unfold parP at p2
  rw [if_pos rfl] at p2
  split at p2
  ·assumption
  ·omega
 have kidi : ∀ s k : Int, k ∈ listP (kidB st s) ↔ 0 < k ∧ k < (st.length : Int) ∧ (rdS st k).f1 = s ∧ (rdS st k).f0 < 5 := by
  intro s k
  rw [listP_iff]
  unfold kidB
  constructor
  ·rintro ⟨h0, h1, h2⟩
   rw [setN_bit, show ((k.toNat : Nat) : Int) = k by omega] at h2
   simp only [Bool.and_eq_true, decide_eq_true_eq] at h2
   obtain ⟨b1, b2, b3, b4⟩ := h2
   refine ⟨?_, by omega, b4, b2⟩
   rcases Int.lt_or_le 0 k with hk | hk
   ·exact hk
   ·exfalso
    obtain rfl : k = 0 := by omega
    have := b3.1; rw [par0] at b4; omega
  ·rintro ⟨h0, h1, h2, h3⟩
   refine ⟨by omega, by omega, ?_⟩
   rw [setN_bit, show ((k.toNat : Nat) : Int) = k by omega]
   simp only [Bool.and_eq_true, decide_eq_true_eq]
   have := ahead_at ha (s := k) ⟨by omega, h1⟩
   exact ⟨by omega, h3, ⟨by have := this.2 h0; omega, by omega⟩, h2⟩
 refine ⟨hn, fun s h0 h1 => ?_, par0, hkind, fun s h0 h1 => ?_, kidi, fun s h0 h1 hk => ?_, fun a b => ?_, fun s x => ?_, fun s h0 h1 => ?_, fun s h0 h1 hk => ?_, ?_⟩
 ·have := ahead_at ha (s := s) ⟨by omega, h1⟩
  exact ⟨this.2 h0, this.1⟩
 ·obtain ⟨_, p2⟩ := state_par (hz s (by omega) h1)
  unfold parP at p2
  rw [if_neg (by omega)] at p2
  show (rdS st (rdS st s).f1).f0 = 2 ∨ (rdS st (rdS st s).f1).f0 = 3
  split at p2
  ·omega
  ·split at p2
   ·omega
   ·split at p2
    ·rename_i e; exact .inl e
    ·split at p2
     ·rename_i e; exact .inr e
     ·omega
 ·have hz' := hz s h0 h1
  unfold stateP at hz'
  have hk' : (PAll.rd_T54 st s).f0 = 2 ∨ (PAll.rd_T54 st s).f0 = 3 := hk
  split at hz'
  ·omega
  ·split at hz'
   ·omega
   ·split at hz'
    ·omega
    ·rename_i hne
     have : kidsP st s ≠ [] := fun e => hne ⟨hk', e⟩
     obtain ⟨k, hk2⟩ := List.exists_mem_of_ne_nil _ this
     obtain ⟨q1, q2, q3⟩ := mem_kidsP.1 hk2
     have hb := hkind k q1.1 q1.2
     refine ⟨k, (kidi s k).2 ⟨?_, q1.2, q2, (hist _ hb.1 hb.2).1 q3⟩⟩
     have := q1.1
     rcases Int.lt_or_le 0 k with hk | hk
     ·exact hk
     ·obtain rfl : k = 0 := by omega
      rw [par0] at q2; omega
 ·show inP st a b = true ↔ 0 < a ∧ a < (st.length : Int) ∧ 0 ≤ b ∧ ((rdS st a).f1 = b ∨ inP st (rdS st a).f1 b = true)
  unfold inP
  rw [inC_eq]
  constructor
  ·intro hh
   rw [Bool.and_eq_true] at hh
   obtain ⟨b0, hh⟩ := hh
   have b0 := of_decide_eq_true b0
   split at hh
   ·rename_i c
    refine ⟨c.2.1, c.2.2, b0, ?_⟩
    split at hh
    ·cases hh
    ·split at hh
     ·rename_i e; exact .inl e
     ·exact .inr (by rw [Bool.and_eq_true]; exact ⟨decide_eq_true b0, hh⟩)
   ·cases hh
  ·rintro ⟨h1, h2, h3, h4⟩
   have := ahead_at ha (s := a) ⟨by omega, h2⟩
   have hlt : (rdS st a).f1 < a := this.1
   have hge := this.2 h1
   rw [Bool.and_eq_true]
   refine ⟨decide_eq_true h3, ?_⟩
   have hab : a > b := by
    rcases h4 with h4 | h4
    ·omega
    ·rw [Bool.and_eq_true] at h4
     have := inC_lt h4.2; omega
   rw [if_pos ⟨hab, h1, h2⟩, if_neg (by show ¬ (rdS st a).f1 ≥ a; omega)]
   by_cases e : (rdS st a).f1 = b
   ·rw [if_pos e]
   ·rw [if_neg e]
    rcases h4 with h4 | h4
    ·exact absurd h4 e
    ·rw [Bool.and_eq_true] at h4; exact h4.2
 ·show Ent.has (belP st s) x ↔ inP st x s = true ∧ (rdS st x).f0 < 5
  unfold Ent.has
  constructor
  ·rintro ⟨h0, h1⟩
   by_cases hx : x.toNat < st.length
   ·rw [bel_has h s x.toNat hx, show ((x.toNat : Nat) : Int) = x by omega, Bool.and_eq_true] at h1
    have hb := hkind x h0 (by omega)
    refine ⟨h1.1, ?_⟩
    have h2 := h1.2
    unfold pastP at h2
    simp at h2
    omega
   ·unfold belP at h1
    rw [setN_bit, decide_eq_false hx] at h1
    cases h1
  ·rintro ⟨h1, h2⟩
   have h1' := h1
   unfold inP at h1'
   rw [Bool.and_eq_true] at h1'
   have := inC_lt h1'.2
   refine ⟨by omega, ?_⟩
   rw [bel_has h s x.toNat (by omega), show ((x.toNat : Nat) : Int) = x by omega, h1]
   unfold pastP
   rw [decide_eq_false (by omega)]; rfl
 ·show upP st s = if 0 < s then (rdS st s).f1 :: upP st (rdS st s).f1 else []
  rw [upP_eq ha]
  by_cases hs0 : 0 < s
  ·rw [if_pos hs0, if_pos ⟨⟨h0, h1⟩, (ahead_at ha ⟨h0, h1⟩).2 hs0⟩]
  ·obtain rfl : s = 0 := by omega
   rw [if_neg hs0, if_neg (by rw [par0]; omega)]
 ·have hz' := hz s h0 h1
  unfold stateP at hz'
  have hi : iniP st s = true := by
   split at hz'
   ·omega
   ·split at hz'
    ·omega
    ·split at hz'
     ·omega
     ·split at hz'
      ·omega
      ·rename_i e; simpa using e
  have hk' : (rdS st s).f0 = 2 := hk
  show inP st (rd (rdS st s).f2 0) s = true ∧ (rdS st (rd (rdS st s).f2 0)).f0 < 5
  unfold iniP at hi
  rw [if_neg (by rintro ⟨e, _⟩; exact e hk')] at hi
  split at hi
  ·cases hi
  ·split at hi
   ·cases hi
   ·rename_i _ hto
    have hto := Classical.not_not.1 hto
    split at hi
    ·cases hi
    ·rename_i hnh
     have hb := hkind _ hto.1 hto.2
     refine ⟨?_, (hist _ hb.1 hb.2).1 (by simpa using hnh)⟩
     unfold inP
     rw [hi, decide_eq_true h0]; rfl
 ·refine ⟨fun c => ((List.range' 0 32).filter (fun x => decide (x < st.length) && decide ((rdS st (x : Int)).f1 < c))).length, fun c => Nat.le_trans (List.length_filter_le _ _) (by simp), fun c h0 h1 => ?_⟩
  show _ + (listP (kidB st (rdS st c).f1)).length ≤ _
  unfold listP bitsN
  rw [List.length_map]
  have hp := (ahead_at ha (s := c) ⟨by omega, h1⟩).1
  refine filt_two _ (fun x hx hh => ?_) (fun x hx hh => ?_)
  ·simp only [Bool.and_eq_true, decide_eq_true_eq] at hh ⊢
   refine ⟨⟨hh.1, by show (rdS st (x : Int)).f1 < c; have h2 := hh.2; have : (rdS st (x : Int)).f1 < (shOf st hs).par c := h2; have e : (shOf st hs).par c = (rdS st c).f1 := rfl; omega⟩, ?_⟩
   refine Bool.eq_false_iff.2 (fun hb => ?_)
   have hx32 := List.mem_range'_1.1 hx
   have := (kidi (rdS st c).f1 (x : Int)).1 (listP_iff.2 ⟨by omega, by omega, by simpa using hb⟩)
   have e : (shOf st hs).par c = (rdS st c).f1 := rfl
   have h2 : (rdS st (x : Int)).f1 < (shOf st hs).par c := hh.2
   omega
  ·have hx32 := List.mem_range'_1.1 hx
   have := (kidi (rdS st c).f1 (x : Int)).1 (listP_iff.2 ⟨by omega, by omega, by simpa using hh⟩)
   simp only [Bool.and_eq_true, decide_eq_true_eq]
   exact ⟨by omega, by omega⟩
end Go.Proofs.YtemoonhnncopoaaGreatDoor
end
section
namespace Go.Proofs.YtemoonhnncopoaaGreatDoor
open Go.RowKit Go.Proofs.YtemoonhnncopoaaGreatDoorW.PrintWords Go.Proofs.YtemoonhnncopoaaGreatDoorW.PrintLast
open PX (T V)
section
variable {g : Nat} {v : Int} {st : List Sta} {tr : List Tra} {w : World}
theorem tthere_same (h : TrM w g v st tr) (s : Int) {b : Bool} (hb : decide (thS st s) = b) : Calls Tryz.prog 64 #[.pointer (some ⟨g, 0, none⟩), .int .i64 s] w fun e w' => e = .returned (.bool b) ∧ w' = w := by
 obtain ⟨A, ca, B, cb, h1, h2⟩ := h
 have y1 : w.cell? ⟨g, 1, none⟩ = some (.slice A st.length ca) := blk_cell h1 1
 have y0 : w.cell? ⟨g, 0, none⟩ = some (.int .i64 v) := blk_cell h1 0
 have HR := Lib.hid hb
 clear h1 h2 hb
 by_cases c : 0 ≤ s
 ·have d1 : decide (s ≥ 0) = true := decide_eq_true c
  have d1' : decide (0 ≤ s) = true := decide_eq_true c
  by_cases c2 : s < (st.length : Int)
  ·have d2 : decide (s < (st.length : Int)) = true := decide_eq_true c2
   have HC : Hid (thS st s) := Lib.hid ⟨c, c2⟩
   clear c c2
   go_enter Tryz.func64, Tryz.ntmps64
   go_wp2_with fail
   go_ret
   exact ⟨by rw [← HR.out, decide_eq_true HC.out]; rfl, rfl⟩
  ·have d2 : decide (s < (st.length : Int)) = false := decide_eq_false c2
   have HC : Hid (¬ thS st s) := Lib.hid (fun h => c2 h.2)
   clear c c2
   go_enter Tryz.func64, Tryz.ntmps64
   go_wp2_with fail
   go_ret
   exact ⟨by rw [← HR.out, decide_eq_false HC.out]; rfl, rfl⟩
 ·have d1 : decide (s ≥ 0) = false := decide_eq_false c
  have d1' : decide (0 ≤ s) = false := decide_eq_false c
  have HC : Hid (¬ thS st s) := Lib.hid (fun h => c h.1)
  clear c
  go_enter Tryz.func64, Tryz.ntmps64
  go_wp2_with fail
  go_ret
  exact ⟨by rw [← HR.out, decide_eq_false HC.out]; rfl, rfl⟩
theorem kidfn_any (h : TrM w g v st tr) (g1 g2 : Nat) (s x : Int) (hx : thS st x) (h1 : w.heap[g1]? = some (.cells #[.pointer (some ⟨g, 0, none⟩)] 49 (0, 0))) (h2 : w.heap[g2]? = some (.cells #[.int .i64 s] 3 (0, 0))) :
  Calls Tryz.prog 162 #[.int .i64 x, .pointer (some ⟨g1, 0, none⟩), .pointer (some ⟨g2, 0, none⟩)] w fun e w' => e = .returned (.bool (decide (thS st s) && decide ((rdS st x).f1 = s))) ∧ Below w.heap.size w w' := by
 have H := Lib.hid h
 have y1 : w.cell? ⟨g1, 0, none⟩ = some (.pointer (some ⟨g, 0, none⟩)) := blk_cell h1 0
 have y2 : w.cell? ⟨g2, 0, none⟩ = some (.int .i64 s) := blk_cell h2 0
 obtain ⟨ad, ca, z0, z1, q0, q1⟩ := trm_at h hx
 have p1 : (0 ≤ x) = True := eq_true hx.1
 have p2 : (x < (st.length : Int)) = True := eq_true hx.2
 clear h h1 h2 hx
 by_cases c : thS st s
 ·have HT : Hid (∀ n, TrM (w.drewN n) g v st tr) := Lib.hid (fun n => H.out.below (below_drewN' (Below.refl _ _) n))
  have HD : Hid (decide (thS st s) = true) := Lib.hid (decide_eq_true c)
  have hr : (decide (thS st s) && decide ((rdS st x).f1 = s)) = ((rdS st x).f1 == s) := by rw [decide_eq_true c, Bool.true_and]; rfl
  rw [hr]
  clear c hr
  go_enter Tryz.func162, Tryz.ntmps162
  go_wp2_with fail
  go_quiet ((go_at_call 64; exact Calls.quiet_of_same (tthere_same (HT.out _) s HD.out)))
  go_wp2_with fail
  go_ret
  exact ⟨rfl, below_drewN' (Below.refl _ _) _⟩
 ·have HT : Hid (∀ n, TrM (w.drewN n) g v st tr) := Lib.hid (fun n => H.out.below (below_drewN' (Below.refl _ _) n))
  have HD : Hid (decide (thS st s) = false) := Lib.hid (decide_eq_false c)
  have hr : (decide (thS st s) && decide ((rdS st x).f1 = s)) = false := by rw [decide_eq_false c, Bool.false_and]
  rw [hr]
  clear c hr
  go_enter Tryz.func162, Tryz.ntmps162
  go_wp2_with fail
  go_quiet ((go_at_call 64; exact Calls.quiet_of_same (tthere_same (HT.out _) s HD.out)))
  go_wp2_with fail
  go_ret
  exact ⟨rfl, below_drewN' (Below.refl _ _) _⟩
theorem tkids_any (h : TrM w g v st tr) (hl : st.length ≤ 24) (s : Int) :
  Calls Tryz.prog 135 #[.pointer (some ⟨g, 0, none⟩), .int .i64 s] w fun e w' => e = .returned (.int .u32 (kidB st s : Nat)) ∧ Below w.heap.size w w' := by
 obtain ⟨p, hp, hk⟩ : ∃ p : Int → Bool, (∀ x, (decide (thS st s) && decide ((rdS st x).f1 = s)) = p x) ∧ kidB st s = setN st p st.length := ⟨_, fun _ => rfl, rfl⟩
 rw [hk]
 have HP := Lib.hid hp
 clear hk hp
 have hmf : ∀ (fn : Fn) (first cap : Array Value) (w : World), (Instr.makeFunc fn first cap).run Tryz.prog w = .ok (.func fn first cap) w := fun _ _ _ _ => rfl
 have hrun : ∀ args w, (callFunc 162 args).run Tryz.prog w = .ok (.enter 162 args) w := fun _ _ => rfl
 have hb0 : Below w.heap.size w ((w.alloc (.cells #[.pointer (some ⟨g, 0, none⟩)] 49)).alloc (.cells #[.int .i64 s] 3)) := ((Below.refl _ w).alloc (Nat.le_refl _) _).alloc (by simp) _
 have HB0 := Lib.hid hb0
 obtain ⟨hk1, hk2, hlt0, hsz⟩ := boxed2 (Below.refl _ ((w.alloc (.cells #[.pointer (some ⟨g, 0, none⟩)] 49)).alloc (.cells #[.int .i64 s] 3)))
 have HK1 := Lib.hid hk1
 have HK2 := Lib.hid hk2
 have y1 : ((w.alloc (.cells #[.pointer (some ⟨g, 0, none⟩)] 49)).alloc (.cells #[.int .i64 s] 3)).cell? ⟨w.heap.size, 0, none⟩ = some (.pointer (some ⟨g, 0, none⟩)) := blk_cell hk1 0
 have H := Lib.hid (h.below hb0)
 clear h hb0 hk1 hk2
 go_enter Tryz.func135, Tryz.ntmps135
 go_wp2_with fail
 generalize (w.alloc (.cells #[.pointer (some ⟨g, 0, none⟩)] 49)).alloc (.cells #[.int .i64 s] 3) = w0 at HB0 HK1 HK2 y1 H hlt0 ⊢
 have HAs : Hid (Asks 162 w.heap.size (w.heap.size + 1) w0 st.length p) := Lib.hid (fun wr hb x hx => by
  rw [← HP.out]
  exact kidfn_any (H.out.below hb) w.heap.size (w.heap.size + 1) s x ⟨by omega, by omega⟩ ((hb.block _ (lt_of_block HK1.out)).trans HK1.out) ((hb.block _ (lt_of_block HK2.out)).trans HK2.out))
 go_wp2_with fail
 refine (tset_any H.out hl 162 w.heap.size (w.heap.size + 1) hrun _ HAs.out).mono ?_
 rintro e w1 ⟨rfl, hb1⟩
 go_wp2_with fail
 go_ret
 exact ⟨rfl, below_then HB0.out HB0.out.size hb1⟩
end
theorem listP_drop {x y : Nat} {acc : List Int} (h0 : y ≠ 0) (hy : y < 4294967296) (h : listP x = acc ++ listP y) : listP x = (acc ++ [((Lib.ctz 32 y : Nat) : Int)]) ++ listP (y &&& (y - 1)) := by
 rw [h, (listP_step h0 hy).1]; simp
theorem list_any (x : Nat) (hx : x < 4294967296) (w : World) (hw : LaidZ w) : Calls Tryz.prog 97 #[.int .u32 (x : Int)] w fun e w' => ∃ u : Value, e = .returned u ∧ InnR w' w.heap.size u (listP x) ∧ Below w.heap.size w w' := by
 have HW := Lib.hid hw
 clear hw
 go_enter Tryz.func97, Tryz.ntmps97
 go_wp2_with fail
 go_loopw [0, 3] (fun s u wr => ∃ (y : Nat) (acc : List Int), s = .int .u32 (y : Int) ∧ y < 4294967296 ∧ Hid (listP x = acc ++ listP y) ∧ Hid (InnR wr w.heap.size u acc) ∧ Hid (Below w.heap.size w wr)) (fun s _ _ => (intOf s).toNat)
 case atStart => exact ⟨x, [], rfl, hx, Lib.hid (by simp), Lib.hid (Kd.R_nil _ _ _ _ _), Lib.hid (Below.refl _ _)⟩
 case round =>
  obtain ⟨y, acc, rfl, hy, HE, HO, HB⟩ := hrel
  by_cases c : y = 0
  ·subst c
   have HR : Hid (listP x = acc) := Lib.hid (by rw [HE.out, listP_zero]; simp)
   go_wp2_with fail
   go_ret
   exact ⟨_, rfl, by rw [HR.out]; exact HO.out, HB.out⟩
  ·have d1 : ((y : Int) != 0) = true := by rw [bne_iff_ne]; omega
   have d1' : ((y : Int) == 0) = false := by rw [beq_eq_false_iff_ne]; omega
   have HLt := Lib.hid (listP_step c hy).2
   have HE2 := Lib.hid (listP_drop c hy HE.out)
   have hal : acc.length < 1000000 := by
    have := listP_len x
    rw [HE.out, List.length_append] at this
    omega
   have e1 : bits BinOp.and IntKind.u32 (y : Int) (((y : Int) - 1) % 4294967296) = ((y &&& (y - 1) : Nat) : Int) := by
    rw [show ((y : Int) - 1) % 4294967296 = ((y - 1 : Nat) : Int) by omega, u32_and_nat _ _ hy (by omega)]
   have HC := Lib.hid c
   clear c
   go_wp2_with fail
   refine (tz_any y HC.out hy _ (HW.out.below HB.out)).mono ?_
   rintro e w1 ⟨rfl, rfl⟩
   have hsz := HB.out.size
   go_wp2_with (at_builtin; refine inn_append rfl (.tmp 10) (.tmp 13) rfl w.heap.size _ acc ((Lib.ctz 32 y : Nat) : Int) rfl _ rfl rfl HO.out hsz hal ?_)
   intro v1 w2 h1 h2 h3
   have HB2 := Lib.hid (HB.out.trans h2)
   have HO2 := Lib.hid h1
   go_wp2_with (simp only [e1])
   go_roundw
   case rel => exact ⟨y &&& (y - 1), _, rfl, by have := HLt.out; omega, HE2, HO2, HB2⟩
   case measure => have := HLt.out; simp [intOf]; omega
end Go.Proofs.YtemoonhnncopoaaGreatDoor
end
section
namespace Go.Proofs.YtemoonhnncopoaaGreatDoor
open Go.RowKit Go.Proofs.YtemoonhnncopoaaGreatDoorW.PrintWords Go.Proofs.YtemoonhnncopoaaGreatDoorW.PrintLast
open PX (T V)
theorem RowQ.steps {α : Type} {d : Kd α} {e base g q : Nat} {ok : Nat → Prop} {w wr wr' : World} {cs : Array Value} {xs : List α} (h : RowQ d e w wr base ok g cs xs q) (hm : ∀ k, base ≤ k → wr'.heap[k]? = wr.heap[k]?) (hg : base ≤ g) : RowQ d e w wr' base ok g cs xs q :=
 ⟨(hm g hg).trans h.1, fun j x hj => by
  obtain ⟨c, h1, h2, h3, h4⟩ := h.2 j x hj
  exact ⟨c, h1, h2, fun hlt => d.M_mono (fun _ hk => hk.1) (d.M_move (fun k hk => hm k hk.2.1) (d.M_bound (h3 hlt))), h4⟩⟩
def TypAt (w : World) (b t n : Nat) : Prop := ∃ cs : Array Value, w.heap[b]? = some (.cells cs t (0, 0)) ∧ n ≤ cs.size
def Shp (w : World) (base g : Nat) (st : List Sta) : Prop :=
 ∃ cs : Array Value, w.heap[g]? = some (.cells cs 54 (0, 0)) ∧ st.length * 5 ≤ cs.size ∧ ∀ (j : Nat) (x : Sta), st[j]? = some x → ∃ A c, cs[j * 5 + 2]? = some (.slice A x.f2.length c) ∧ x.f2.length ≤ c ∧ (0 < x.f2.length → ∃ b, A = some ⟨b, 0, none⟩ ∧ base ≤ b ∧ TypAt w b 3 x.f2.length)
theorem Shp.low {w : World} {base base' g : Nat} {st : List Sta} (h : Shp w base g st) (hb : base' ≤ base) : Shp w base' g st := by
 obtain ⟨cs, h1, h2, h3⟩ := h
 refine ⟨cs, h1, h2, fun j x hj => ?_⟩
 obtain ⟨A, c, q1, q2, q3⟩ := h3 j x hj
 refine ⟨A, c, q1, q2, fun hp => ?_⟩
 obtain ⟨b', r1, r2, r3⟩ := q3 hp
 exact ⟨b', r1, Nat.le_trans hb r2, r3⟩
theorem shp_of {w w' : World} {base g : Nat} {cs : Array Value} {ok : Nat → Prop} {st : List Sta} (hn : 0 < st.length) (h : RowQ PAll.k54 54 w w' base ok g cs st st.length) : Shp w' base g st := by
 refine ⟨cs, h.1, ?_, fun j x hj => ?_⟩
 ·obtain ⟨c, h1, h2, _, _⟩ := h.2 (st.length - 1) st[st.length - 1] (List.getElem?_eq_getElem (by omega))
  have h1' : c.length = 5 := h1
  have := h2 4 c[4] (List.getElem?_eq_getElem (by omega))
  have hlt := (Array.getElem?_eq_some_iff.1 this).1
  have e : (PAll.k54).sz = 5 := rfl
  rw [e] at hlt
  omega
 ·obtain ⟨c, h1, h2, h3, _⟩ := h.2 j x hj
  obtain ⟨v2, v3, v4, rfl, r2, _, _⟩ := PAll.k54_openM (h3 (List.getElem?_eq_some_iff.1 hj).1)
  obtain ⟨A, cap, rfl⟩ := Kd.R_slice r2
  refine ⟨A, cap, h2 2 _ rfl, (Kd.R_reads' r2).2.1, fun hp => ?_⟩
  obtain ⟨b, cap', e, hb, _, ci, hc⟩ := Kd.R_form r2 hp
  injection e with e1 e2 e3
  subst e1
  refine ⟨b, rfl, hb, ci, hc, ?_⟩
  obtain ⟨ad, had, hr⟩ := (Kd.R_reads' r2).2.2.2.2 hp
  obtain rfl : ad = ⟨b, 0, none⟩ := (Option.some.inj had).symm
  obtain ⟨c', k1, k2, k3⟩ := hr (x.f2.length - 1) x.f2[x.f2.length - 1] (List.getElem?_eq_getElem (by omega))
  have k1' : c'.length = 1 := k1
  have := k3 0 c'[0] (List.getElem?_eq_getElem (by omega))
  rw [add_at, blk_cell hc] at this
  have hlt := (Array.getElem?_eq_some_iff.1 this).1
  have e : (Kd.int .i64).sz = 1 := rfl
  rw [e] at hlt
  omega
theorem typ_of {w w' : World} {base g : Nat} {cs : Array Value} {ok : Nat → Prop} {tr : List Tra} (hn : 0 < tr.length) (h : RowQ PAll.k56 56 w w' base ok g cs tr tr.length) : TypAt w' g 56 (tr.length * 6) := by
 refine ⟨cs, h.1, ?_⟩
 obtain ⟨c, h1, h2, _, _⟩ := h.2 (tr.length - 1) tr[tr.length - 1] (List.getElem?_eq_getElem (by omega))
 have h1' : c.length = 6 := h1
 have := h2 5 c[5] (List.getElem?_eq_getElem (by omega))
 have hlt := (Array.getElem?_eq_some_iff.1 this).1
 have e : (PAll.k56).sz = 6 := rfl
 rw [e] at hlt
 omega
theorem tchart_any {g : Nat} {v : Int} {st : List Sta} {tr : List Tra} {w : World} (h : TrM w g v st tr) (hst : 0 < st.length) (hs : st.length ≤ 1000) (ht : tr.length ≤ 1000) (hS : ∀ x ∈ st, x.f2.length ≤ 1000 ∧ x.f3.length ≤ 1000 ∧ x.f4.length ≤ 1000) (hT : ∀ x ∈ tr, x.f3.length ≤ 1000 ∧ x.f5.length ≤ 1000) :
  Calls Tryz.prog 27 #[.pointer (some ⟨g, 0, none⟩)] w fun e w' => ∃ gS ca' B' cb', e = .returned (ckV v (some ⟨gS, 0, none⟩) B' st.length tr.length ca' cb') ∧ ChM w' (some ⟨gS, 0, none⟩) ca' st B' cb' tr ∧ Below w.heap.size w w' ∧ w.heap.size ≤ gS ∧ Shp w' w.heap.size gS st ∧ ∃ gT, w.heap.size ≤ gT ∧ (0 < tr.length → B' = some ⟨gT, 0, none⟩ ∧ TypAt w' gT 56 (tr.length * 6)) := by
 obtain ⟨A, ca, B, cb, h1, h2⟩ := h
 have hb0 : Below w.heap.size w (w.alloc (.cells #[.int .i64 0, .slice none 0 0, .slice none 0 0] 47)) := (Below.refl _ w).alloc (Nat.le_refl _) _
 have hk := (hb0.block _ (lt_of_block h1)).trans h1
 have HB0 := Lib.hid hb0
 have HM := Lib.hid (h2.below hb0)
 have HK := Lib.hid (blk_new w (.cells #[.int .i64 0, .slice none 0 0, .slice none 0 0] 47))
 obtain ⟨y0, y1, y2⟩ : (w.alloc (.cells #[.int .i64 0, .slice none 0 0, .slice none 0 0] 47)).cell? ⟨g, 0, none⟩ = some (.int .i64 v) ∧ (w.alloc (.cells #[.int .i64 0, .slice none 0 0, .slice none 0 0] 47)).cell? ⟨g, 1, none⟩ = some (.slice A st.length ca) ∧ (w.alloc (.cells #[.int .i64 0, .slice none 0 0, .slice none 0 0] 47)).cell? ⟨g, 2, none⟩ = some (.slice B tr.length cb) := ⟨blk_cell hk 0, blk_cell hk 1, blk_cell hk 2⟩
 have HSl := Lib.hid hS
 have HTl := Lib.hid hT
 clear h1 h2 hb0 hk hS hT
 go_enter Tryz.func27, Tryz.ntmps27
 go_wp2_with fail
 generalize w.alloc (.cells #[.int .i64 0, .slice none 0 0, .slice none 0 0] 47) = w0 at HB0 HM HK y0 y1 y2 ⊢
 go_wp2_with fail
 refine (copied_own v A B ca cb st tr hst hs ht HSl.out HTl.out _ HM.out).mono ?_
 rintro e w1 ⟨A', ca', B', cb', rfl, hM, hb1, ⟨gS, csS, ok, rfl, hgS, hQ⟩, hTT⟩
 have hk := (hb1.block _ (lt_of_block HK.out)).trans HK.out
 have hwS : w.heap.size ≤ gS := Nat.le_trans HB0.out.size hgS
 have hS1 := shp_of hst hQ
 obtain ⟨cS, hcS, _, _⟩ := hS1
 have hlt := lt_of_block HK.out
 have hne : ∀ b, w0.heap.size ≤ b → b ≠ w.heap.size := fun b hb e => by omega
 have HB1 := Lib.hid (below_then HB0.out HB0.out.size hb1)
 obtain ⟨c0, c1, c2⟩ : w1.cell? ⟨w.heap.size, 0, none⟩ = some (.int .i64 0) ∧ w1.cell? ⟨w.heap.size, 1, none⟩ = some (.slice none 0 0) ∧ w1.cell? ⟨w.heap.size, 2, none⟩ = some (.slice none 0 0) := ⟨blk_cell hk 0, blk_cell hk 1, blk_cell hk 2⟩
 have f0 := blk_free hk 0
 have f1 := blk_free hk 1
 have f2 := blk_free hk 2
 have HKk := Lib.hid hk
 have HMm := Lib.hid hM
 have HQq := Lib.hid hQ
 have HTq := Lib.hid hTT
 have HNe := Lib.hid hne
 clear hk hM hQ hTT hcS hlt hb1 hne
 go_wp2_with fail
 have hst3 : ∀ j, j ≠ w.heap.size → (((w1.setCell ⟨w.heap.size, 0, none⟩ (.int .i64 v)).setCell ⟨w.heap.size, 1, none⟩ (.slice (some ⟨gS, 0, none⟩) st.length ca')).setCell ⟨w.heap.size, 2, none⟩ (.slice B' tr.length cb')).heap[j]? = w1.heap[j]? := fun j hj => (Below.heap_setCell _ ⟨w.heap.size, 2, none⟩ _ j hj).trans ((Below.heap_setCell _ ⟨w.heap.size, 1, none⟩ _ j hj).trans (Below.heap_setCell _ ⟨w.heap.size, 0, none⟩ _ j hj))
 have hstb : ∀ k, w0.heap.size ≤ k → _ := fun k hk => hst3 k (HNe.out k hk)
 have hQ2 := HQq.out.steps hstb hgS
 refine bodyPost_ret (results_cell_row rfl _ _ w.heap.size 47 #[.int .i64 v, .slice (some ⟨gS, 0, none⟩) st.length ca', .slice B' tr.length cb'] (0, 0) _ rfl (blk_set (blk_set (blk_set HKk.out 0 (.int .i64 v)) 1 (.slice (some ⟨gS, 0, none⟩) st.length ca')) 2 (.slice B' tr.length cb')) Tryz.underlying47 rfl (by kernel_rfl)) rfl ?_
 refine ⟨gS, ca', B', cb', rfl, ⟨hQ2.reads rfl (by omega), HMm.out.sc, ?_, HMm.out.tc⟩, ((HB1.out.setCell (p := ⟨w.heap.size, 0, none⟩) (Nat.le_refl _) _).setCell (p := ⟨w.heap.size, 1, none⟩) (Nat.le_refl _) _).setCell (p := ⟨w.heap.size, 2, none⟩) (Nat.le_refl _) _, hwS, (shp_of hst hQ2).low HB0.out.size, ?_⟩
 ·by_cases h : 0 < tr.length
  ·obtain ⟨gT, csT, okT, e1, hgT, hQt⟩ := HTq.out h
   subst e1
   exact (hQt.steps hstb hgT).reads rfl (by omega)
  ·exact ⟨rfl, by omega, fun h' => absurd h' h⟩
 ·by_cases h : 0 < tr.length
  ·obtain ⟨gT, csT, okT, e1, hgT, hQt⟩ := HTq.out h
   exact ⟨gT, Nat.le_trans HB0.out.size hgT, fun _ => ⟨e1, typ_of h (hQt.steps hstb hgT)⟩⟩
  ·exact ⟨w.heap.size, Nat.le_refl _, fun h' => absurd h' h⟩
end Go.Proofs.YtemoonhnncopoaaGreatDoor
end
