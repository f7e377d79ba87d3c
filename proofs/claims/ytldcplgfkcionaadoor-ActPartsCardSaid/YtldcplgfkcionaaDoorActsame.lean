/- Lists that are the same: what compares them says so; what counts actions. -/
import Derived.Test.YtldcplgfkcionaaDoorActp
import Derived.Test.YtldcplgfkcionaaDoorPAllAct
import Derived.Test.YtldcplgfkcionaaDoorPAllInts
import Derived.Test.YtldcplgfkcionaaDoorEvl
set_option linter.unusedVariables false
set_option linter.unusedSimpArgs false
namespace Go.Proofs.YtldcplgfkcionaaDoor
open Go.RowKit Go.Proofs.YtldcplgfkcionaaDoorW.PrintWords
theorem nums_l0 (l : List Int) (hl : l.length ≤ 1000000) (d : Nat) : ∀ a : Nat, a ≤ l.length → l.length - a = d → Ev (fun k => PAll.spinetref10_Nums.l0 k l l a) true := by
  induction d with
  | zero =>
    intro a ha hd
    obtain rfl : a = l.length := by omega
    refine Ev.step (fun k => rfl) ?_
    simp only [PAll.spinetref10_Nums.l0]
    exact ev_neg (by omega) (Ev.now _)
  | succ d ih =>
    intro a ha hd
    refine Ev.step (fun k => rfl) ?_
    simp only [PAll.spinetref10_Nums.l0]
    refine ev_pos (by omega) (ev_pos (by omega) (ev_pos (by omega) (ev_pos (by first | rfl | trivial) ?_)))
    rw [w64 (by omega) (by omega)]
    exact ih (a + 1) (by omega) (by omega)
theorem nums_f (l : List Int) (hl : l.length ≤ 1000000) : ∃ k, PAll.spinetref10_Nums.f k l l = some true := by
  have h := nums_l0 l hl l.length 0 (by omega) (by omega)
  have : Ev (fun k => PAll.spinetref10_Nums.f k l l) true := by
    unfold PAll.spinetref10_Nums.f
    exact ev_pos rfl h
  exact Ev.rounds this
theorem nums_any (A B : Option Addr) (c d : Nat) (l : List Int) (hl : l.length ≤ 1000000) (w : World) (h1 : NumsC w A l.length l) (hc : l.length ≤ c) (h2 : NumsC w B l.length l) (hd : l.length ≤ d) :
    Calls Tryd.prog 38 #[.slice A l.length c, .slice B l.length d] w fun e w' => e = .returned (.bool true) ∧ Below w.heap.size w w' := by
  obtain ⟨k, h⟩ := nums_f l hl
  refine (PAll.spinetref10_Nums.calls k A c l B d l true w h1 hc h2 hd h).mono ?_
  rintro e w' ⟨rfl, hw⟩
  exact ⟨rfl, hw.below⟩
theorem outs_l0 (l : List Ou) (hl : l.length ≤ 1000000) (d : Nat) : ∀ a : Nat, a ≤ l.length → l.length - a = d → Ev (fun k => PAll.spinetref10_Outs.l0 k l l a) true := by
  induction d with
  | zero =>
    intro a ha hd
    obtain rfl : a = l.length := by omega
    refine Ev.step (fun k => rfl) ?_
    simp only [PAll.spinetref10_Outs.l0]
    exact ev_neg (by omega) (Ev.now _)
  | succ d ih =>
    intro a ha hd
    refine Ev.step (fun k => rfl) ?_
    simp only [PAll.spinetref10_Outs.l0]
    refine ev_pos (by omega) (ev_pos (by omega) (ev_pos (by omega) (ev_neg (by simp) ?_)))
    rw [w64 (by omega) (by omega)]
    exact ih (a + 1) (by omega) (by omega)
theorem outs_f (l : List Ou) (hl : l.length ≤ 1000000) : ∃ k, PAll.spinetref10_Outs.f k l l = some true := by
  have h := outs_l0 l hl l.length 0 (by omega) (by omega)
  have : Ev (fun k => PAll.spinetref10_Outs.f k l l) true := by
    unfold PAll.spinetref10_Outs.f
    exact ev_pos rfl h
  exact Ev.rounds this
theorem outs_any (A B : Option Addr) (c d : Nat) (l : List Ou) (hl : l.length ≤ 1000000) (w : World) (h1 : Kd.C PAll.k112 w A l.length l) (hc : l.length ≤ c) (h2 : Kd.C PAll.k112 w B l.length l) (hd : l.length ≤ d) :
    Calls Tryd.prog 39 #[.slice A l.length c, .slice B l.length d] w fun e w' => e = .returned (.bool true) ∧ Below w.heap.size w w' := by
  obtain ⟨k, h⟩ := outs_f l hl
  refine (PAll.spinetref10_Outs.calls k A c l B d l true w h1 hc h2 hd h).mono ?_
  rintro e w' ⟨rfl, hw⟩
  exact ⟨rfl, hw.below⟩
theorem ints_l0 (l : List Int) (hl : l.length ≤ 1000000) (d : Nat) : ∀ a : Nat, a ≤ l.length → l.length - a = d → Ev (fun k => PAll.spinetref05_Ints.l0 k l l a) true := by
  induction d with
  | zero =>
    intro a ha hd
    obtain rfl : a = l.length := by omega
    refine Ev.step (fun k => rfl) ?_
    simp only [PAll.spinetref05_Ints.l0]
    exact ev_neg (by omega) (Ev.now _)
  | succ d ih =>
    intro a ha hd
    refine Ev.step (fun k => rfl) ?_
    simp only [PAll.spinetref05_Ints.l0]
    refine ev_pos (by omega) (ev_pos (by omega) (ev_pos (by omega) (ev_pos (by first | rfl | trivial) ?_)))
    rw [w64 (by omega) (by omega)]
    exact ih (a + 1) (by omega) (by omega)
theorem ints_f (l : List Int) (hl : l.length ≤ 1000000) : ∃ k, PAll.spinetref05_Ints.f k l l = some true := by
  have h := ints_l0 l hl l.length 0 (by omega) (by omega)
  have : Ev (fun k => PAll.spinetref05_Ints.f k l l) true := by
    unfold PAll.spinetref05_Ints.f
    exact ev_pos rfl h
  exact Ev.rounds this
theorem ints_any (A B : Option Addr) (c d : Nat) (l : List Int) (hl : l.length ≤ 1000000) (w : World) (h1 : Kd.C (Kd.int .i64) w A l.length l) (hc : l.length ≤ c) (h2 : Kd.C (Kd.int .i64) w B l.length l) (hd : l.length ≤ d) :
    Calls Tryd.prog 40 #[.slice A l.length c, .slice B l.length d] w fun e w' => e = .returned (.bool true) ∧ Below w.heap.size w w' := by
  obtain ⟨k, h⟩ := ints_f l hl
  refine (PAll.spinetref05_Ints.calls k A c l B d l true w h1 hc h2 hd h).mono ?_
  rintro e w' ⟨rfl, hw⟩
  exact ⟨rfl, hw.below⟩
/-- Are the actions few, and short? -/
def fewA (l : List Ac) : Bool := (l.all fun a => decide (a.f3.size ≤ 500)) && decide (l.length ≤ 40)
theorem few_l0 (l : List Ac) (hl : l.length ≤ 9223372036854775807) (d : Nat) : ∀ a : Nat, a ≤ l.length → l.length - a = d → Ev (fun k => PAll.spinetlaw11_few.l0 k l a) (((l.drop a).all fun x => decide (x.f3.size ≤ 500)) && decide (l.length ≤ 40)) := by
  induction d with
  | zero =>
    intro a ha hd
    obtain rfl : a = l.length := by omega
    refine Ev.step (fun k => rfl) ?_
    simp only [PAll.spinetlaw11_few.l0]
    refine ev_neg (by omega) ?_
    have : (((l.drop l.length).all fun x => decide (x.f3.size ≤ 500)) && decide (l.length ≤ 40)) = decide ((l.length : Int) ≤ 40) := by
      rw [List.drop_length]
      simp
      omega
    rw [this]
    exact Ev.now _
  | succ d ih =>
    intro a ha hd
    have hlt : a < l.length := by omega
    refine Ev.step (fun k => rfl) ?_
    simp only [PAll.spinetlaw11_few.l0]
    have hr : PAll.rd_T105 l (a : Int) = l[a] := by simp [PAll.rd_T105, List.getD_eq_getElem?_getD, List.getElem?_eq_getElem hlt]
    rw [hr, List.drop_eq_getElem_cons hlt]
    refine ev_pos (by omega) (ev_pos (by omega) ?_)
    by_cases h5 : 500 < l[a].f3.size
    · have : ((l[a] :: l.drop (a + 1)).all fun x => decide (x.f3.size ≤ 500)) = false := by
        rw [List.all_cons, decide_eq_false (by omega)]
        rfl
      rw [this]
      exact ev_pos (by omega) (Ev.now _)
    · refine ev_neg (by omega) ?_
      rw [w64 (by omega) (by omega)]
      rw [List.all_cons, decide_eq_true (show l[a].f3.size ≤ 500 by omega)]
      exact ih (a + 1) (by omega) (by omega)
theorem few_any (A : Option Addr) (c : Nat) (l : List Ac) (w : World) (h1 : ActsC w A l.length l) (hc : l.length ≤ c) :
    Calls Tryd.prog 36 #[.slice A l.length c] w fun e w' => e = .returned (.bool (fewA l)) ∧ Below w.heap.size w w' := by
  have h := few_l0 l (Kd.C_max h1) l.length 0 (by omega) (by omega)
  rw [List.drop_zero] at h
  obtain ⟨k, h⟩ := Ev.rounds h
  refine (PAll.spinetlaw11_few.calls k A c l _ w h1 hc h).mono ?_
  rintro e w' ⟨rfl, hw⟩
  exact ⟨rfl, hw.below⟩
end Go.Proofs.YtldcplgfkcionaaDoor
