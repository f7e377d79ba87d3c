/- The walk of the law 'LexTokens'. -/
import Derived.Test.YtldcplgfkcionaaDoorLexUp
import Derived.Test.YtldcplgfkcionaaDoorRefLex
import Derived.Test.YtldcplgfkcionaaDoorPAllRef2
set_option linter.unusedVariables false
set_option linter.unusedSimpArgs false
namespace Go.Proofs.YtldcplgfkcionaaDoor
open Go.RowKit PX Go.Proofs.YtldcplgfkcionaaDoorW.PrintWords
theorem same_l0 (l : List T) (hl : l.length ≤ 1000000) (d : Nat) : ∀ a : Nat, a ≤ l.length → l.length - a = d → Ev (fun k => PAll.spinetref02_Same.l0 k l l a) true := by
  induction d with
  | zero =>
    intro a ha hd
    obtain rfl : a = l.length := by omega
    refine Ev.step (fun k => rfl) ?_
    simp only [PAll.spinetref02_Same.l0]
    exact ev_neg (by omega) (Ev.now _)
  | succ d ih =>
    intro a ha hd
    refine Ev.step (fun k => rfl) ?_
    simp only [PAll.spinetref02_Same.l0]
    refine ev_pos (by omega) (ev_pos (by omega) (ev_pos (by omega) (ev_neg (by simp) ?_)))
    rw [w64 (by omega) (by omega)]
    exact ih (a + 1) (by omega) (by omega)
theorem same_f (l : List T) (hl : l.length ≤ 1000000) : ∃ k, PAll.spinetref02_Same.f k l l = some true := by
  have h := same_l0 l hl l.length 0 (by omega) (by omega)
  have : Ev (fun k => PAll.spinetref02_Same.f k l l) true := by
    unfold PAll.spinetref02_Same.f
    exact ev_pos rfl h
  exact Ev.rounds this
theorem same_any (A B : Option Addr) (c d : Nat) (l : List T) (hl : l.length ≤ 1000000) (w : World) (h1 : ToksC w A l.length l) (hc : l.length ≤ c) (h2 : ToksC w B l.length l) (hd : l.length ≤ d) :
    Calls Tryd.prog 17 #[.slice A l.length c, .slice B l.length d] w fun e w' => e = .returned (.bool true) ∧ Below w.heap.size w w' := by
  obtain ⟨k, h⟩ := same_f l hl
  refine (PAll.spinetref02_Same.calls k A c l B d l true w h1 hc h2 hd h).mono ?_
  rintro e w' ⟨rfl, hw⟩
  exact ⟨rfl, hw.below⟩
set_option maxHeartbeats 8000000 in
set_option maxRecDepth 100000 in
theorem LexTokens_walk (w : World) (hw : LaidE w) (s : ByteArray) (hs : s.size ≤ 140737488355328) :
    Calls Tryd.prog 3 #[.string s] w fun e w' => e = .returned (.bool true) ∧ Below w.heap.size w w' := by
  have hsz : s.data.toList.length = s.size := by simp
  by_cases h3 : 3000 < s.size
  · clear hsz
    go_enter Tryd.func3, Tryd.ntmps3
    go_wp2_with fail
    refine (up02 _ hw).mono ?_
    rintro e w1 ⟨rfl, hb1⟩
    go_wp2_with fail
    go_ret
    exact ⟨rfl, hb1⟩
  by_cases h2 : 200 < s.size
  · have hx : lexed s.data.toList = ([], .code 3) := by rw [lexed, if_pos (by omega)]
    have HX := Lib.hid hx
    clear hx hsz
    have k6 := eqErr
    go_enter Tryd.func3, Tryd.ntmps3
    go_wp2_with fail
    refine (up02 _ hw).mono ?_
    rintro e w1 ⟨rfl, hb1⟩
    go_wp2_with fail
    refine (tokens_any s (by omega) _ (hw.below hb1).toLaid).mono ?_
    rw [HX.out]
    rintro e w2 ⟨v2, ev2, rfl, h2, rfl, hb2⟩
    obtain ⟨A2, c2, rfl, _, _⟩ := Kd.R_reads h2
    clear h2
    go_wp2_with fail
    go_ret
    exact ⟨rfl, below_then hb1 hb1.size hb2⟩
  have hx : lexed s.data.toList = match (lexAt s.data.toList 0).2 with
      | none => ((lexAt s.data.toList 0).1, .none)
      | some a => ([], .spot a 2) := by rw [lexed, if_neg (by omega)]; rfl
  obtain ⟨k, hk⟩ := refTokens_f s (by omega)
  have hlx := lexAt_len s.data.toList 0
  rw [hsz] at hlx
  cases hr : lexAt s.data.toList 0 with
  | mk ts o =>
    rw [hr] at hx hk hlx
    clear hr hsz
    cases o with
    | some a =>
      have HX := Lib.hid (show lexed s.data.toList = ([], .spot a 2) from hx)
      have HK := Lib.hid (show PAll.spinetref02_Tokens.f k s = some ([], (a : Int)) from hk)
      clear hx hk
      go_enter Tryd.func3, Tryd.ntmps3
      go_wp2_with fail
      refine (up02 _ hw).mono ?_
      rintro e w1 ⟨rfl, hb1⟩
      go_wp2_with fail
      refine (tokens_any s (by omega) _ (hw.below hb1).toLaid).mono ?_
      rw [HX.out]
      rintro e w2 ⟨v2, ev2, rfl, h2, ⟨g2, rfl, hg2, hs2⟩, hb2⟩
      have hb12 := below_then hb1 hb1.size hb2
      have HS2 := Lib.hid hs2
      obtain ⟨A2, c2, rfl, _, _⟩ := Kd.R_reads h2
      clear h2 hs2
      go_wp2_with fail
      refine (PAll.spinetref02_Tokens.calls k s _ _ _ HK.out).mono ?_
      rintro e w3 ⟨v3, rfl, h3r, hb3⟩
      have hb13 := below_then hb12 hb12.size hb3
      have HS3 := Lib.hid ((hb3.block g2 (lt_of_block HS2.out)).trans HS2.out)
      clear h3r
      go_wp2_with fail
      refine (lawIs_hit g2 a 2 _ HS3.out (hw.below hb13).typ).mono ?_
      rintro e w4 ⟨rfl, hb4⟩
      go_wp2_with fail
      go_ret
      exact ⟨rfl, below_then hb13 hb13.size hb4⟩
    | none =>
      have HX := Lib.hid (show lexed s.data.toList = (ts, .none) from hx)
      have HK := Lib.hid (show PAll.spinetref02_Tokens.f k s = some (ts, -1) from hk)
      clear hx hk
      go_enter Tryd.func3, Tryd.ntmps3
      go_wp2_with fail
      refine (up02 _ hw).mono ?_
      rintro e w1 ⟨rfl, hb1⟩
      go_wp2_with fail
      refine (tokens_any s (by omega) _ (hw.below hb1).toLaid).mono ?_
      rw [HX.out]
      rintro e w2 ⟨v2, ev2, rfl, h2, rfl, hb2⟩
      have hb12 := below_then hb1 hb1.size hb2
      obtain ⟨A2, c2, rfl, hc2, hC2⟩ := Kd.R_reads h2
      have HC2 := Lib.hid hC2
      clear h2 hC2
      go_wp2_with fail
      refine (PAll.spinetref02_Tokens.calls k s _ _ _ HK.out).mono ?_
      rintro e w3 ⟨v3, rfl, h3r, hb3⟩
      have hb13 := below_then hb12 hb12.size hb3
      obtain ⟨A3, c3, rfl, hc3, hC3⟩ := Kd.R_reads h3r
      have HC3 := Lib.hid hC3
      clear h3r hC3
      go_wp2_with fail
      refine (same_any A2 A3 c2 c3 ts (by have h : ts.length ≤ s.size := hlx; omega) _ (Kd.C_below HC2.out hb3) hc2 HC3.out hc3).mono ?_
      rintro e w4 ⟨rfl, hb4⟩
      go_wp2_with fail
      go_ret
      exact ⟨rfl, below_then hb13 hb13.size hb4⟩
end Go.Proofs.YtldcplgfkcionaaDoor
