/- What the lexer's function for a token's text does. -/
import Derived.Test.YtldcplgfkcionaaDoorLexTokens
set_option linter.unusedVariables false
set_option linter.unusedSimpArgs false
namespace Go.Proofs.YtldcplgfkcionaaDoor
open Go.RowKit PX Go.Proofs.YtldcplgfkcionaaDoorW.PrintWords
/-- All signs and words. -/
def allL : List PAll.S120 := signL ++ wordL
/-- The text of a kind that has neither number nor letter. -/
def kText (k : Int) : List UInt8 := ((allL.find? fun x => x.f1 == k).map fun x => x.f0.data.toList).getD []
/-- A token's text; empty: it may not be. -/
def oneOf (t : T) : List UInt8 :=
  if t.f0 = 1 ∧ 0 ≤ t.f1 then Lib.itoa t.f1
  else if t.f0 = 2 ∧ 0 ≤ t.f1 ∧ t.f1 < 26 then [UInt8.ofNat (97 + t.f1.toNat)]
  else if t.f1 ≠ 0 then [] else kText t.f0
theorem kind_hit (q : Nat) (hq : q < 16) (k : Int) (h : ∀ j : Nat, j < q → ((PAll.rd_T120 allL j).f1 == k) = false) (hk : ((PAll.rd_T120 allL q).f1 == k) = true) :
    kText k = (PAll.rd_T120 allL q).f0.data.toList := by
  have hk' : (PAll.rd_T120 allL q).f1 = k := beq_iff_eq.1 hk
  subst hk'
  obtain rfl | rfl | rfl | rfl | rfl | rfl | rfl | rfl | rfl | rfl | rfl | rfl | rfl | rfl | rfl | rfl : q = 0 ∨ q = 1 ∨ q = 2 ∨ q = 3 ∨ q = 4 ∨ q = 5 ∨ q = 6 ∨ q = 7 ∨ q = 8 ∨ q = 9 ∨ q = 10 ∨ q = 11 ∨ q = 12 ∨ q = 13 ∨ q = 14 ∨ q = 15 := by omega
  all_goals rfl
theorem kind_miss (k : Int) (h : ∀ j : Nat, j < 16 → ((PAll.rd_T120 allL j).f1 == k) = false) : kText k = [] := by
  have hn : allL.find? (fun x => x.f1 == k) = none := by
    rw [List.find?_eq_none]
    intro x hx e
    obtain ⟨j, hj, rfl⟩ := List.mem_iff_getElem.1 hx
    have := h j hj
    rw [show (PAll.rd_T120 allL j) = allL[j] by simp [PAll.rd_T120, List.getD_eq_getElem?_getD, List.getElem?_eq_getElem hj]] at this
    rw [this] at e; cases e
  unfold kText
  rw [hn]; rfl
theorem grow_below {w w' : World} (h : ∃ k os, w' = Go.Sort.grow (w.drewN k) os) : Below w.heap.size w w' := by
  obtain ⟨k, os, rfl⟩ := h
  refine ⟨rfl, rfl, rfl, ?_, fun i hi => ?_⟩
  · show w.heap.size ≤ (w.heap ++ os).size
    simp
  · show (w.heap ++ os)[i]? = w.heap[i]?
    rw [Array.getElem?_append_left hi]
theorem format_any (n : Int) (h0 : -9223372036854775808 ≤ n) (h1 : n ≤ 9223372036854775807) (w : World) (hw : Laid w) :
    Calls Tryd.prog 54 #[.int .i64 n, .int .i64 10] w fun e w' => e = .returned (.string ⟨(Lib.itoa n).toArray⟩) ∧ Below w.heap.size w w' := by
  refine (Tryd.strconv_FormatInt_10 n h0 h1 w hw.pow).mono ?_
  rintro e w' ⟨rfl, h⟩
  exact ⟨rfl, grow_below h⟩
/-- string([]byte{x}). -/
theorem byte_str (W : World) (x : Int) (N : Nat) (hN : N = W.heap.size) : (convert 87 9 (.slice (some ⟨N, 0, none⟩) 1 1)).run Tryd.prog (W.alloc (.cells #[.int .u8 x] 5)) = .ok (.string (strOfNums [x])) (W.alloc (.cells #[.int .u8 x] 5)) := by
  subst hN
  exact run_convert_bytes_arg (W.alloc (.cells #[.int .u8 x] 5)) 87 5 Tryd.underlying87 Tryd.underlying5 W.heap.size 0 1 1 [x] rfl (fun i hi => by
    obtain rfl : i = 0 := by omega
    simp) 9 Tryd.underlying9
theorem laid3' (w : World) (x y z : Value) (t : TypeId) :
    (w.alloc (.cells #[x, y, z] t)).cell? ⟨w.heap.size, 0, none⟩ = some x ∧ (w.alloc (.cells #[x, y, z] t)).cell? ⟨w.heap.size, 1, none⟩ = some y := ⟨blk_cell (blk_new _ _) 0, blk_cell (blk_new _ _) 1⟩
set_option maxHeartbeats 4000000 in
set_option maxRecDepth 100000 in
theorem one_any (k n c : Int) (h0 : -9223372036854775808 ≤ n) (h1 : n ≤ 9223372036854775807) (w : World) (hw : Laid w) :
    Calls Tryd.prog 46 #[.agg #[.int .i64 k, .int .i64 n, .int .i64 c]] w fun e w' => e = .returned (.string ⟨(oneOf ⟨k, n, c⟩).toArray⟩) ∧ Below w.heap.size w w' := by
  by_cases hA : k = 1 ∧ 0 ≤ n
  · have hx : oneOf ⟨k, n, c⟩ = Lib.itoa n := by rw [oneOf, if_pos hA]
    have HX := Lib.hid hx
    clear hx
    obtain ⟨rfl, hn⟩ := hA
    go_enter Tryd.func46, Tryd.ntmps46
    go_wp2_with fail
    refine (format_any n h0 h1 _ (hw.below ((Below.refl _ _).alloc (Nat.le_refl _) _))).mono ?_
    rintro e w2 ⟨rfl, hb⟩
    go_wp2_with fail
    go_ret
    exact ⟨by rw [HX.out]; rfl, (laid3 hb).2.2.2.2.2.2.2⟩
  · by_cases hB : k = 2 ∧ 0 ≤ n ∧ n < 26
    · have hx : oneOf ⟨k, n, c⟩ = [UInt8.ofNat (97 + n.toNat)] := by rw [oneOf, if_neg hA, if_pos hB]
      have HX := Lib.hid hx
      clear hx
      obtain ⟨rfl, hn, hn2⟩ := hB
      clear hA
      have kc := byte_str (w.alloc (.cells #[.int .i64 2, .int .i64 n, .int .i64 c] 40)) (97 + n) (w.heap.size + 1) (by simp)
      go_enter Tryd.func46, Tryd.ntmps46
      go_wp2_with fail
      go_ret
      refine ⟨?_, (((Below.refl _ _).alloc (Nat.le_refl _) _).alloc (by simp) _)⟩
      rw [HX.out]
      have e : (97 + n).toNat = 97 + n.toNat := by omega
      show Ending.returned (.string (strOfNums [97 + n])) = _
      simp only [strOfNums, List.map_cons, List.map_nil, e]
    · have hx : oneOf ⟨k, n, c⟩ = if n ≠ 0 then [] else kText k := by rw [oneOf, if_neg hA, if_neg hB]
      have hk1 : (((k : Int) == 1) && decide ((0 : Int) ≤ n)) = false := by
        rw [Bool.eq_false_iff]; intro h; simp at h; exact hA h
      by_cases hn : n = 0
      · subst hn
        rw [if_neg (by simp)] at hx
        have HX := Lib.hid hx
        have h11 : (k == 1) = false := beq_eq_false_iff_ne.mpr (fun e => hA ⟨e, by omega⟩)
        have h12 : (k == 2) = false := beq_eq_false_iff_ne.mpr (fun e => hB ⟨e, by omega, by omega⟩)
        clear hx hk1 hA hB h0 h1
        go_enter Tryd.func46, Tryd.ntmps46
        go_wp2_with fail
        refine (PAll.lex_signs.calls signL _ signs_f).mono ?_
        rintro e w2 ⟨v2, rfl, hR, hb2⟩
        obtain ⟨c0, c1, c2, f0, f1, f2, hz2, hb⟩ := laid3 hb2
        have HR := Lib.hid hR
        clear hR hb2
        go_wp2_with fail
        refine (words_any _).mono ?_
        rintro e w3 ⟨ad, cp, rfl, hC, hb3⟩
        have HC := Lib.hid hC
        have HR3 := Lib.hid (Kd.R_below HR.out hb3)
        have d0 := (hb3.cell (p := ⟨w.heap.size, 0, none⟩) hz2).trans c0
        have hz3 : w.heap.size < w3.heap.size := Nat.lt_of_lt_of_le hz2 hb3.size
        have hbw3 := hb.trans (hb3.mono (Nat.le_of_lt hz2))
        clear hC c0 c1 c2 f0 f1 f2
        go_wp2_with (at_builtin; refine Kd.R_append_rows PAll.k120 (w0 := w3) (w.heap.size + 1) rfl (.tmp 46) (.tmp 47) 117 120 (.agg #[.string ⟨#[]⟩, .int .i64 0]) 24 rfl Tryd.underlying117 PAll.info120 rfl (by decide) (by omega) v2 signL wordL (some ad) 5 cp (fun _ => True) (fun _ => False) rfl rfl ?aO HC.out (fun _ _ h => h) (fun _ h => h.elim) (fun _ _ => trivial) (Below.refl _ _) ?aS ?aL ?_)
        case aO => simpa using HR3.out
        case aS => omega
        case aL => decide
        intro v4 w4 hR4 _ hg4 _
        obtain ⟨ad4, c4, rfl, hC4⟩ : ∃ ad4 c4, v4 = .slice (some ad4) 16 c4 ∧ Kd.C PAll.k120 w4 (some ad4) 16 allL := by
          obtain ⟨A4, c4, h1, _, h3⟩ := Kd.R_reads hR4
          obtain ⟨ad4, rfl, _⟩ := PAll.at_T120 h3 0 (by omega) (by decide)
          exact ⟨ad4, c4, h1, h3⟩
        have hb4 : Below (w.heap.size + 1) w3 w4 := (Below.refl _ _).grown hg4 (by omega) (fun j hj => Kd.R_base (by simpa using HR3.out : Kd.R _ _ w3 (w.heap.size + 1) _ v2 signL) j hj)
        have d4 := (hb4.cell (p := ⟨w.heap.size, 0, none⟩) (by simp)).trans d0
        have hbw4 := hbw3.trans (hb4.mono (by omega))
        have HC4 := Lib.hid hC4
        have hz4 : w.heap.size < w4.heap.size := Nat.lt_of_lt_of_le hz3 hb4.size
        clear hR4 hg4 hC4 d0
        go_wp2_with fail
        go_loopw [50] (fun i wr => ∃ q : Nat, q ≤ 16 ∧ i = .int .i64 q ∧ Hid (∀ j : Nat, j < q → ((PAll.rd_T120 allL j).f1 == k) = false) ∧ Below w4.heap.size w4 wr) (fun i _ => 16 - (intOf i).toNat)
        case atStart => exact ⟨0, by omega, rfl, Lib.hid (fun j hj => by omega), Below.refl _ _⟩
        case round =>
          obtain ⟨q, hq, rfl, H, hbr⟩ := hrel
          have e0 := (hbr.cell (p := ⟨w.heap.size, 0, none⟩) hz4).trans d4
          have hzr : w.heap.size < wr.heap.size := Nat.lt_of_lt_of_le hz4 hbr.size
          have hbwr := hbw4.trans (hbr.mono (Nat.le_of_lt hz4))
          by_cases hlt : q < 16
          · have hC := Kd.C_below HC4.out hbr
            obtain ⟨ad', hh, x0, x1⟩ := PAll.at_T120 hC q (by omega) (by omega)
            injection hh with hh
            subst hh
            clear hC
            simp only [Int.toNat_natCast] at x0 x1
            have hit := kind_hit q hlt k H.out
            generalize hwk : PAll.rd_T120 allL q = wk at *
            have HWK := Lib.hid hwk
            have HIT := Lib.hid hit
            clear hwk hit
            cases hx : (wk.f1 == k)
            · go_wp2_with fail
              go_roundw
              case rel =>
                refine ⟨q + 1, by omega, by go_num, Lib.hid (fun j hj => ?_), hbr.alloc hbr.size _⟩
                rcases Nat.lt_or_ge j q with h | h
                · exact H.out j h
                · obtain rfl : j = q := by omega
                  rw [HWK.out]; exact hx
              case measure => simp [intOf]; omega
            · have hf := HIT.out hx
              have HF := Lib.hid hf
              clear hf
              go_wp2_with fail
              go_ret
              refine ⟨by rw [HX.out, HF.out]; rfl, hbwr.alloc (Nat.le_of_lt hzr) _⟩
          · have HM := Lib.hid (kind_miss k (fun j hj => H.out j (by omega)))
            go_wp2_with fail
            go_ret
            exact ⟨by rw [HX.out, HM.out]; rfl, hbwr⟩
      · rw [if_pos hn] at hx
        have HX := Lib.hid hx
        have h3 : (n == 0) = false := beq_eq_false_iff_ne.mpr hn
        have h4 : (n != 0) = true := bne_iff_ne.mpr hn
        clear hx hk1
        by_cases e1 : k = 1
        · subst e1
          have h5 : ¬ 0 ≤ n := fun h => hA ⟨rfl, h⟩
          have h6 : n < 0 := by omega
          clear hA hB h5
          go_enter Tryd.func46, Tryd.ntmps46
          go_wp2_with fail
          go_ret
          exact ⟨by rw [HX.out]; rfl, (Below.refl _ _).alloc (Nat.le_refl _) _⟩
        · have h11 : (k == 1) = false := beq_eq_false_iff_ne.mpr e1
          by_cases e2 : k = 2
          · subst e2
            by_cases h6 : 0 ≤ n
            · have h7 : 26 ≤ n := by
                rcases Int.lt_or_le n 26 with h | h
                · exact absurd ⟨rfl, h6, h⟩ hB
                · exact h
              clear hA hB
              go_enter Tryd.func46, Tryd.ntmps46
              go_wp2_with fail
              go_ret
              exact ⟨by rw [HX.out]; rfl, (Below.refl _ _).alloc (Nat.le_refl _) _⟩
            · have h7 : n < 0 := by omega
              clear hA hB
              go_enter Tryd.func46, Tryd.ntmps46
              go_wp2_with fail
              go_ret
              exact ⟨by rw [HX.out]; rfl, (Below.refl _ _).alloc (Nat.le_refl _) _⟩
          · have h12 : (k == 2) = false := beq_eq_false_iff_ne.mpr e2
            clear hA hB
            go_enter Tryd.func46, Tryd.ntmps46
            go_wp2_with fail
            go_ret
            exact ⟨by rw [HX.out]; rfl, (Below.refl _ _).alloc (Nat.le_refl _) _⟩
end Go.Proofs.YtldcplgfkcionaaDoor
