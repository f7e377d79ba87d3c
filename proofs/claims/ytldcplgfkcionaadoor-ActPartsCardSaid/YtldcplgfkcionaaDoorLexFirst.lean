/- What the lexer's function for the first token does. -/
import Derived.Test.YtldcplgfkcionaaDoorLex
import Derived.Test.YtldcplgfkcionaaDoorLexNum
import Derived.Test.YtldcplgfkcionaaDoorShelf
import Derived.Test.YtldcplgfkcionaaDoorBox2
import Derived.Lib.AtoiErrMem
set_option linter.unusedVariables false
set_option linter.unusedSimpArgs false
namespace Go.Proofs.YtldcplgfkcionaaDoor
open Go.RowKit PX Go.Proofs.YtldcplgfkcionaaDoorW.PrintWords
/-- What the package-level variables hold that the library reads. -/
structure Laid (w : World) : Prop where
  range : ∃ tp p, w.var? Tryd.prog "strconv.ErrRange" = some #[.iface tp p]
  pow : Lib.TabIs Tryd.prog w "internal/strconv.uint64pow10" .u64 Lib.pow10Tab
theorem var_below {P : Program} {w w' : World} (hb : Below w.heap.size w w') {n : String} {cs : Array Value} (h : w.var? P n = some cs) : w'.var? P n = some cs := by
  unfold World.var? at *
  obtain ⟨g, hg, h⟩ := Option.bind_eq_some_iff.1 h
  rw [hg]
  simp only [Option.bind_some]
  have hlt : g < w.heap.size := by
    rcases Nat.lt_or_ge g w.heap.size with hl | hl
    · exact hl
    · rw [Array.getElem?_eq_none hl] at h; cases h
  rw [hb.block g hlt]
  exact h
theorem Laid.below {w w' : World} (h : Laid w) (hb : Below w.heap.size w w') : Laid w' := by
  obtain ⟨tp, p, hv⟩ := h.range
  exact ⟨⟨tp, p, var_below hb hv⟩, var_below hb h.pow⟩
theorem parse_ok (s : ByteArray) (hs : s.size ≤ 9223372036854775806) (v : Int) (h : Lib.parseIntB 64 s.data.toList = .ok v) (w : World) :
    Calls Tryd.prog 64 #[.string s, .int .i64 10, .int .i64 64] w fun e w' => e = .returned (.tuple #[.int .i64 v, .nilIface]) ∧ Below w.heap.size w w' := by
  refine (Tryd.strconv_ParseInt_10_at64_ok s hs v h w).mono ?_
  rintro e w' ⟨rfl, rfl | ⟨t, rfl⟩⟩
  · exact ⟨rfl, Below.refl _ _⟩
  · exact ⟨rfl, Lib.bytesWorld_below _ _ _⟩
theorem parse_range (s : ByteArray) (hs : s.size ≤ 281474976710656) (h : Lib.parseIntB 64 s.data.toList = .range) (w : World) (hw : Laid w) :
    Calls Tryd.prog 64 #[.string s, .int .i64 10, .int .i64 64] w fun e w' => ∃ v tp p, e = .returned (.tuple #[.int .i64 v, .iface tp p]) ∧ Below w.heap.size w w' := by
  obtain ⟨tp, p, hv⟩ := hw.range
  refine (Tryd.strconv_ParseInt_10_at64_range_var s hs h tp p w hv).mono ?_
  rintro e w' ⟨N, rfl, _, _, hb⟩
  exact ⟨_, _, _, rfl, hb⟩
theorem head_of {α : Type} (p : α → Bool) (l : List α) (d : α) (h : 0 < (l.takeWhile p).length) : p (l.headD d) = true := by
  cases l with
  | nil => simp at h
  | cons a l =>
    rw [List.takeWhile_cons] at h
    split at h
    · assumption
    · simp at h
theorem headD_at (s : ByteArray) (h : 0 < s.size) : s.data.toList.headD 0 = s[0] := by
  obtain ⟨⟨l⟩⟩ := s
  cases l with
  | nil => simp [ByteArray.size] at h
  | cons a l => rfl
theorem words_any (w : World) : Calls Tryd.prog 66 #[] w fun e w' => ∃ ad cp, e = .returned (.slice (some ad) 5 cp) ∧ Kd.C PAll.k120 w' (some ad) 5 wordL ∧ Below w.heap.size w w' := by
  refine (PAll.lex_words.calls wordL w words_f).mono ?_
  rintro e w2 ⟨v2, rfl, hR, hb2⟩
  obtain ⟨A, cp, rfl, hcl, hC⟩ := Kd.R_reads hR
  obtain ⟨ad, rfl, _⟩ := PAll.at_T120 hC 0 (by omega) (by decide)
  exact ⟨ad, cp, rfl, hC, hb2⟩
theorem signs_any (w : World) : Calls Tryd.prog 67 #[] w fun e w' => ∃ ad cp, e = .returned (.slice (some ad) 11 cp) ∧ Kd.C PAll.k120 w' (some ad) 11 signL ∧ Below w.heap.size w w' := by
  refine (PAll.lex_signs.calls signL w signs_f).mono ?_
  rintro e w2 ⟨v2, rfl, hR, hb2⟩
  obtain ⟨A, cp, rfl, hcl, hC⟩ := Kd.R_reads hR
  obtain ⟨ad, rfl, _⟩ := PAll.at_T120 hC 0 (by omega) (by decide)
  exact ⟨ad, cp, rfl, hC, hb2⟩
/-- What 'first' tells. -/
def firstV : Option (Int × Int × Nat) → Value
  | none => .tuple #[.agg #[.int .i64 0, .int .i64 0, .int .i64 0], .int .i64 0]
  | some (k, n, m) => .tuple #[.agg #[.int .i64 k, .int .i64 n, .int .i64 0], .int .i64 (m : Nat)]
theorem extract_take (s : ByteArray) (n : Nat) : (s.extract 0 n).data.toList = s.data.toList.take n := by simp
set_option maxHeartbeats 4000000 in
set_option maxRecDepth 100000 in
theorem first_any (s : ByteArray) (hs : s.size ≤ 281474976710656) (w : World) (hw : Laid w) :
    Calls Tryd.prog 41 #[.string s] w fun e w' => e = .returned (firstV (first s.data.toList)) ∧ Below w.heap.size w w' := by
  have hl1 := takeWhile_le isDigit s.data.toList
  have hl2 := takeWhile_le isLetter s.data.toList
  have hsz : s.data.toList.length = s.size := by simp
  rw [hsz] at hl1 hl2
  have HSZ := Lib.hid hsz
  clear hsz
  by_cases hd : 0 < (s.data.toList.takeWhile isDigit).length
  · have hp : Lib.parseIntB 64 (s.extract 0 (s.data.toList.takeWhile isDigit).length).data.toList = if numOf (s.data.toList.takeWhile isDigit) ≤ 9223372036854775807 then .ok (numOf (s.data.toList.takeWhile isDigit) : Int) else .range := by
      rw [extract_take, take_takeWhile]
      exact parseInt_digits (s.data.toList.takeWhile isDigit) (by intro e; rw [e] at hd; simp at hd) (takeWhile_mem _ _)
    have hf : first s.data.toList = if numOf (s.data.toList.takeWhile isDigit) ≤ 9223372036854775807 then some (1, (numOf (s.data.toList.takeWhile isDigit) : Int), (s.data.toList.takeWhile isDigit).length) else none := by
      rw [first, if_pos hd]
    by_cases hn : numOf (s.data.toList.takeWhile isDigit) ≤ 9223372036854775807
    · rw [if_pos hn] at hp hf
      have HP := Lib.hid hp
      have HF := Lib.hid hf
      clear hp hf
      generalize hm : (s.data.toList.takeWhile isDigit).length = m at *
      have HM := Lib.hid hm
      clear hm
      go_enter Tryd.func41, Tryd.ntmps41
      go_wp2_with fail
      refine (run_digit s (by omega) _).mono ?_
      rw [HM.out]
      rintro e w1 ⟨rfl, rfl⟩
      go_wp2_with fail
      refine (parse_ok _ (by rw [ByteArray.size_extract]; omega) _ HP.out _).mono ?_
      rintro e w2 ⟨rfl, hb2⟩
      obtain ⟨c0, c1, c2, f0, f1, f2, hz2, hb⟩ := laid3 hb2
      go_wp2_with fail
      refine bodyPost_ret (v := .tuple #[.agg #[.int .i64 1, .int .i64 (numOf (s.data.toList.takeWhile isDigit) : Nat), .int .i64 0], .int .i64 (m : Nat)]) (by simp [results, Tryd.results41, go_sem, c0, c1, c2]) rfl ⟨by rw [HF.out]; rfl, below_set3 hb (Nat.le_refl _) _ _ _⟩
    · rw [if_neg hn] at hp hf
      have HP := Lib.hid hp
      have HF := Lib.hid hf
      clear hp hf
      generalize hm : (s.data.toList.takeWhile isDigit).length = m at *
      have HM := Lib.hid hm
      clear hm
      go_enter Tryd.func41, Tryd.ntmps41
      go_wp2_with fail
      refine (run_digit s (by omega) _).mono ?_
      rw [HM.out]
      rintro e w1 ⟨rfl, rfl⟩
      go_wp2_with fail
      refine (parse_range _ (by rw [ByteArray.size_extract]; omega) HP.out _ (hw.below ((Below.refl _ _).alloc (Nat.le_refl _) _))).mono ?_
      rintro e w2 ⟨v2, tp, p, rfl, hb2⟩
      obtain ⟨c0, c1, c2, f0, f1, f2, hz2, hb⟩ := laid3 hb2
      go_wp2_with fail
      refine bodyPost_ret (v := .tuple #[.agg #[.int .i64 0, .int .i64 0, .int .i64 0], .int .i64 0]) (by simp [results, Tryd.results41, go_sem, c0, c1, c2]) rfl ⟨by rw [HF.out]; rfl, below_set3 hb (Nat.le_refl _) _ _ _⟩
  · have hd0 : (s.data.toList.takeWhile isDigit).length = 0 := by omega
    have HD0 := Lib.hid hd0
    have hf0 : first s.data.toList = if 0 < (s.data.toList.takeWhile isLetter).length then
        if (s.data.toList.takeWhile isLetter).length = 1 then some (2, ((s.data.toList.headD 0).toNat : Int) - 97, 1)
        else if wordOf (s.data.toList.takeWhile isLetter) = 0 then none else some (wordOf (s.data.toList.takeWhile isLetter), 0, (s.data.toList.takeWhile isLetter).length)
      else if (signOf s.data.toList).2 = 0 then none else some ((signOf s.data.toList).1, 0, (signOf s.data.toList).2) := by
      rw [first, if_neg hd]
    clear hd hd0 hl1
    generalize hm : (s.data.toList.takeWhile isLetter).length = m at *
    have HM := Lib.hid hm
    clear hm
    by_cases hl : 0 < m
    · rw [if_pos hl] at hf0
      by_cases h1 : m = 1
      · rw [if_pos h1] at hf0
        have HF := Lib.hid hf0
        subst h1
        clear hf0
        have h0s : 0 < s.size := by omega
        go_enter Tryd.func41, Tryd.ntmps41
        go_wp2_with fail
        refine (run_digit s (by omega) _).mono ?_
        rw [HD0.out]
        rintro e w1 ⟨rfl, rfl⟩
        go_wp2_with fail
        refine (run_letter s (by omega) _).mono ?_
        rw [HM.out]
        rintro e w1 ⟨rfl, rfl⟩
        go_wp2_with fail
        have hle := head_of isLetter s.data.toList 0 (by rw [HM.out]; omega)
        rw [headD_at s h0s] at hle
        simp only [isLetter, Bool.and_eq_true, decide_eq_true_eq] at hle
        refine bodyPost_ret (v := .tuple #[.agg #[.int .i64 2, .int .i64 (((s[0].toNat : Int) - 97) % 256), .int .i64 0], .int .i64 1]) (by simp [results, Tryd.results41, go_sem]) rfl ⟨?_, (Below.refl _ _).alloc (Nat.le_refl _) _⟩
        rw [HF.out, headD_at s h0s]
        exact congrArg (fun x => Ending.returned (.tuple #[.agg #[.int .i64 2, .int .i64 x, .int .i64 0], .int .i64 1])) (by omega)
      · rw [if_neg h1] at hf0
        have h2 : ((m : Int) == 1) = false := beq_eq_false_iff_ne.mpr (by omega)
        have HF := Lib.hid hf0
        clear hf0
        go_enter Tryd.func41, Tryd.ntmps41
        go_wp2_with fail
        refine (run_digit s (by omega) _).mono ?_
        rw [HD0.out]
        rintro e w1 ⟨rfl, rfl⟩
        go_wp2_with fail
        refine (run_letter s (by omega) _).mono ?_
        rw [HM.out]
        rintro e w1 ⟨rfl, rfl⟩
        go_wp2_with fail
        refine (words_any _).mono ?_
        rintro e w2 ⟨ad, cp, rfl, hC, hb2⟩
        obtain ⟨c0, c1, c2, f0, f1, f2, hz2, hb⟩ := laid3 hb2
        have HC := Lib.hid hC
        clear hC hb2
        go_wp2_with fail
        go_loopw [43] (fun i wr => ∃ k : Nat, k ≤ 5 ∧ i = .int .i64 k ∧ Hid (∀ j : Nat, j < k → (PAll.rd_T120 wordL j).f0 ≠ s.extract 0 m) ∧ Below w2.heap.size w2 wr) (fun i _ => 5 - (intOf i).toNat)
        case atStart => exact ⟨0, by omega, rfl, Lib.hid (fun j hj => by omega), Below.refl _ _⟩
        case round =>
          obtain ⟨k, hk, rfl, H, hbr⟩ := hrel
          have d0 := (hbr.cell (p := ⟨w.heap.size, 0, none⟩) hz2).trans c0
          have d1 := (hbr.cell (p := ⟨w.heap.size, 1, none⟩) hz2).trans c1
          have d2 := (hbr.cell (p := ⟨w.heap.size, 2, none⟩) hz2).trans c2
          have e0 := (hbr.frozen (p := ⟨w.heap.size, 0, none⟩) hz2).trans f0
          have e1 := (hbr.frozen (p := ⟨w.heap.size, 1, none⟩) hz2).trans f1
          have e2 := (hbr.frozen (p := ⟨w.heap.size, 2, none⟩) hz2).trans f2
          have hzr : w.heap.size < wr.heap.size := Nat.lt_of_lt_of_le hz2 hbr.size
          by_cases hlt : k < 5
          · have hC := Kd.C_below HC.out hbr
            obtain ⟨ad', hh, x0, x1⟩ := PAll.at_T120 hC k (by omega) (by omega)
            injection hh with hh
            subst hh
            clear hC
            simp only [Int.toNat_natCast] at x0 x1
            generalize hwk : PAll.rd_T120 wordL k = wk at *
            have HWK := Lib.hid hwk
            clear hwk
            cases hx : (wk.f0.toList == (s.extract 0 m).toList)
            · go_wp2_with fail
              go_quiet (fail)
              go_wp2_with fail
              go_roundw
              case rel =>
                refine ⟨k + 1, by omega, by go_num, Lib.hid (fun j hj => ?_), pw_below_drewN (hbr.alloc hbr.size _) _⟩
                rcases Nat.lt_or_ge j k with h | h
                · exact H.out j h
                · obtain rfl : j = k := by omega
                  intro e
                  rw [HWK.out] at e
                  rw [e] at hx
                  simp at hx
              case measure => simp [intOf]; omega
            · have hw0 := word_hit k hlt ((s.data.toList.takeWhile isLetter)) (by
                rw [HWK.out, ← ByteArray.toList_eq, beq_iff_eq.1 hx, ByteArray.toList_eq, extract_take, ← HM.out, take_takeWhile])
              rw [HWK.out] at hw0
              have HW0 := Lib.hid hw0
              clear hw0
              go_wp2_with fail
              go_quiet (fail)
              go_wp2_with fail
              refine bodyPost_ret (v := .tuple #[.agg #[.int .i64 wk.f1, .int .i64 0, .int .i64 0], .int .i64 (m : Nat)]) (by simp [results, Tryd.results41, go_sem, d0, d1, d2, hzr]) rfl ⟨?_, below_set3 (pw_below_drewN ((hb.trans (hbr.mono (Nat.le_of_lt hz2))).alloc (Nat.le_of_lt hzr) _) _) (Nat.le_refl _) _ _ _⟩
              rw [HF.out, if_neg HW0.out.2, HW0.out.1]
              rfl
          · go_wp2_with fail
            refine bodyPost_ret (v := .tuple #[.agg #[.int .i64 0, .int .i64 0, .int .i64 0], .int .i64 0]) (by simp [results, Tryd.results41, go_sem, d0, d1, d2]) rfl ⟨?_, below_set3 (hb.trans (hbr.mono (Nat.le_of_lt hz2))) (Nat.le_refl _) _ _ _⟩
            rw [HF.out, if_pos (word_miss _ (fun j hj e => H.out j (by omega) (Go.WideShapes.bytes_inj (by rw [e, extract_take, ← HM.out, take_takeWhile]))))]
            rfl
    · rw [if_neg hl] at hf0
      obtain rfl : m = 0 := by omega
      have HF := Lib.hid hf0
      clear hf0
      go_enter Tryd.func41, Tryd.ntmps41
      go_wp2_with fail
      refine (run_digit s (by omega) _).mono ?_
      rw [HD0.out]
      rintro e w1 ⟨rfl, rfl⟩
      go_wp2_with fail
      refine (run_letter s (by omega) _).mono ?_
      rw [HM.out]
      rintro e w1 ⟨rfl, rfl⟩
      go_wp2_with fail
      refine (signs_any _).mono ?_
      rintro e w2 ⟨ad, cp, rfl, hC, hb2⟩
      obtain ⟨c0, c1, c2, f0, f1, f2, hz2, hb⟩ := laid3 hb2
      have HC := Lib.hid hC
      clear hC hb2
      go_wp2_with fail
      go_loopw [61] (fun i wr => ∃ k : Nat, k ≤ 11 ∧ i = .int .i64 k ∧ Hid (∀ j : Nat, j < k → begins s.data.toList j = false) ∧ Below w2.heap.size w2 wr) (fun i _ => 11 - (intOf i).toNat)
      case atStart => exact ⟨0, by omega, rfl, Lib.hid (fun j hj => by omega), Below.refl _ _⟩
      case round =>
        obtain ⟨k, hk, rfl, H, hbr⟩ := hrel
        have d0 := (hbr.cell (p := ⟨w.heap.size, 0, none⟩) hz2).trans c0
        have d1 := (hbr.cell (p := ⟨w.heap.size, 1, none⟩) hz2).trans c1
        have d2 := (hbr.cell (p := ⟨w.heap.size, 2, none⟩) hz2).trans c2
        have e0 := (hbr.frozen (p := ⟨w.heap.size, 0, none⟩) hz2).trans f0
        have e1 := (hbr.frozen (p := ⟨w.heap.size, 1, none⟩) hz2).trans f1
        have e2 := (hbr.frozen (p := ⟨w.heap.size, 2, none⟩) hz2).trans f2
        have hzr : w.heap.size < wr.heap.size := Nat.lt_of_lt_of_le hz2 hbr.size
        by_cases hlt : k < 11
        · have hC := Kd.C_below HC.out hbr
          obtain ⟨ad', hh, x0, x1⟩ := PAll.at_T120 hC k (by omega) (by omega)
          injection hh with hh
          subst hh
          clear hC
          simp only [Int.toNat_natCast] at x0 x1
          have hbg : begins s.data.toList k = Lib.hasPrefix s.data.toList (PAll.rd_T120 signL k).f0.data.toList := rfl
          have hit := sign_hit k hlt s.data.toList H.out
          generalize hwk : PAll.rd_T120 signL k = wk at *
          have HBG := Lib.hid hbg
          have HIT := Lib.hid hit
          clear hwk hbg hit
          cases hx : begins s.data.toList k
          · have HX := Lib.hid hx
            clear hx
            go_wp2_with fail
            refine (Tryd.strings_HasPrefix s wk.f0 _).mono ?_
            rw [← HBG.out, HX.out]
            rintro e w4 ⟨rfl, rfl⟩
            go_wp2_with fail
            go_roundw
            case rel =>
              refine ⟨k + 1, by omega, by go_num, Lib.hid (fun j hj => ?_), hbr.alloc hbr.size _⟩
              rcases Nat.lt_or_ge j k with h | h
              · exact H.out j h
              · obtain rfl : j = k := by omega
                exact HX.out
            case measure => simp [intOf]; omega
          · have hh := HIT.out hx
            have HH := Lib.hid hh
            have HX := Lib.hid hx
            clear hx hh
            go_wp2_with fail
            refine (Tryd.strings_HasPrefix s wk.f0 _).mono ?_
            rw [← HBG.out, HX.out]
            rintro e w4 ⟨rfl, rfl⟩
            go_wp2_with fail
            go_region
            go_wp2_with fail
            all_goals
              refine bodyPost_ret (v := .tuple #[.agg #[.int .i64 wk.f1, .int .i64 0, .int .i64 0], .int .i64 (wk.f0.size : Nat)]) (by simp [results, Tryd.results41, go_sem, d0, d1, d2, hzr]) rfl ⟨by rw [HF.out, if_neg HH.out.2, HH.out.1]; rfl, ?_⟩
            exact ((below_set3 (hb.trans (hbr.mono (Nat.le_of_lt hz2))) (Nat.le_refl _) _ _ _).alloc (by simp [World.setCell]; omega) _).drew
        · go_wp2_with fail
          refine bodyPost_ret (v := .tuple #[.agg #[.int .i64 0, .int .i64 0, .int .i64 0], .int .i64 0]) (by simp [results, Tryd.results41, go_sem, d0, d1, d2]) rfl ⟨?_, below_set3 (hb.trans (hbr.mono (Nat.le_of_lt hz2))) (Nat.le_refl _) _ _ _⟩
          rw [HF.out, if_pos (sign_miss _ (fun j hj => H.out j (by omega)))]
          rfl
end Go.Proofs.YtldcplgfkcionaaDoor
