/- What the lexer's Tokens does. -/
import Derived.Test.YtldcplgfkcionaaDoorLexFirst
import Derived.Test.YtldcplgfkcionaaDoorTok
import Derived.OwnWalk
set_option linter.unusedVariables false
set_option linter.unusedSimpArgs false
namespace Go.Proofs.YtldcplgfkcionaaDoor
open Go.RowKit PX Go.Proofs.YtldcplgfkcionaaDoorW.PrintWords
/-- A text's tokens, or what is amiss. -/
def lexed (l : List UInt8) : List T × Er :=
  if 200 < l.length then ([], .code 3) else match (lexAt l 0).2 with
    | none => ((lexAt l 0).1, .none)
    | some a => ([], .spot a 2)
theorem lexAt_len (l : List UInt8) (a : Nat) : (lexAt l a).1.length ≤ l.length := by
  induction l, a using lexAt.induct with
  | case1 a => rw [lexAt_nil]; simp
  | case2 a l ih => rw [lexAt_space]; simp; omega
  | case3 a c l hc h => rw [lexAt_bad hc h]; simp
  | case4 a c l hc k n m h ih =>
    rw [lexAt_tok hc h]
    have := first_pos h
    simp only [List.length_cons, List.length_drop] at ih ⊢ this
    omega
theorem extract_drop (s : ByteArray) (k : Nat) : (s.extract k s.size).data.toList = s.data.toList.drop k := by
  simp only [ByteArray.data_extract, Array.toList_extract, List.extract_eq_take_drop]
  rw [List.take_of_length_le]
  simp
set_option maxHeartbeats 4000000 in
set_option maxRecDepth 100000 in
theorem tokens_any (s : ByteArray) (hs : s.size ≤ 281474976710656) (w : World) (hw : Laid w) :
    Calls Tryd.prog 14 #[.string s] w fun e w' => ∃ v ev, e = .returned (.tuple #[v, ev]) ∧ Toks w' w.heap.size v (lexed s.data.toList).1 ∧ ErV w.heap.size w' ev (lexed s.data.toList).2 ∧ Below w.heap.size w w' := by
  have hsz : s.data.toList.length = s.size := by simp
  by_cases h2 : 200 < s.size
  · have hx : lexed s.data.toList = ([], .code 3) := by rw [lexed, if_pos (by omega)]
    have HX := Lib.hid hx
    clear hx hsz
    go_enter Tryd.func14, Tryd.ntmps14
    go_wp2
    go_ret2
    refine ⟨_, _, rfl, ?_, ?_, Below.refl _ _⟩
    · rw [HX.out]; exact Kd.R_nil _ _ _ _ _
    · rw [HX.out]; rfl
  · have hx : lexed s.data.toList = match (lexAt s.data.toList 0).2 with
        | none => ((lexAt s.data.toList 0).1, .none)
        | some a => ([], .spot a 2) := by rw [lexed, if_neg (by omega)]
    have hlx := lexAt_len s.data.toList 0
    have HX := Lib.hid hx
    have HSZ := Lib.hid hsz
    have HLX := Lib.hid hlx
    clear hx hsz hlx
    go_enter Tryd.func14, Tryd.ntmps14
    go_wp2
    go_loopw [4, 5] (fun v i wr => ∃ (k : Nat) (xs : List T), k ≤ s.size ∧ i = .int .i64 k ∧ Hid (lexAt s.data.toList 0 = (xs ++ (lexAt (s.data.toList.drop k) k).1, (lexAt (s.data.toList.drop k) k).2)) ∧ Hid (Toks wr w.heap.size v xs) ∧ Below w.heap.size w wr) (fun _ i _ => s.size - (intOf i).toNat)
    case atStart => exact ⟨0, [], by omega, rfl, Lib.hid (by simp), Lib.hid (Kd.R_nil _ _ _ _ _), Below.refl _ _⟩
    case round =>
      obtain ⟨k, xs, hk, rfl, H, HT, hb⟩ := hrel
      by_cases hlt : k < s.size
      · have hd : s.data.toList.drop k = s[k] :: s.data.toList.drop (k + 1) := List.drop_eq_getElem_cons (by rw [HSZ.out]; exact hlt)
        have HD := Lib.hid hd
        clear hd
        by_cases h32 : s[k] = 32
        · have c32 : (((s[k].toNat : Nat) : Int) == 32) = true := by rw [h32]; rfl
          have HC := Lib.hid h32
          clear h32
          go_wp2_with fail
          go_roundw
          case rel =>
            refine ⟨k + 1, xs, by omega, by go_num, Lib.hid ?_, HT, hb⟩
            rw [H.out, HD.out, HC.out, lexAt_space]
          case measure => simp [intOf]; omega
        · have c32 : (((s[k].toNat : Nat) : Int) == 32) = false := by
            refine beq_eq_false_iff_ne.mpr (fun e => h32 ?_)
            exact UInt8.toNat_inj.1 (by show s[k].toNat = 32; omega)
          have HC := Lib.hid h32
          have hxl : xs.length ≤ s.size := by
            have := HLX.out
            rw [H.out] at this
            simp only [List.length_append] at this
            rw [HSZ.out] at this
            omega
          clear h32
          go_wp2_with fail
          refine (first_any (s.extract k s.size) (by rw [ByteArray.size_extract]; omega) _ (hw.below hb)).mono ?_
          rw [extract_drop]
          cases hfi : first (s.data.toList.drop k) with
          | none =>
            have HFI := Lib.hid hfi
            clear hfi
            rintro e w2 ⟨rfl, hb2⟩
            simp only [firstV]
            have hb3 := below_then hb hb.size hb2
            go_wp2_with fail
            go_ret2
            refine ⟨_, _, rfl, ?_, ?_, (hb3.alloc hb3.size _).alloc (by have := hb3.size; simp; omega) _⟩
            all_goals
              have hl := H.out
              rw [HD.out, lexAt_bad HC.out (by rw [← HD.out]; exact HFI.out)] at hl
              rw [HX.out, hl]
            · exact Kd.R_nil _ _ _ _ _
            · exact ⟨_, rfl, by have := hb3.size; simp; omega, by simpa using blk_new (w2.alloc (.cells #[.int .i64 0, .int .i64 0, .int .i64 0] 40)) _⟩
          | some p =>
            obtain ⟨kk, n, m⟩ := p
            have hp := first_pos hfi
            have HFI := Lib.hid hfi
            rw [List.length_drop, HSZ.out] at hp
            obtain ⟨hp1, hp2⟩ := hp
            clear hfi
            rintro e w2 ⟨rfl, hb2⟩
            simp only [firstV]
            have hb3 := below_then hb hb.size hb2
            have hm0 : (((m : Nat) : Int) == 0) = false := beq_eq_false_iff_ne.mpr (by omega)
            have HT2 := Lib.hid (Kd.R_below HT.out hb2)
            go_wp2_with (at_builtin; refine tok_append rfl (.tmp 37) (.tmp 39) rfl w.heap.size _ xs kk n (k : Nat) rfl _ rfl ?aN ?aO ?aB ?aL ?_)
            case aN => simp
            case aO => exact Kd.R_alloc HT2.out _
            case aB => have := hb3.size; simp; omega
            case aL => omega
            intro v1 w4 hT4 hg4 _
            have hb4 : Below w.heap.size w w4 := (hb3.alloc hb3.size _).grown hg4 (by have := hb3.size; simp; omega) (fun j hj => (Kd.R_base HT.out j hj))
            have HT4 := Lib.hid hT4
            clear hT4 hg4
            go_wp2_with fail
            go_roundw
            case rel =>
              refine ⟨k + m, xs ++ [⟨kk, n, (k : Nat)⟩], by omega, by go_num, Lib.hid ?_, HT4, hb4⟩
              rw [H.out, HD.out, lexAt_tok HC.out (by rw [← HD.out]; exact HFI.out), ← HD.out, List.drop_drop]
              simp
            case measure => simp [intOf]; omega
      · obtain rfl : k = s.size := by omega
        go_wp2_with fail
        go_ret2
        have hl := H.out
        rw [show s.data.toList.drop s.size = [] by rw [← HSZ.out]; simp, lexAt_nil] at hl
        refine ⟨_, _, rfl, ?_, ?_, hb⟩
        · rw [HX.out, hl]; simp only [List.append_nil]; exact HT.out
        · rw [HX.out, hl]; rfl
end Go.Proofs.YtldcplgfkcionaaDoor
