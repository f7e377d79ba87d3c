/- The reference's Text tells the text. Nothing of the walk. -/
import Derived.Test.YtldcplgfkcionaaDoorRefLex
import Derived.Test.YtldcplgfkcionaaDoorLexText
import Derived.Test.YtldcplgfkcionaaDoorPAllText2
set_option linter.unusedVariables false
set_option linter.unusedSimpArgs false
namespace Go.Proofs.YtldcplgfkcionaaDoor
open Go.RowKit PX Go.Proofs.YtldcplgfkcionaaDoorW.PrintWords
theorem sign_f (k : Int) : PAll.spinetref02_Sign.f k = some (bytesArr (kText k)) := by
  by_cases h : 3 ≤ k ∧ k ≤ 18
  · obtain rfl | rfl | rfl | rfl | rfl | rfl | rfl | rfl | rfl | rfl | rfl | rfl | rfl | rfl | rfl | rfl : k = 3 ∨ k = 4 ∨ k = 5 ∨ k = 6 ∨ k = 7 ∨ k = 8 ∨ k = 9 ∨ k = 10 ∨ k = 11 ∨ k = 12 ∨ k = 13 ∨ k = 14 ∨ k = 15 ∨ k = 16 ∨ k = 17 ∨ k = 18 := by omega
    all_goals rfl
  · have hk : kText k = [] := by
      have hn : allL.find? (fun x => x.f1 == k) = none := by
        rw [List.find?_eq_none]
        intro x hx e
        have hx' : 3 ≤ x.f1 ∧ x.f1 ≤ 18 := by
          simp [allL, signL, wordL] at hx
          rcases hx with rfl | rfl | rfl | rfl | rfl | rfl | rfl | rfl | rfl | rfl | rfl | rfl | rfl | rfl | rfl | rfl <;> simp
        have := beq_iff_eq.1 e
        omega
      unfold kText
      rw [hn]; rfl
    rw [hk]
    unfold PAll.spinetref02_Sign.f
    repeat rw [if_neg (by omega)]
    rfl
theorem strOf_one (x : Int) (h0 : 0 ≤ x) (h1 : x < 256) : strOfNums [x] = bytesArr [UInt8.ofNat x.toNat] := by
  unfold strOfNums bytesArr
  simp
theorem dig_ev (d : Nat) : ∀ n : Int, 0 ≤ n → n ≤ 9223372036854775807 → n.toNat = d → Ev (fun k => PAll.spinetref02_Digits.f k n) (bytesArr (Lib.decDigits n.toNat)) := by
  induction d using Nat.strongRecOn with
  | _ d ih =>
    intro n h0 h1 hd
    have e1 : wrap64 (48 + Int.tmod n 10) % 256 = 48 + n % 10 := by
      rw [Int.tmod_eq_emod_of_nonneg h0, w64 (by omega) (by omega)]
      omega
    refine Ev.step (fun k => rfl) ?_
    refine ev_bind rfl ?_
    rw [e1, strOf_one _ (by omega) (by omega)]
    by_cases hn : n < 10
    · refine ev_pos hn ?_
      rw [Lib.decDigits, dif_pos (by omega), show (48 + n % 10).toNat = 48 + n.toNat by omega]
      exact Ev.now _
    · refine ev_neg hn ?_
      have e2 : wrap64 (Int.tdiv n 10) = n / 10 := by
        rw [Int.tdiv_eq_ediv_of_nonneg h0, w64 (by omega) (by omega)]
      rw [e2]
      have e3 : (n / 10).toNat = n.toNat / 10 := by omega
      refine Ev.bind (ih (n.toNat / 10) (by omega) (n / 10) (by omega) (by omega) e3) ?_
      have hl := dec_len 18 (n / 10).toNat (by show (n / 10).toNat < 10000000000000000000; omega)
      have hs : (bytesArr (Lib.decDigits (n / 10).toNat)).size = (Lib.decDigits (n / 10).toNat).length := by simp [bytesArr, ByteArray.size]
      have hs1 : (bytesArr [UInt8.ofNat (48 + n % 10).toNat]).size = 1 := rfl
      refine ev_pos (by rw [hs, hs1]; omega) ?_
      have e4 : bytesArr (Lib.decDigits (n / 10).toNat) ++ bytesArr [UInt8.ofNat (48 + n % 10).toNat] = bytesArr (Lib.decDigits n.toNat) := by
        conv => rhs; rw [Lib.decDigits, dif_neg (by omega)]
        rw [e3, show (48 + n % 10).toNat = 48 + n.toNat % 10 by omega]
        apply ByteArray.ext
        simp [bytesArr]
      rw [e4]
      exact Ev.now _
theorem join_take (l : List T) (q : Nat) (h : q < l.length) : Lib.join ((l.take (q + 1)).map oneOf) [32] = (if 0 < q then Lib.join ((l.take q).map oneOf) [32] ++ [32] else Lib.join ((l.take q).map oneOf) [32]) ++ oneOf l[q] := by
  rw [List.take_succ_eq_append_getElem h]
  cases q with
  | zero => simp [Lib.join_nil, Lib.join_one]
  | succ q =>
    rw [if_pos (by omega)]
    cases l with
    | nil => simp at h
    | cons a l =>
      simp only [List.take_succ_cons, List.map_cons, List.cons_append, List.map_append, List.map_nil]
      rw [Lib.join_cons, Lib.join_cons]
      simp [Lib.joinTail]
def joinTo (l : List T) (q : Nat) : List UInt8 := Lib.join ((l.take q).map oneOf) [32]
theorem joinTo_len (l : List T) (hw : Wide l) (q : Nat) : (joinTo l q).length ≤ 21 * l.length := by
  have h := join_len ((l.take q).map oneOf) (by
    intro x hx
    obtain ⟨t, ht, rfl⟩ := List.mem_map.1 hx
    have := hw t (List.mem_of_mem_take ht)
    exact oneOf_len t this.1 this.2)
  unfold joinTo
  simp only [List.length_map, List.length_take] at h
  omega
theorem j3_ev (l : List T) (hl : l.length ≤ 100000) (hw : Wide l) (q : Nat) (hq : q < l.length) (R : ByteArray × Bool)
    (h0 : oneOf l[q] = [] → R = (⟨#[]⟩, false))
    (h1 : oneOf l[q] ≠ [] → Ev (fun k => PAll.spinetref02_Text.l0 k l (bytesArr (joinTo l (q + 1))) ((q + 1 : Nat) : Int)) R) :
    Ev (fun k => PAll.spinetref02_Text.j3 k l (bytesArr (joinTo l q)) q (bytesArr (oneOf l[q]))) R := by
  refine Ev.step (fun k => rfl) ?_
  have hbt : (bytesArr (oneOf l[q])).toList = oneOf l[q] := by rw [ByteArray.toList_eq]; rfl
  simp only [PAll.spinetref02_Text.j3]
  rw [hbt]
  by_cases h : oneOf l[q] = []
  · rw [h0 h]
    exact ev_pos h (Ev.now _)
  · refine ev_neg h ?_
    have ht := hw l[q] (List.getElem_mem hq)
    have hol := oneOf_len l[q] ht.1 ht.2
    have hjl := joinTo_len l hw q
    have hs (x : List UInt8) : (bytesArr x).size = x.length := by simp [bytesArr, ByteArray.size]
    have hap (x y : List UInt8) : bytesArr x ++ bytesArr y = bytesArr (x ++ y) := by apply ByteArray.ext; simp [bytesArr]
    have h32 : (⟨#[32]⟩ : ByteArray) = bytesArr [32] := rfl
    have hwr : wrap64 ((q : Int) + 1) = ((q + 1 : Nat) : Int) := by rw [w64 (by omega) (by omega)]; omega
    have hj := join_take l q hq
    have h1' := h1 h
    simp only [h32, hap, hs, hwr]
    by_cases hq0 : 0 < q
    · rw [if_pos hq0] at hj
      refine ev_pos (show ((q : Int)) > 0 by omega) ?_
      refine ev_pos (by simp; omega) ?_
      refine ev_pos (by simp; omega) ?_
      unfold joinTo at h1' ⊢
      rw [hj] at h1'
      exact h1'
    · rw [if_neg hq0] at hj
      refine ev_neg (show ¬ ((q : Int)) > 0 by omega) ?_
      refine ev_pos (by omega) ?_
      unfold joinTo at h1' ⊢
      rw [hj] at h1'
      exact h1'
theorem tx_ev (l : List T) (hl : l.length ≤ 100000) (hw : Wide l) (d : Nat) : ∀ q : Nat, q ≤ l.length → l.length - q = d → (∀ t ∈ l.take q, oneOf t ≠ []) →
    Ev (fun k => PAll.spinetref02_Text.l0 k l (bytesArr (joinTo l q)) q) (bytesArr (textOf l).1, match (textOf l).2 with | .none => true | _ => false) := by
  induction d using Nat.strongRecOn with
  | _ d ih =>
    intro q hq hd hall
    refine Ev.step (fun k => rfl) ?_
    by_cases hlt : q < l.length
    · refine ev_pos (show (q : Int) < (l.length : Int) by omega) ?_
      have hq0 : (0 : Int) ≤ q := by omega
      have hqi : (q : Int) < (l.length : Int) := by omega
      refine ev_pos hq0 ?_
      have hti : PAll.rd_T40 l q = l[q] := by simp [PAll.rd_T40, List.getD_eq_getElem?_getD, List.getElem?_eq_getElem hlt]
      have htw := hw l[q] (List.getElem_mem hlt)
      have hj3 : Ev (fun k => PAll.spinetref02_Text.j3 k l (bytesArr (joinTo l q)) q (bytesArr (oneOf l[q]))) (bytesArr (textOf l).1, match (textOf l).2 with | .none => true | _ => false) := by
        refine j3_ev l hl hw q hlt _ ?_ ?_
        · intro h
          have : textOf l = ([], .code 1) := by
            unfold textOf
            rw [if_neg (by intro hh; exact hh _ (List.getElem_mem hlt) h)]
          rw [this]; rfl
        · intro h
          refine ih (l.length - (q + 1)) (by omega) (q + 1) (by omega) rfl ?_
          rw [List.take_succ_eq_append_getElem hlt]
          intro t ht
          rcases List.mem_append.1 ht with ht | ht
          · exact hall t ht
          · simp at ht; subst ht; exact h
      rw [hti]
      generalize l[q] = t at *
      obtain ⟨k, n, c⟩ := t
      simp only at htw ⊢
      have hj1 : ∀ b : Bool, (b = true ↔ k = 1 ∧ 0 ≤ n) → Ev (fun x => PAll.spinetref02_Text.j1 x l (bytesArr (joinTo l q)) q ⟨#[]⟩ b) (bytesArr (textOf l).1, match (textOf l).2 with | .none => true | _ => false) := by
        intro b hb
        refine Ev.step (fun k => rfl) ?_
        by_cases hbt : b = true
        · obtain ⟨rfl, hn⟩ := hb.1 hbt
          refine ev_pos hbt (ev_pos hq0 (ev_pos hqi ?_))
          rw [hti]
          have ho : oneOf ⟨1, n, c⟩ = Lib.decDigits n.toNat := by
            unfold oneOf
            rw [if_pos ⟨rfl, hn⟩]
            unfold Lib.itoa
            rw [if_neg (by simp only; omega)]
          rw [ho] at hj3
          exact Ev.bind (dig_ev n.toNat n hn htw.2 rfl) hj3
        · refine ev_neg hbt (ev_pos hq0 (ev_pos hqi ?_))
          have hb' : ¬ (k = 1 ∧ 0 ≤ n) := fun h => hbt (hb.2 h)
          rw [hti]
          have hj2 : ∀ b2 : Bool, (b2 = true ↔ k = 2 ∧ 0 ≤ n ∧ n < 26) → Ev (fun x => PAll.spinetref02_Text.j2 x l (bytesArr (joinTo l q)) q ⟨#[]⟩ b2) (bytesArr (textOf l).1, match (textOf l).2 with | .none => true | _ => false) := by
            intro b2 hb2
            refine Ev.step (fun k => rfl) ?_
            by_cases hbt2 : b2 = true
            · obtain ⟨rfl, hn, hn2⟩ := hb2.1 hbt2
              refine ev_pos hbt2 (ev_pos hq0 (ev_pos hqi ?_))
              rw [hti]
              have ho : oneOf ⟨2, n, c⟩ = [UInt8.ofNat (97 + n.toNat)] := by
                unfold oneOf
                rw [if_neg (by simp), if_pos ⟨rfl, hn, hn2⟩]
              rw [ho] at hj3
              have e1 : wrap64 (97 + n) % 256 = 97 + n := by rw [w64 (by omega) (by omega)]; omega
              show Ev (fun x => PAll.spinetref02_Text.j3 x l (bytesArr (joinTo l q)) q (strOfNums [wrap64 (97 + n) % 256])) _
              rw [e1, strOf_one _ (by omega) (by omega), show (97 + n).toNat = 97 + n.toNat by omega]
              exact hj3
            · refine ev_neg hbt2 (ev_pos hq0 (ev_pos hqi ?_))
              have hb2' : ¬ (k = 2 ∧ 0 ≤ n ∧ n < 26) := fun h => hbt2 (hb2.2 h)
              rw [hti]
              by_cases hn : n = 0
              · refine ev_pos hn ?_
                have ho : oneOf ⟨k, n, c⟩ = kText k := by
                  unfold oneOf
                  rw [if_neg hb', if_neg hb2', if_neg (by simpa using hn)]
                rw [ho] at hj3
                exact ev_bind (sign_f k) hj3
              · refine ev_neg hn ?_
                have ho : oneOf ⟨k, n, c⟩ = [] := by
                  unfold oneOf
                  rw [if_neg hb', if_neg hb2', if_pos (by simpa using hn)]
                rw [ho] at hj3
                exact hj3
          by_cases hk : k = 2
          · refine ev_pos hk ?_
            by_cases hn : n ≥ 0
            · refine ev_pos hn (hj2 _ ?_)
              simp; omega
            · refine ev_neg hn (hj2 _ ?_)
              simp; omega
          · refine ev_neg hk (hj2 _ ?_)
            simp [hk]
      by_cases hk : k = 1
      · refine ev_pos hk (hj1 _ ?_)
        simp [hk]
      · refine ev_neg hk (hj1 _ ?_)
        simp [hk]
    · refine ev_neg (show ¬ (q : Int) < (l.length : Int) by omega) ?_
      obtain rfl : q = l.length := by omega
      rw [List.take_length] at hall
      have : textOf l = (joinTo l l.length, .none) := by
        unfold textOf joinTo
        rw [if_pos hall, List.take_length]
      rw [this]
      exact Ev.now _
theorem refText_f (l : List T) (hl : l.length ≤ 100000) (hw : Wide l) : ∃ k, PAll.spinetref02_Text.f k l = some (bytesArr (textOf l).1, match (textOf l).2 with | .none => true | _ => false) :=
  Ev.rounds (tx_ev l hl hw l.length 0 (by omega) (by omega) (by simp))
end Go.Proofs.YtldcplgfkcionaaDoor
