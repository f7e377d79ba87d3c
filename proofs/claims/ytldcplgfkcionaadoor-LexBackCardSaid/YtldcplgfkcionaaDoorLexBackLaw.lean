/- The law LexBack. -/
import Derived.Test.YtldcplgfkcionaaDoorLexUp
import Derived.Test.YtldcplgfkcionaaDoorTokArg
import Derived.Test.YtldcplgfkcionaaDoorErr
set_option linter.unusedVariables false
set_option linter.unusedSimpArgs false
namespace Go.Proofs.YtldcplgfkcionaaDoor
open Go.RowKit PX Go.Proofs.YtldcplgfkcionaaDoorW.PrintWords
/-! ### the plain law -/
theorem dec_digits (u : Nat) : (∀ c ∈ Lib.decDigits u, isDigit c = true) ∧ numOf (Lib.decDigits u) = u ∧ Lib.decDigits u ≠ [] := by
  induction u using Nat.strongRecOn with
  | _ u ih =>
    rw [Lib.decDigits]
    have hd : ∀ x : Nat, x < 10 → isDigit (UInt8.ofNat (48 + x)) = true ∧ (UInt8.ofNat (48 + x)).toNat - 48 = x := by decide
    split
    · rename_i h
      refine ⟨?_, ?_, by simp⟩
      · intro c hc; rw [List.mem_singleton.1 hc]; exact (hd u h).1
      · unfold numOf; simp only [List.foldl_cons, List.foldl_nil]; have := (hd u h).2; omega
    · rename_i h
      obtain ⟨h1, h2, h3⟩ := ih (u / 10) (by omega)
      refine ⟨?_, ?_, by simp⟩
      · intro c hc
        rcases List.mem_append.1 hc with hc | hc
        · exact h1 c hc
        · rw [List.mem_singleton.1 hc]; exact (hd (u % 10) (by omega)).1
      · unfold numOf at h2 ⊢
        rw [List.foldl_append, h2]
        simp only [List.foldl_cons, List.foldl_nil]
        rw [(hd (u % 10) (by omega)).2]
        omega
theorem takeWhile_app (p : UInt8 → Bool) (l r : List UInt8) (c : UInt8) (h : ∀ x ∈ l, p x = true) (hc : p c = false) : (l ++ c :: r).takeWhile p = l := by
  induction l with
  | nil => simp [List.takeWhile_cons, hc]
  | cons a l ih =>
    rw [List.cons_append, List.takeWhile_cons, if_pos (h a (by simp)), ih (fun x hx => h x (by simp [hx]))]
theorem first_one (t : T) (hw : t.f1 ≤ 9223372036854775807) (h : oneOf t ≠ []) (r : List UInt8) : first (oneOf t ++ 32 :: r) = some (t.f0, t.f1, (oneOf t).length) ∧ (oneOf t).headD 32 ≠ 32 := by
  obtain ⟨k, n, c⟩ := t
  unfold oneOf at h ⊢
  simp only at h hw ⊢
  by_cases h1 : k = 1 ∧ 0 ≤ n
  · obtain ⟨rfl, hn⟩ := h1
    rw [if_pos ⟨rfl, hn⟩] at h ⊢
    unfold Lib.itoa
    rw [if_neg (by omega)]
    obtain ⟨d1, d2, d3⟩ := dec_digits n.toNat
    have hp : 0 < (Lib.decDigits n.toNat).length := List.length_pos_iff.2 d3
    refine ⟨?_, ?_⟩
    · unfold first
      rw [takeWhile_app isDigit _ _ _ d1 (by decide), if_pos hp, d2, if_pos (by omega), Int.toNat_of_nonneg hn]
    · cases hd : Lib.decDigits n.toNat with
      | nil => exact absurd hd d3
      | cons a l =>
        intro e
        have e' : a = 32 := e
        rw [hd] at d1
        have := d1 a (by simp)
        rw [e'] at this
        exact absurd this (by decide)
  rw [if_neg h1] at h ⊢
  by_cases h2 : k = 2 ∧ 0 ≤ n ∧ n < 26
  · obtain ⟨rfl, hn, hn2⟩ := h2
    rw [if_pos ⟨rfl, hn, hn2⟩] at h ⊢
    have hl : ∀ x : Nat, x < 26 → isDigit (UInt8.ofNat (97 + x)) = false ∧ isLetter (UInt8.ofNat (97 + x)) = true ∧ (UInt8.ofNat (97 + x)).toNat - 97 = x ∧ UInt8.ofNat (97 + x) ≠ 32 ∧ 97 ≤ (UInt8.ofNat (97 + x)).toNat := by decide
    obtain ⟨l1, l2, l3, l4, l5⟩ := hl n.toNat (by omega)
    refine ⟨?_, l4⟩
    generalize UInt8.ofNat (97 + n.toNat) = x at *
    have t1 : ([x] ++ 32 :: r).takeWhile isDigit = [] := by rw [List.singleton_append, List.takeWhile_cons, if_neg (by simp [l1])]
    have t2 : ([x] ++ 32 :: r).takeWhile isLetter = [x] := takeWhile_app isLetter [x] r 32 (by intro y hy; rw [List.mem_singleton.1 hy]; exact l2) (by decide)
    unfold first
    rw [t1, t2]
    have hn' : ((x.toNat : Nat) : Int) - 97 = n := by omega
    simp [hn']
  rw [if_neg h2] at h ⊢
  by_cases h3 : n = 0
  · subst h3
    rw [if_neg (by simp)] at h ⊢
    have hk : 3 ≤ k ∧ k ≤ 18 := by
      by_cases hh : 3 ≤ k ∧ k ≤ 18
      · exact hh
      · exfalso
        apply h
        have hn : allL.find? (fun x => x.f1 == k) = none := by
          rw [List.find?_eq_none]
          intro x hx e
          have hx' : 3 ≤ x.f1 ∧ x.f1 ≤ 18 := by
            simp [allL, signL, wordL] at hx
            rcases hx with rfl | rfl | rfl | rfl | rfl | rfl | rfl | rfl | rfl | rfl | rfl | rfl | rfl | rfl | rfl | rfl <;> simp
          have := beq_iff_eq.1 e
          omega
        unfold kText
        rw [hn]; rfl
    obtain rfl | rfl | rfl | rfl | rfl | rfl | rfl | rfl | rfl | rfl | rfl | rfl | rfl | rfl | rfl | rfl : k = 3 ∨ k = 4 ∨ k = 5 ∨ k = 6 ∨ k = 7 ∨ k = 8 ∨ k = 9 ∨ k = 10 ∨ k = 11 ∨ k = 12 ∨ k = 13 ∨ k = 14 ∨ k = 15 ∨ k = 16 ∨ k = 17 ∨ k = 18 := by omega
    all_goals exact ⟨rfl, by decide⟩
  · rw [if_pos h3] at h
    exact absurd rfl h
/-- The text of tokens, each with a space ahead, and one behind. -/
def backOf (l : List T) : List UInt8 := (l.map fun t => 32 :: oneOf t).flatten ++ [32]
theorem backOf_cons (t : T) (l : List T) : backOf (t :: l) = 32 :: (oneOf t ++ backOf l) := by simp [backOf]
theorem backOf_space (l : List T) : ∃ r, backOf l = 32 :: r := by
  cases l with
  | nil => exact ⟨[], rfl⟩
  | cons t l => exact ⟨_, backOf_cons t l⟩
theorem back_join (t : T) (l : List T) : 32 :: (Lib.join ((t :: l).map oneOf) [32] ++ [32]) = backOf (t :: l) := by
  rw [List.map_cons, Lib.join_cons, backOf]
  simp [Lib.joinTail, List.map_map]
  rfl
/-- Two rows of tokens are alike, but for their places. -/
def Alike (a b : List T) : Prop := a.length = b.length ∧ ∀ (i : Nat) x y, a[i]? = some x → b[i]? = some y → x.f0 = y.f0 ∧ x.f1 = y.f1
theorem lex_back (l : List T) (hw : Wide l) (h : ∀ t ∈ l, oneOf t ≠ []) : ∀ a : Nat, ∃ l', lexAt (backOf l) a = (l', none) ∧ Alike l' l := by
  induction l with
  | nil =>
    intro a
    refine ⟨[], ?_, rfl, by simp⟩
    show lexAt [32] a = _
    rw [lexAt_space, lexAt_nil]
  | cons t l ih =>
    intro a
    obtain ⟨r, hr⟩ := backOf_space l
    obtain ⟨hf, hh⟩ := first_one t (hw t (by simp)).2 (h t (by simp)) r
    obtain ⟨l', e, he⟩ := ih (fun t ht => hw t (by simp [ht])) (fun t ht => h t (by simp [ht])) (a + 1 + (oneOf t).length)
    rw [← hr] at hf
    refine ⟨⟨t.f0, t.f1, ((a + 1 : Nat) : Int)⟩ :: l', ?_, ?_, ?_⟩
    · rw [backOf_cons, lexAt_space]
      cases ho : oneOf t with
      | nil => exact absurd ho (h t (by simp))
      | cons c o =>
        rw [ho] at hf hh e
        have hc : c ≠ 32 := hh
        rw [List.cons_append] at hf ⊢
        rw [lexAt_tok hc hf]
        rw [← List.cons_append, List.drop_left, e]
    · simp [he.1]
    · intro i x y hx hy
      cases i with
      | zero => simp at hx hy; subst hx; subst hy; exact ⟨rfl, rfl⟩
      | succ i => exact he.2 i x y (by simpa using hx) (by simpa using hy)
theorem back_lexed (l : List T) (s : List UInt8) (hw : Wide l) (h : textOf l = (s, .none)) (hs : s.length ≤ 198) : ∃ l', lexed (32 :: (s ++ [32])) = (l', .none) ∧ Alike l' l := by
  unfold textOf at h
  split at h
  · rename_i hall
    have e : Lib.join (l.map oneOf) [32] = s := (Prod.mk.inj h).1
    subst e
    have hl : lexed (32 :: (Lib.join (l.map oneOf) [32] ++ [32])) = match (lexAt (32 :: (Lib.join (l.map oneOf) [32] ++ [32])) 0).2 with
        | none => ((lexAt (32 :: (Lib.join (l.map oneOf) [32] ++ [32])) 0).1, .none)
        | some a => ([], .spot a 2) := by rw [lexed, if_neg (by simp; omega)]; rfl
    rw [hl]
    cases l with
    | nil =>
      refine ⟨[], ?_, rfl, by simp⟩
      rw [show (32 :: (Lib.join (([] : List T).map oneOf) [32] ++ [32])) = [32, 32] from rfl, lexAt_space, lexAt_space, lexAt_nil]
    | cons t l =>
      rw [back_join]
      obtain ⟨l', e, he⟩ := lex_back (t :: l) hw hall 0
      rw [e]
      exact ⟨l', rfl, he⟩
  · cases h
/-! ### the walk -/
theorem below_drewN {B : Nat} {w w' : World} (h : Below B w w') (n : Nat) : Below B w (w'.drewN n) := by
  induction n generalizing w' with
  | zero => exact h
  | succ n ih =>
    have := ih h.drew
    rw [World.drewN_drew, Nat.add_comm] at this
    exact this
theorem textOf_er' (l : List T) : (textOf l).2 = .none ∨ textOf l = ([], .code 1) := by
  unfold textOf
  split
  · exact .inl rfl
  · exact .inr rfl
set_option maxHeartbeats 8000000 in
set_option maxRecDepth 100000 in
theorem LexBack_walk (w : World) (hw : LaidE w) (v0 : Value) (x0 : List (Int × Int × Int × Unit)) (h0 : RTok.slice.ok (fun b => b < w.heap.size) w [v0] x0) :
    Calls Tryd.prog 5 #[v0] w fun e w' => e = .returned (.bool true) ∧ Below w.heap.size w w' := by
  obtain ⟨A, cap, l, rfl, hc, hC, hwd⟩ := tokArg h0
  clear h0
  have HC := Lib.hid hC
  have HW := Lib.hid hwd.wide
  clear hC hwd
  by_cases h5 : 500 < l.length
  · go_enter Tryd.func5, Tryd.ntmps5
    go_wp2_with fail
    refine (up02 _ hw).mono ?_
    rintro e w1 ⟨rfl, hb1⟩
    go_wp2_with fail
    go_ret
    exact ⟨rfl, hb1⟩
  rcases textOf_er' l with hx | hx
  · have hlen : ∃ s, textOf l = (s, .none) := ⟨(textOf l).1, by rw [← hx]⟩
    obtain ⟨s, hs⟩ := hlen
    clear hx
    by_cases h198 : 198 < s.length
    · have HX := Lib.hid hs
      clear hs
      go_enter Tryd.func5, Tryd.ntmps5
      go_wp2_with fail
      refine (up02 _ hw).mono ?_
      rintro e w1 ⟨rfl, hb1⟩
      go_wp2_with fail
      refine (text_any A cap l _ (by omega) hc (Kd.C_below HC.out hb1) HW.out (hw.below hb1).toLaid).mono ?_
      rw [HX.out]
      rintro e w2 ⟨ev2, rfl, rfl, hb2⟩
      have hb12 := below_then hb1 hb1.size hb2
      have hsz : ((⟨s.toArray⟩ : ByteArray).size : Int) > 198 := by simp [ByteArray.size]; omega
      go_wp2_with fail
      go_ret
      exact ⟨rfl, hb12⟩
    · obtain ⟨l', hl', hal⟩ := back_lexed l s HW.out hs (by omega)
      have HX := Lib.hid hs
      have HL := Lib.hid hl'
      have HA := Lib.hid hal
      clear hs hl' hal
      go_enter Tryd.func5, Tryd.ntmps5
      go_wp2_with fail
      refine (up02 _ hw).mono ?_
      rintro e w1 ⟨rfl, hb1⟩
      go_wp2_with fail
      refine (text_any A cap l _ (by omega) hc (Kd.C_below HC.out hb1) HW.out (hw.below hb1).toLaid).mono ?_
      rw [HX.out]
      rintro e w2 ⟨ev2, rfl, rfl, hb2⟩
      have hb12 := below_then hb1 hb1.size hb2
      have hsz0 : (⟨s.toArray⟩ : ByteArray).size = s.length := by simp [ByteArray.size]
      have hsz : ¬ ((⟨s.toArray⟩ : ByteArray).size : Int) > 198 := by omega
      go_wp2_with fail
      have hy : ((⟨#[32]⟩ : ByteArray) ++ ⟨s.toArray⟩ ++ ⟨#[32]⟩).data.toList = 32 :: (s ++ [32]) := by simp
      have hy2 : ((⟨#[32]⟩ : ByteArray) ++ ⟨s.toArray⟩ ++ ⟨#[32]⟩).size ≤ 281474976710656 := by
        have e : ∀ b : ByteArray, b.size = b.data.toList.length := fun b => by simp
        rw [e, hy]
        simp
        omega
      generalize ((⟨#[32]⟩ : ByteArray) ++ ⟨s.toArray⟩ ++ ⟨#[32]⟩) = y at *
      refine (tokens_any y hy2 _ (hw.below hb12).toLaid).mono ?_
      rw [hy, HL.out]
      rintro e w3 ⟨v3, ev3, rfl, h3, rfl, hb3⟩
      have hb13 := below_then hb12 hb12.size hb3
      obtain ⟨A3, c3, rfl, hc3, hC3⟩ := Kd.R_reads h3
      have hlen3 : l'.length = l.length := HA.out.1
      have hC3' : Kd.C PAll.k40 w3 A3 l.length l' := by rw [← hlen3]; exact hC3
      have HC3 := Lib.hid hC3'
      have HCl := Lib.hid (Kd.C_below HC.out hb13)
      clear h3 hC3 hC3' hy
      rw [hlen3] at hc3 ⊢
      have HLN := Lib.hid hlen3
      clear hlen3
      go_wp2_with fail
      go_loopw [8] (fun i wr => ∃ q : Nat, q ≤ l.length ∧ i = .int .i64 q ∧ Hid (∃ nq, wr = w3.drewN nq)) (fun i _ => l.length - (intOf i).toNat)
      case atStart => exact ⟨0, by omega, rfl, Lib.hid ⟨0, rfl⟩⟩
      case round =>
        obtain ⟨q, hq, rfl, HN⟩ := hrel
        by_cases hlt : q < l.length
        · obtain ⟨ad, hA, x0, x1, x2⟩ := PAll.at_T40 (by obtain ⟨nq, e⟩ := HN.out; rw [e]; exact Kd.C_drewN HCl.out nq : Kd.C PAll.k40 wr A l.length l) q (by omega) (by omega)
          subst hA
          obtain ⟨ad3, hA3, y0, y1, y2⟩ := PAll.at_T40 (by obtain ⟨nq, e⟩ := HN.out; rw [e]; exact Kd.C_drewN HC3.out nq : Kd.C PAll.k40 wr A3 l.length l') q (by omega) (by omega)
          subst hA3
          simp only [Int.toNat_natCast] at x0 x1 x2 y0 y1 y2
          have hti : PAll.rd_T40 l q = l[q] := by simp [PAll.rd_T40, List.getD_eq_getElem?_getD, List.getElem?_eq_getElem hlt]
          have hlt' : q < l'.length := by rw [HLN.out]; exact hlt
          have hti' : PAll.rd_T40 l' q = l'[q] := by simp [PAll.rd_T40, List.getD_eq_getElem?_getD, List.getElem?_eq_getElem hlt']
          rw [hti] at x0 x1 x2
          rw [hti'] at y0 y1 y2
          obtain ⟨e0, e1⟩ := HA.out.2 q l'[q] l[q] (List.getElem?_eq_getElem hlt') (List.getElem?_eq_getElem hlt)
          rw [e0] at y0
          rw [e1] at y1
          clear e0 e1 hti hti'
          generalize l[q] = tq at *
          obtain ⟨k, n, c⟩ := tq
          simp only at x0 x1 x2 y0 y1 y2
          have p1 : (0 ≤ (q : Int)) = True := eq_true (by omega)
          have p2 : ((q : Int) < (l.length : Int)) = True := eq_true (by omega)
          go_wp2_with fail
          repeat (go_quiet (fail); try go_wp2)
          go_roundw
          case rel => exact ⟨q + 1, by omega, by go_num, Lib.hid (by obtain ⟨nq, e⟩ := HN.out; rw [e]; exact ⟨_, by first | rfl | rw [World.drewN_drewN] | (simp; rfl)⟩)⟩
          case measure => simp [intOf]; omega
        · obtain rfl : q = l.length := by omega
          go_wp2_with fail
          go_ret
          obtain ⟨nq, e⟩ := HN.out
          exact ⟨rfl, by rw [e]; exact below_drewN hb13 nq⟩
  · have HX := Lib.hid hx
    clear hx
    go_enter Tryd.func5, Tryd.ntmps5
    go_wp2_with fail
    refine (up02 _ hw).mono ?_
    rintro e w1 ⟨rfl, hb1⟩
    go_wp2_with fail
    refine (text_any A cap l _ (by omega) hc (Kd.C_below HC.out hb1) HW.out (hw.below hb1).toLaid).mono ?_
    rw [HX.out]
    rintro e w2 ⟨ev2, rfl, rfl, hb2⟩
    have hb12 := below_then hb1 hb1.size hb2
    go_wp2_with fail
    go_ret
    exact ⟨rfl, hb12⟩
end Go.Proofs.YtldcplgfkcionaaDoor
