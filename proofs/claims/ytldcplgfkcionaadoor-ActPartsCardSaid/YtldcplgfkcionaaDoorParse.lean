/- What the parser's Parse does. -/
import Derived.Test.YtldcplgfkcionaaDoorPrun3
import Derived.Test.YtldcplgfkcionaaDoorPtotal
import Derived.Test.YtldcplgfkcionaaDoorLexTokens
set_option linter.unusedVariables false
set_option linter.unusedSimpArgs false
namespace Go.Proofs.YtldcplgfkcionaaDoor
open Go.RowKit PX Go.Proofs.YtldcplgfkcionaaDoorW.PrintWords
/-- What comes of a reader that has read all it can, of a text of n bytes. -/
def parsedOf (l : List T) (n : Nat) (R : St) : List T × Er :=
  if R.bad = true ∨ R.at_ < l.length then ([], .spot (if R.at_ < l.length then (PAll.rd_T40 l R.at_).f2 else n) 2)
  else if 100 < R.out.length then ([], .code 3) else (R.out, .none)
def st0 : St := ⟨0, [], false⟩
/-- The postfix of a text, or what is amiss. -/
def Parsed (s : List UInt8) (r : List T × Er) : Prop :=
  match (lexed s).2 with
  | .none => ∃ R, Pr (lexed s).1 false 1 st0 R ∧ r = parsedOf (lexed s).1 s.length R
  | e => r = ([], e)
theorem parsed_ex (s : List UInt8) : ∃ r, Parsed s r := by
  unfold Parsed
  cases (lexed s).2 with
  | none =>
    obtain ⟨R, hR⟩ := pr_ex (lexed s).1 1 st0 (by omega) (by omega) (Nat.zero_le _)
    exact ⟨_, R, hR, rfl⟩
  | code c => exact ⟨_, rfl⟩
  | spot a c => exact ⟨_, rfl⟩
/-- A reader that was just laid. -/
theorem rdr_new {tb : Nat} {w1 : World} {A : Option Addr} {cap : Nat} {l : List T} (hC : ToksC w1 A l.length l) (hA : ∀ ad, A = some ad → ad.block < w1.heap.size) (hc : l.length ≤ cap) :
    Rdr tb w1.heap.size A cap l (w1.heap.size + 1) (w1.alloc (.cells #[.slice A l.length cap, .int .i64 0, .slice none 0 0, .bool false] tb)) st0 (.slice none 0 0) :=
  ⟨blk_new _ _, Kd.R_nil _ _ _ _ _, Kd.C_alloc hC _, fun ad h => by have := hA ad h; refine ⟨by omega, by omega, by simp; omega⟩, by omega, by simp, hc⟩
set_option maxHeartbeats 8000000 in
set_option maxRecDepth 100000 in
theorem parse_any (s : ByteArray) (hs : s.size ≤ 281474976710656) (w : World) (hw : Laid w) (r : List T × Er) (hr : Parsed s.data.toList r) :
    Calls Tryd.prog 21 #[.string s] w fun e w' => ∃ v ev, e = .returned (.tuple #[v, ev]) ∧ Toks w' w.heap.size v r.1 ∧ ErV w.heap.size w' ev r.2 ∧ Below w.heap.size w w' := by
  have HP := Lib.hid hr
  clear hr
  go_enter Tryd.func21, Tryd.ntmps21
  go_wp2_with fail
  refine (tokens_any s hs _ hw).mono ?_
  rintro e w1 ⟨v1, ev1, rfl, h1, he1, hb1⟩
  cases hx : (lexed s.data.toList).2 with
  | none =>
    rw [hx] at he1
    obtain rfl : ev1 = .nilIface := he1
    obtain ⟨R, hR, rfl⟩ : ∃ R, Pr (lexed s.data.toList).1 false 1 st0 R ∧ r = parsedOf (lexed s.data.toList).1 s.data.toList.length R := by
      have := HP.out
      unfold Parsed at this
      rw [hx] at this
      exact this
    have hln : (lexed s.data.toList).1.length ≤ 200 := by
      unfold lexed at hx ⊢
      split at hx
      · cases hx
      · rename_i h2
        rw [if_neg h2]
        have := lexAt_len s.data.toList 0
        split <;> simp <;> omega
    clear HP hx
    generalize hlx : (lexed s.data.toList).1 = l at *
    have HLX := Lib.hid hlx
    clear hlx
    obtain ⟨A1, c1, rfl, hc1, hC1⟩ := Kd.R_reads h1
    have HC1 := Lib.hid hC1
    have HR := Lib.hid hR
    have hle := hR.le (by omega) (Nat.zero_le _)
    have hA1 : ∀ ad, A1 = some ad → ad.block < w1.heap.size := fun ad h => Kd.R_lt h1 ad.block (by rw [h]; rfl)
    clear h1 hC1 hR
    go_wp2_with fail
    refine ((reads_all l (by omega) (l.length * 8 + 8)).1 _ _ _ _ _ st0 _ R (rdr_new HC1.out hA1 hc1) (Nat.zero_le _) (Nat.le_refl _) (by simp [st0]) HR.out).mono ?_
    rintro e w2 ⟨⟨u, rfl⟩, v2, hR2, hc2, ho2⟩
    obtain ⟨A2, c2, rfl⟩ := Kd.R_slice hR2.out
    have hb2 : Below w.heap.size w w2 := (hb1.alloc hb1.size _).trans ((hc2.below (B := w.heap.size) (by have := hb1.size; simp; omega) (fun k hk e => by
      rcases e with e | e
      · have := hb1.size; omega
      · cases e)))
    have HR2 := Lib.hid hR2
    have HT2 := Lib.hid (Kd.R_lower hR2.out (show w.heap.size ≤ w1.heap.size + 1 by have := hb1.size; omega))
    obtain ⟨k0, k1, k2, k3, f1, f2, f3⟩ := hR2.cells
    have hsz : s.data.toList.length = s.size := by simp
    clear hR2 hc2 ho2
    by_cases hlt : R.at_ < l.length
    · have hpo : parsedOf l s.data.toList.length R = ([], .spot (PAll.rd_T40 l R.at_).f2 2) := by
        unfold parsedOf
        rw [if_pos (.inr hlt), if_pos hlt]
      have HPO := Lib.hid hpo
      clear hpo
      obtain ⟨ad, hA, x0, x1, x2⟩ := PAll.at_T40 HR2.out.row R.at_ (by omega) (by omega)
      subst hA
      simp only [Int.toNat_natCast] at x0 x1 x2
      have p1 : (0 ≤ (R.at_ : Int)) = True := eq_true (by omega)
      have p2 : ((R.at_ : Int) < (l.length : Int)) = True := eq_true (by omega)
      cases hbad : R.bad with
      | true =>
        rw [hbad] at k3
        go_wp2_with fail
        go_ret2
        rw [HLX.out, HPO.out]
        exact ⟨_, _, rfl, Kd.R_nil _ _ _ _ _, ⟨_, rfl, by have := hb2.size; omega, blk_new _ _⟩, hb2.alloc hb2.size _⟩
      | false =>
        rw [hbad] at k3
        go_wp2_with fail
        go_ret2
        rw [HLX.out, HPO.out]
        exact ⟨_, _, rfl, Kd.R_nil _ _ _ _ _, ⟨_, rfl, by have := hb2.size; omega, blk_new _ _⟩, hb2.alloc hb2.size _⟩
    · have p1 : ((R.at_ : Int) < (l.length : Int)) = False := eq_false (by omega)
      cases hbad : R.bad with
      | true =>
        have hpo : parsedOf l s.data.toList.length R = ([], .spot (s.size : Nat) 2) := by
          unfold parsedOf
          rw [if_pos (.inl hbad), if_neg hlt, hsz]
        have HPO := Lib.hid hpo
        clear hpo hsz
        rw [hbad] at k3
        go_wp2_with fail
        go_ret2
        rw [HLX.out, HPO.out]
        exact ⟨_, _, rfl, Kd.R_nil _ _ _ _ _, ⟨_, rfl, by have := hb2.size; omega, blk_new _ _⟩, hb2.alloc hb2.size _⟩
      | false =>
        rw [hbad] at k3
        by_cases h100 : 100 < R.out.length
        · have hpo : parsedOf l s.data.toList.length R = ([], .code 3) := by
            unfold parsedOf
            rw [if_neg (by rw [hbad]; simp; omega), if_pos h100]
          have HPO := Lib.hid hpo
          clear hpo hsz
          go_wp2_with fail
          go_ret2
          rw [HLX.out, HPO.out]
          exact ⟨_, _, rfl, Kd.R_nil _ _ _ _ _, rfl, hb2⟩
        · have hpo : parsedOf l s.data.toList.length R = (R.out, .none) := by
            unfold parsedOf
            rw [if_neg (by rw [hbad]; simp; omega), if_neg h100]
          have HPO := Lib.hid hpo
          clear hpo hsz
          go_wp2_with fail
          go_ret2
          rw [HLX.out, HPO.out]
          exact ⟨_, _, rfl, HT2.out, rfl, hb2⟩
  | code c =>
    rw [hx] at he1
    obtain rfl : r = ([], .code c) := by
      have := HP.out
      unfold Parsed at this
      rw [hx] at this
      exact this
    obtain rfl : ev1 = .iface 28 (.int .i64 c) := he1
    clear h1 HP
    go_wp2_with fail
    go_ret2
    exact ⟨_, _, rfl, Kd.R_nil _ _ _ _ _, rfl, hb1⟩
  | spot a c =>
    rw [hx] at he1
    obtain rfl : r = ([], .spot a c) := by
      have := HP.out
      unfold Parsed at this
      rw [hx] at this
      exact this
    obtain ⟨g1, rfl, hg1, hs1⟩ := he1
    have HS1 := Lib.hid hs1
    clear h1 HP hs1
    go_wp2_with fail
    go_ret2
    exact ⟨_, _, rfl, Kd.R_nil _ _ _ _ _, ⟨g1, rfl, hg1, HS1.out⟩, hb1⟩
end Go.Proofs.YtldcplgfkcionaaDoor
