/- What the reference's Parse does. -/
import Derived.Test.YtldcplgfkcionaaDoorRone
import Derived.Test.YtldcplgfkcionaaDoorParse
import Derived.Test.YtldcplgfkcionaaDoorRefLex
import Derived.Test.YtldcplgfkcionaaDoorPAllRef2
set_option linter.unusedVariables false
set_option linter.unusedSimpArgs false
namespace Go.Proofs.YtldcplgfkcionaaDoor
open Go.RowKit PX Go.Proofs.YtldcplgfkcionaaDoorW.PrintWords
/-- The number, and the place, that the reference tells of an error. -/
def Er.bad : Er → Int
  | .none => 0
  | .code c => c
  | .spot _ c => c
def Er.place : Er → Int
  | .none => -1
  | .code _ => -1
  | .spot a _ => a
theorem below_drewN' {B : Nat} {w w' : World} (h : Below B w w') (n : Nat) : Below B w (w'.drewN n) := by
  induction n generalizing w' with
  | zero => exact h
  | succ n ih =>
    have := ih h.drew
    rw [World.drewN_drew, Nat.add_comm] at this
    exact this
set_option maxHeartbeats 8000000 in
set_option maxRecDepth 100000 in
theorem rparse_any (s : ByteArray) (hs : s.size ≤ 281474976710656) (w : World) (r : List T × Er) (hr : Parsed s.data.toList r) :
    Calls Tryd.prog 22 #[.string s] w fun e w' => ∃ v, e = .returned (.tuple #[v, .int .i64 r.2.bad, .int .i64 r.2.place]) ∧ Toks w' w.heap.size v r.1 ∧ Below w.heap.size w w' := by
  have hsz : s.data.toList.length = s.size := by simp
  by_cases h2 : 200 < s.size
  · have hx : r = ([], .code 3) := by
      have hl : lexed s.data.toList = ([], .code 3) := by rw [lexed, if_pos (by omega)]
      unfold Parsed at hr
      rw [hl] at hr
      exact hr
    subst hx
    clear hr hsz
    go_enter Tryd.func22, Tryd.ntmps22
    go_wp2_with fail
    go_ret3
    exact ⟨_, rfl, Kd.R_nil _ _ _ _ _, Below.refl _ _⟩
  have hx : lexed s.data.toList = match (lexAt s.data.toList 0).2 with
      | none => ((lexAt s.data.toList 0).1, .none)
      | some a => ([], .spot a 2) := by rw [lexed, if_neg (by omega)]; rfl
  obtain ⟨k, hk⟩ := refTokens_f s (by omega)
  have hlx := lexAt_len s.data.toList 0
  rw [hsz] at hlx
  cases hlr : lexAt s.data.toList 0 with
  | mk l o =>
    rw [hlr] at hx hk hlx
    clear hlr
    cases o with
    | some a =>
      have hx' : r = ([], .spot a 2) := by
        unfold Parsed at hr
        rw [hx] at hr
        exact hr
      subst hx'
      have HK := Lib.hid (show PAll.spinetref02_Tokens.f k s = some ([], (a : Int)) from hk)
      clear hx hk hr hsz
      go_enter Tryd.func22, Tryd.ntmps22
      go_wp2_with fail
      refine (PAll.spinetref02_Tokens.calls k s _ _ _ HK.out).mono ?_
      rintro e w1 ⟨v1, rfl, h1, hb1⟩
      clear h1
      go_wp2_with fail
      go_ret3
      exact ⟨_, rfl, Kd.R_nil _ _ _ _ _, hb1⟩
    | none =>
      obtain ⟨R, hR, rfl⟩ : ∃ R, Pr l false 1 st0 R ∧ r = parsedOf l s.data.toList.length R := by
        unfold Parsed at hr
        rw [hx] at hr
        exact hr
      have HK := Lib.hid (show PAll.spinetref02_Tokens.f k s = some (l, -1) from hk)
      have hln : l.length ≤ 200 := by have : l.length ≤ s.size := hlx; omega
      clear hx hk hr hlx
      go_enter Tryd.func22, Tryd.ntmps22
      go_wp2_with fail
      refine (PAll.spinetref02_Tokens.calls k s _ _ _ HK.out).mono ?_
      rintro e w1 ⟨v1, rfl, h1, hb1⟩
      obtain ⟨A1, c1, rfl, hc1, hC1⟩ := Kd.R_reads h1
      have HC1 := Lib.hid hC1
      have HR := Lib.hid hR
      have hle := hR.le (by omega) (Nat.zero_le _)
      have hA1 : ∀ ad, A1 = some ad → ad.block < w1.heap.size := fun ad h => Kd.R_lt h1 ad.block (by rw [h]; rfl)
      clear h1 hC1 hR
      go_wp2_with fail
      refine (((rreads_all l (by omega) (l.length * 8 + 8)).1 1 (by omega) (by omega)) _ _ _ _ _ st0 _ R (rdr_new HC1.out hA1 hc1) (Nat.zero_le _) (Nat.le_refl _) (by simp [st0]) HR.out).mono ?_
      rintro e w2 ⟨⟨u, rfl⟩, v2, hR2, hc2, ho2⟩
      obtain ⟨A2, c2, rfl⟩ := Kd.R_slice hR2.out
      have hb2 : Below w.heap.size w w2 := (hb1.alloc hb1.size _).trans ((hc2.below (B := w.heap.size) (by have := hb1.size; simp; omega) (fun k hk e => by
        rcases e with e | e
        · have := hb1.size; omega
        · cases e)))
      have HR2 := Lib.hid hR2
      have HT2 := Lib.hid (Kd.R_lower hR2.out (show w.heap.size ≤ w1.heap.size + 1 by have := hb1.size; omega))
      obtain ⟨k0, k1, k2, k3, f1, f2, f3⟩ := hR2.cells
      clear hR2 hc2 ho2
      by_cases hlt : R.at_ < l.length
      · have hpo : parsedOf l s.data.toList.length R = ([], .spot (PAll.rd_T40 l R.at_).f2 2) := by
          unfold parsedOf
          rw [if_pos (.inr hlt), if_pos hlt]
        have HPO := Lib.hid hpo
        clear hpo
        obtain ⟨ad, hA, x0, x1, x2⟩ := PAll.at_T40 HR2.out.row R.at_ (by omega) (by omega)
        subst hA
        simp only [Int.toNat_natCast] at x0 x1 x2
        have p1 : (0 ≤ (R.at_ : Int)) = True := eq_true (by omega)
        have p2 : ((R.at_ : Int) < (l.length : Int)) = True := eq_true (by omega)
        cases hbad : R.bad with
        | true =>
          rw [hbad] at k3
          go_wp2_with fail
          go_quiet (fail)
          go_wp2
          go_ret3
          rw [HPO.out]
          exact ⟨_, rfl, Kd.R_nil _ _ _ _ _, below_drewN' hb2 _⟩
        | false =>
          rw [hbad] at k3
          go_wp2_with fail
          go_quiet (fail)
          go_wp2
          go_ret3
          rw [HPO.out]
          exact ⟨_, rfl, Kd.R_nil _ _ _ _ _, below_drewN' hb2 _⟩
      · have p1 : ((R.at_ : Int) < (l.length : Int)) = False := eq_false (by omega)
        cases hbad : R.bad with
        | true =>
          have hpo : parsedOf l s.data.toList.length R = ([], .spot (s.size : Nat) 2) := by
            unfold parsedOf
            rw [if_pos (.inl hbad), if_neg hlt, hsz]
          have HPO := Lib.hid hpo
          clear hpo hsz
          rw [hbad] at k3
          go_wp2_with fail
          go_ret3
          rw [HPO.out]
          exact ⟨_, rfl, Kd.R_nil _ _ _ _ _, hb2⟩
        | false =>
          rw [hbad] at k3
          by_cases h100 : 100 < R.out.length
          · have hpo : parsedOf l s.data.toList.length R = ([], .code 3) := by
              unfold parsedOf
              rw [if_neg (by rw [hbad]; simp; omega), if_pos h100]
            have HPO := Lib.hid hpo
            clear hpo hsz
            go_wp2_with fail
            go_ret3
            rw [HPO.out]
            exact ⟨_, rfl, Kd.R_nil _ _ _ _ _, hb2⟩
          · have hpo : parsedOf l s.data.toList.length R = (R.out, .none) := by
              unfold parsedOf
              rw [if_neg (by rw [hbad]; simp; omega), if_neg h100]
            have HPO := Lib.hid hpo
            clear hpo hsz
            go_wp2_with fail
            go_ret3
            rw [HPO.out]
            exact ⟨_, rfl, HT2.out, hb2⟩
end Go.Proofs.YtldcplgfkcionaaDoor
