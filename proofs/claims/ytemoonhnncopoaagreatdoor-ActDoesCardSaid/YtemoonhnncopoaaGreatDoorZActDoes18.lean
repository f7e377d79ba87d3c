/- Texts of this claim, merged (Rdo, Actup, Actsame, ActArg, ExprArg, ActDoesLaw, LaidE, Laid). -/
import Derived.OpenShut
import Derived.Test.YtemoonhnncopoaaGreatDoorRows
import Derived.LaidSub
import Derived.LaidHandle
import Derived.LaidLaws
import Derived.Lib.LaidU8
import Derived.Deep.DeepLaidRun
import Derived.Test.YtemoonhnncopoaaGreatDoorZActDoes17
import Derived.Test.YtemoonhnncopoaaGreatDoorZActDoes12
import Derived.Test.YtemoonhnncopoaaGreatDoorZActDoes13
import Derived.Test.YtemoonhnncopoaaGreatDoorZActDoes14
import Derived.Test.YtemoonhnncopoaaGreatDoorZActDoes15
import Derived.Test.YtemoonhnncopoaaGreatDoorZActDoes16
section
set_option linter.unusedVariables false
set_option linter.unusedSimpArgs false
namespace Go.Proofs.YtemoonhnncopoaaGreatDoor
open Go.RowKit Go.Proofs.YtemoonhnncopoaaGreatDoorW.PrintWords
open PX (T V)
def InR (l : List Int) : Prop := ∀ x ∈ l, -9223372036854775808 ≤ x ∧ x ≤ 9223372036854775807
theorem val_wide (t : ByteArray) (env : List Int) (he : InR env) : -9223372036854775808 ≤ (valT t env).1 ∧ (valT t env).1 ≤ 9223372036854775807 := by
  show -9223372036854775808 ≤ (ofR (parseT t) env).1.2 ∧ (ofR (parseT t) env).1.2 ≤ 9223372036854775807
  have hw := parsed_wide _ _ (parseT_ok t)
  unfold ofR
  cases hx : (parseT t).2 with
  | none =>
    simp only
    have := runR_ok (lookV false 0 env) false (lookV_ok false 0 env he) (parseT t).1 hw
    cases hv : runR (lookV false 0 env) false (parseT t).1 with
    | ok v => rw [hv] at this; exact this.2
    | error c => simp
  | code c => simp
  | spot a c => simp
theorem one_wide (s : Ds) (a : Ac) (h : InR s.env) : InR (oneA s a).1.env := by
  unfold oneA
  repeat' split
  all_goals first
    | exact h
    | (intro x hx
       rcases List.mem_or_eq_of_mem_set hx with hx | rfl
       · exact h x hx
       · exact val_wide _ _ h)
theorem one_env' (s : Ds) (a : Ac) : (oneA s a).1.env.length = s.env.length := by
  unfold oneA
  repeat' split
  all_goals simp
theorem bad_ne {s : List UInt8} {r : List T × Er} (h : Parsed s r) (env : List Int) (he : InR env) : (ofR r env).2 = .none ∨ (ofR r env).2.bad ≠ 0 := by
  obtain ⟨o1, o2⟩ := ofR_ok h env he
  have hs := parsed_spot s r h
  cases hx : (ofR r env).2 with
  | none => exact .inl rfl
  | code c => have := o1 c hx; exact .inr (by simp only [Er.bad]; omega)
  | spot a c =>
    have hr : r.2 = .spot a c := by
      unfold ofR at hx
      cases hy : r.2 with
      | none =>
        rw [hy] at hx
        simp only at hx
        cases hv : runR (lookV false 0 env) false r.1 <;> rw [hv] at hx <;> cases hx
      | code d => rw [hy] at hx; cases hx
      | spot b d => rw [hy] at hx; exact hx
    have := hs a c hr
    exact .inr (by simp only [Er.bad]; omega)
theorem rof_anyn (s : ByteArray) (hs : s.size ≤ 281474976710656) (E : Option Addr) (ecap : Nat) (env : List Int) (n : Nat) (hn : env.length = n) (hen : env.length ≤ 1000000) (hec : env.length ≤ ecap) (he : ∀ x ∈ env, -9223372036854775808 ≤ x ∧ x ≤ 9223372036854775807) (w : World) (hE : NumsC w E env.length env) (r : List T × Er) (hr : Parsed s.data.toList r) :
    Calls Tryz.prog 22 #[.string s, .slice E n ecap] w fun e w' => e = .returned (.tuple #[agV (ofR r env).1, .int .i64 (ofR r env).2.bad, .int .i64 (ofR r env).2.place]) ∧ Below w.heap.size w w' := by
  subst hn
  exact rof_any s hs E ecap env hen hec he w hE r hr
structure Rst (B : Nat) (w : World) (s : Ds) (ve vo vi : Value) : Prop where
  env : EnvR w B ve s.env
  out : OutR w B vo s.out
  inn : InnR w B vi s.inn
  le : B ≤ w.heap.size
section
variable {B : Nat} {w w' : World} {s : Ds} {ve vo vi : Value}
theorem Rst.below (h : Rst B w s ve vo vi) (hb : Below w.heap.size w w') : Rst B w' s ve vo vi :=
  ⟨Kd.R_below h.env hb, Kd.R_below h.out hb, Kd.R_below h.inn hb, Nat.le_trans h.le hb.size⟩
theorem Rst.putOut (h : Rst B w s ve vo vi) {w1 : World} {v1 : Value} {xs : List Ou} (hg : w.grownBy w1 vo.ownBlock) (hT : OutR w1 B v1 xs) : Rst B w1 { s with out := xs } ve v1 vi :=
  ⟨Kd.R_over h.env h.out (int_q (by decide)) hg, hT, Kd.R_over h.inn h.out (int_q (by decide)) hg, Nat.le_trans h.le hg.size⟩
theorem Rst.putInn (h : Rst B w s ve vo vi) {w1 : World} {v1 : Value} {xs : List Int} (hg : w.grownBy w1 vi.ownBlock) (hT : InnR w1 B v1 xs) : Rst B w1 { s with inn := xs } ve vo v1 :=
  ⟨Kd.R_over h.env h.inn (int_q (by decide)) hg, Kd.R_over h.out h.inn (out_q (by decide)) hg, hT, Nat.le_trans h.le hg.size⟩
theorem Rst.putEnv {e cap : Nat} (h : Rst B w s (.slice (some ⟨e, 0, none⟩) s.env.length cap) vo vi) (i n : Int) :
    Rst B (w.setCell ⟨e, i.toNat, none⟩ (.int .i64 n)) { s with env := s.env.set i.toNat n } (.slice (some ⟨e, 0, none⟩) s.env.length cap) vo vi := by
  obtain ⟨h1, hg⟩ := Kd.R_put h.env i n
  have hg' : w.grownBy (w.setCell ⟨e, i.toNat, none⟩ (.int .i64 n)) (Value.slice (some ⟨e, 0, none⟩) s.env.length cap).ownBlock := hg
  exact ⟨h1, Kd.R_over h.out h.env (out_q (by decide)) hg', Kd.R_over h.inn h.env (int_q (by decide)) hg', Nat.le_trans h.le hg.size⟩
end
set_option maxHeartbeats 16000000 in
set_option maxRecDepth 100000 in
theorem rdo_any (A : Option Addr) (ca : Nat) (l : List Ac) (E : Option Addr) (ecap : Nat) (env : List Int) (w : World) (hA : ActsC w A l.length l) (hca : l.length ≤ ca) (hE : NumsC w E env.length env) (hec : env.length ≤ ecap) (hl : l.length ≤ 1000) (hle : env.length ≤ 1000) (hen : InR env) (ht : ∀ a ∈ l, a.f3.size ≤ 281474976710656) :
    Calls Tryz.prog 16 #[.slice A l.length ca, .slice E env.length ecap] w fun e w' => ∃ ve vo vi, e = .returned (.tuple #[ve, vo, vi]) ∧ EnvR w' w.heap.size ve (doA ⟨env, [], []⟩ l).env ∧ OutR w' w.heap.size vo (doA ⟨env, [], []⟩ l).out ∧ InnR w' w.heap.size vi (doA ⟨env, [], []⟩ l).inn ∧ Below w.heap.size w w' := by
  have HA := Lib.hid hA
  have HE0 := Lib.hid hE
  have HT := Lib.hid ht
  clear hA ht hE
  go_enter Tryz.func16, Tryz.ntmps16
  go_wp2_with (at_builtin; refine Kd.R_append_rows (Kd.int .i64) (Rr := (Kd.int .i64).K w) (w0 := w) w.heap.size rfl (.tmp 15) (.tmp 16) 23 2 (.int .i64 0) 8 rfl Tryz.underlying23 (by kernel_rfl) rfl (by decide) (by omega) (.slice (some ⟨w.heap.size, 0, none⟩) 0 0) [] env E env.length ecap (fun _ => True) (fun _ => False) rfl rfl ?aA ?aB (fun _ _ h => h) (fun _ h => h.elim) (fun _ _ => trivial) ?aC ?aD ?aE ?_)
  case aA => exact Kd.R_of_own (enc := Value.int .i64) (h1 := fun _ => rfl) (own_lit_of (enc := Value.int .i64) w w.heap.size 2 [] (Nat.le_refl _) (by simp)) (fun _ _ => trivial)
  case aB => exact Kd.C_alloc HE0.out _
  case aC => exact (Below.refl _ w).alloc (Nat.le_refl _) _
  case aD => simp
  case aE => simp; omega
  intro ve w1 hv hb1 _ _
  have hv : EnvR w1 w.heap.size ve env := hv
  obtain ⟨A0, c0, rfl⟩ := Kd.R_slice hv
  have HD0 : Hid (Rst w.heap.size w1 ⟨env, [], []⟩ (.slice A0 env.length c0) (.slice none 0 0) (.slice none 0 0)) := Lib.hid ⟨hv, Kd.R_nil _ _ _ _ _, Kd.R_nil _ _ _ _ _, hb1.size⟩
  have HB0 := Lib.hid hb1
  clear hv hb1
  have hL := fun (a : Ac) (s : Ds) (l : List Ac) => show doA s (a :: l) = if (oneA s a).2 then doA (oneA s a).1 l else { (oneA s a).1 with inn := (oneA s a).1.inn ++ [1001] } from rfl
  have HL := Lib.hid hL
  clear hL
  go_wp2_with fail
  go_loopw [8, 9, 10] (fun vo vi i wr => ∃ (q : Nat) (s : Ds) (Ao : Option Addr) (co : Nat) (Ai : Option Addr) (ci : Nat), i = .int .i64 q ∧ q ≤ l.length ∧ vo = .slice Ao s.out.length co ∧ vi = .slice Ai s.inn.length ci ∧ Hid (Rst w.heap.size wr s (.slice A0 env.length c0) (.slice Ao s.out.length co) (.slice Ai s.inn.length ci)) ∧ Hid (Below w.heap.size w wr) ∧ Hid (s.out.length ≤ q ∧ s.inn.length ≤ q ∧ s.env.length = env.length ∧ InR s.env) ∧ Hid (doA ⟨env, [], []⟩ l = doA s (l.drop q))) (fun _ _ i _ => l.length - (intOf i).toNat)
  case atStart => exact ⟨0, ⟨env, [], []⟩, _, _, _, _, rfl, by omega, rfl, rfl, HD0, HB0, Lib.hid ⟨by simp, by simp, rfl, hen⟩, Lib.hid rfl⟩
  case round =>
    clear HD0 HB0
    obtain ⟨q, s, Ao, co, Ai, ci, rfl, hq, rfl, rfl, HD, HB, HS, HE⟩ := hrel
    by_cases hlt : q < l.length
    · obtain ⟨ad, rfl, a0, a1, a2, a3⟩ := acts_at (Kd.C_below HA.out HB.out) q hlt
      have hds : l.drop q = l[q] :: l.drop (q + 1) := List.drop_eq_getElem_cons hlt
      have HE2 := HE.out
      rw [hds, HL.out] at HE2
      have HT2 := Lib.hid (HT.out l[q] (List.getElem_mem hlt))
      have HLn := Lib.hid (one_len s l[q])
      have HWd := Lib.hid (one_wide s l[q] HS.out.2.2.2)
      have HEl := Lib.hid (one_env' s l[q])
      have p1 : ((q : Int) < (l.length : Int)) = True := eq_true (by omega)
      clear hds HE
      generalize l[q] = a at *
      obtain ⟨k, n, m, t⟩ := a
      have HE := Lib.hid HE2
      clear HE2
      simp only at a0 a1 a2 a3
      have hbA := HB.out.alloc HD.out.le (.cells #[.int .i64 k, .int .i64 n, .int .i64 m, .string t] 80)
      have hd1 := HD.out.below ((Below.refl _ wr).alloc (Nat.le_refl _) (.cells #[.int .i64 k, .int .i64 n, .int .i64 m, .string t] 80))
      have hac := blk_new wr (.cells #[.int .i64 k, .int .i64 n, .int .i64 m, .string t] 80)
      have HD1 := Lib.hid hd1
      have HB1 := Lib.hid hbA
      have HAC := Lib.hid hac
      have hli : s.inn.length < 1000000 := by have := HS.out; omega
      have hlo : s.out.length < 1000000 := by have := HS.out; omega
      clear hd1 hbA hac HD HB
      by_cases hk2 : k = 2
      · subst hk2
        have hone : oneA s ⟨2, n, m, t⟩ = ({ s with inn := s.inn ++ [n] }, true) := rfl
        have HLN : Hid (({ s with inn := s.inn ++ [n] } : Ds).out.length ≤ q + 1 ∧ ({ s with inn := s.inn ++ [n] } : Ds).inn.length ≤ q + 1 ∧ ({ s with inn := s.inn ++ [n] } : Ds).env.length = env.length ∧ InR ({ s with inn := s.inn ++ [n] } : Ds).env) := Lib.hid (by
          have h1 := HS.out; have h2 := HLn.out; have h3 := HWd.out; have h4 := HEl.out
          rw [hone] at h2 h3 h4
          try simp only at h2 h3 h4
          exact ⟨by simp only [List.length_append, List.length_singleton]; omega, by simp only [List.length_append, List.length_singleton]; omega, by first | omega | (simp only at h4 ⊢; omega), h3⟩)
        have HE3 : Hid (doA ⟨env, [], []⟩ l = doA ({ s with inn := s.inn ++ [n] } : Ds) (l.drop (q + 1))) := Lib.hid (by have := HE.out; rw [hone, if_pos rfl] at this; exact this)
        clear hone
        go_wp2_with (at_builtin; refine inn_append rfl (.tmp 31) (.tmp 34) rfl w.heap.size _ s.inn n rfl _ rfl (by simp) HD1.out.inn HD1.out.le hli ?_)
        intro v1 w4 hT hb1 hg
        have hb2 := HB1.out.trans hb1
        have hfin := HD1.out.putInn hg hT
        obtain ⟨A1, cap1, rfl⟩ := Kd.R_slice hT
        rw [List.length_append, List.length_singleton] at hfin ⊢
        have HF := Lib.hid hfin
        have HB4 := Lib.hid hb2
        have hac4 := (hg.block wr.heap.size (lt_of_block HAC.out) (Kd.R_ne HD1.out.inn HAC.out (by decide))).trans HAC.out
        have x0 : w4.cell? ⟨wr.heap.size, 0, none⟩ = some _ := blk_cell hac4 0
        clear hac4 hT hb1 hg hb2 hfin
        go_wp2_with fail
        go_roundw
        case rel => exact ⟨q + 1, { s with inn := s.inn ++ [n] }, Ao, co, A1, cap1, by go_num, by omega, rfl, by simp, Lib.hid (by have := HF.out; simpa using this), HB4, HLN, HE3⟩
        case measure => simp [intOf]; omega
      by_cases hk4 : k = 4
      · subst hk4
        have hone : oneA s ⟨4, n, m, t⟩ = ({ s with out := s.out ++ [⟨4, 0, 0, n⟩] }, true) := rfl
        have HLN : Hid (({ s with out := s.out ++ [⟨4, 0, 0, n⟩] } : Ds).out.length ≤ q + 1 ∧ ({ s with out := s.out ++ [⟨4, 0, 0, n⟩] } : Ds).inn.length ≤ q + 1 ∧ ({ s with out := s.out ++ [⟨4, 0, 0, n⟩] } : Ds).env.length = env.length ∧ InR ({ s with out := s.out ++ [⟨4, 0, 0, n⟩] } : Ds).env) := Lib.hid (by
          have h1 := HS.out; have h2 := HLn.out; have h3 := HWd.out; have h4 := HEl.out
          rw [hone] at h2 h3 h4
          try simp only at h2 h3 h4
          exact ⟨by simp only [List.length_append, List.length_singleton]; omega, by simp only [List.length_append, List.length_singleton]; omega, by first | omega | (simp only at h4 ⊢; omega), h3⟩)
        have HE3 : Hid (doA ⟨env, [], []⟩ l = doA ({ s with out := s.out ++ [⟨4, 0, 0, n⟩] } : Ds) (l.drop (q + 1))) := Lib.hid (by have := HE.out; rw [hone, if_pos rfl] at this; exact this)
        clear hone
        go_wp2_with (at_builtin; refine out_append rfl (.tmp 39) (.tmp 43) rfl w.heap.size _ s.out 4 0 0 n rfl _ rfl (by simp) HD1.out.out HD1.out.le hlo ?_)
        intro v1 w4 hT hb1 hg
        have hb2 := HB1.out.trans hb1
        have hfin := HD1.out.putOut hg hT
        obtain ⟨A1, cap1, rfl⟩ := Kd.R_slice hT
        rw [List.length_append, List.length_singleton] at hfin ⊢
        have HF := Lib.hid hfin
        have HB4 := Lib.hid hb2
        have hac4 := (hg.block wr.heap.size (lt_of_block HAC.out) (Kd.R_ne HD1.out.out HAC.out (by decide))).trans HAC.out
        have x0 : w4.cell? ⟨wr.heap.size, 0, none⟩ = some _ := blk_cell hac4 0
        clear hac4 hT hb1 hg hb2 hfin
        go_wp2_with fail
        go_roundw
        case rel => exact ⟨q + 1, { s with out := s.out ++ [⟨4, 0, 0, n⟩] }, A1, cap1, Ai, ci, by go_num, by omega, by simp, rfl, Lib.hid (by have := HF.out; simpa using this), HB4, HLN, HE3⟩
        case measure => simp [intOf]; omega
      have e2 : (k == 2) = false := by simp [hk2]
      have e4 : (k == 4) = false := by simp [hk4]
      by_cases hk : ¬ (k = 1 ∨ k = 3 ∨ k = 5)
      · have hone : oneA s ⟨k, n, m, t⟩ = (s, true) := by unfold oneA; simp only; rw [if_neg hk2, if_neg hk4, if_neg hk]
        have HLN : Hid ((s : Ds).out.length ≤ q + 1 ∧ (s : Ds).inn.length ≤ q + 1 ∧ (s : Ds).env.length = env.length ∧ InR (s : Ds).env) := Lib.hid (by
          have h1 := HS.out; have h2 := HLn.out; have h3 := HWd.out; have h4 := HEl.out
          rw [hone] at h2 h3 h4
          try simp only at h2 h3 h4
          exact ⟨by omega, by omega, by first | omega | (simp only at h4 ⊢; omega), h3⟩)
        have HE3 : Hid (doA ⟨env, [], []⟩ l = doA (s : Ds) (l.drop (q + 1))) := Lib.hid (by have := HE.out; rw [hone, if_pos rfl] at this; exact this)
        clear hone
        have e1 : (k == 1) = false := by simp; omega
        have e3 : (k == 3) = false := by simp; omega
        have e5 : (k == 5) = false := by simp; omega
        have n1 : (k != 1) = true := by simp; omega
        have n3 : (k != 3) = true := by simp; omega
        have n5 : (k != 5) = true := by simp; omega
        clear hk hk2 hk4
        go_wp2_with fail
        go_roundw
        case rel => exact ⟨q + 1, s, Ao, co, Ai, ci, by go_num, by omega, rfl, rfl, Lib.hid (by have := HD1.out; simpa using this), HB1, HLN, HE3⟩
        case measure => simp [intOf]; omega
      have hk' : k = 1 ∨ k = 3 ∨ k = 5 := Classical.not_not.1 hk
      have hval : valT t s.env = ((ofR (parseT t) s.env).1.2, (ofR (parseT t) s.env).2.ok && (ofR (parseT t) s.env).1.1 == 1) := rfl
      have HV := Lib.hid hval
      have HBD := Lib.hid (bad_ne (parseT_ok t) s.env HS.out.2.2.2)
      obtain ⟨hn1, hn2, hC⟩ := Kd.R_reads' HD1.out.env
      have HRO := Lib.hid (rof_anyn t HT2.out A0 c0 s.env env.length HS.out.2.2.1 (by have := HS.out; omega) (by have := HS.out; omega) HS.out.2.2.2 _ hC (parseT t) (parseT_ok t))
      clear hval hk hk2 hk4 hn1 hn2 hC
      generalize ofR (parseT t) s.env = r at HV HBD HRO
      obtain ⟨⟨vk, vn⟩, er⟩ := r
      by_cases hbad : er.ok = false
      · have hb0 : er.bad ≠ 0 := by
          rcases HBD.out with h | h
          · simp only at h; rw [h] at hbad; cases hbad
          · exact h
        have q1 : (er.bad == 0) = false := by simp [hb0]
        rcases hk' with rfl | rfl | rfl
        · have hone : oneA s ⟨1, n, m, t⟩ = (s, false) := by unfold oneA; simp only; rw [if_neg (by decide), if_neg (by decide), if_pos (by decide), if_neg (by rw [HV.out]; simp [*])]
          go_wp2_with fail
          refine HRO.out.mono ?_
          rintro e w3 ⟨rfl, hb3⟩
          have hac3 := blk_alloc (.cells #[.int .i64 vk, .int .i64 vn] 35) ((hb3.block _ (lt_of_block HAC.out)).trans HAC.out)
          have hvc := blk_new w3 (.cells #[.int .i64 vk, .int .i64 vn] 35)
          have hal := (below_then (B := wr.heap.size + 1) (Below.refl _ _) (by simp) hb3).alloc (by have := hb3.size; simp at this; omega) (.cells #[.int .i64 vk, .int .i64 vn] 35)
          have HD4 := Lib.hid (HD1.out.below (w' := w3.alloc (.cells #[.int .i64 vk, .int .i64 vn] 35)) (by have := hal; simpa using this))
          have HB4 := Lib.hid (HB1.out.trans (hal.mono (by have := HB1.out.size; simp at this ⊢; omega)))
          simp only [agV]
          have x0 : (w3.alloc (.cells #[.int .i64 vk, .int .i64 vn] 35)).cell? ⟨wr.heap.size, 0, none⟩ = some _ := blk_cell hac3 0
          have x1 : (w3.alloc (.cells #[.int .i64 vk, .int .i64 vn] 35)).cell? ⟨wr.heap.size, 1, none⟩ = some _ := blk_cell hac3 1
          have x2 : (w3.alloc (.cells #[.int .i64 vk, .int .i64 vn] 35)).cell? ⟨wr.heap.size, 2, none⟩ = some _ := blk_cell hac3 2
          clear hac3 hvc hal hb3 HB1 HD1 HAC
          have HE4 : Hid (doA ⟨env, [], []⟩ l = { s with inn := s.inn ++ [1001] }) := Lib.hid (by have := HE.out; rw [hone, if_neg (by simp)] at this; exact this)
          clear hone
          go_wp2_with (at_builtin; refine inn_append rfl (.tmp 92) (.tmp 93) rfl w.heap.size _ s.inn 1001 rfl _ rfl (by simp) HD4.out.inn HD4.out.le hli ?_)
          intro v1 w4 hT hb1 hg
          have hb2 := HB4.out.trans hb1
          have hfin := HD4.out.putInn hg hT
          obtain ⟨A1, cap1, rfl⟩ := Kd.R_slice hT
          rw [List.length_append, List.length_singleton] at hfin ⊢
          have HF := Lib.hid hfin
          have HB5 := Lib.hid hb2
          clear hT hb1 hg hb2 hfin
          go_wp2_with fail
          go_ret3
          rw [HE4.out]
          exact ⟨_, _, _, rfl, HF.out.env, HF.out.out, HF.out.inn, HB5.out⟩
        · have hone : oneA s ⟨3, n, m, t⟩ = (s, false) := by unfold oneA; simp only; rw [if_neg (by decide), if_neg (by decide), if_pos (by decide), if_neg (by rw [HV.out]; simp [*])]
          go_wp2_with fail
          refine HRO.out.mono ?_
          rintro e w3 ⟨rfl, hb3⟩
          have hac3 := blk_alloc (.cells #[.int .i64 vk, .int .i64 vn] 35) ((hb3.block _ (lt_of_block HAC.out)).trans HAC.out)
          have hvc := blk_new w3 (.cells #[.int .i64 vk, .int .i64 vn] 35)
          have hal := (below_then (B := wr.heap.size + 1) (Below.refl _ _) (by simp) hb3).alloc (by have := hb3.size; simp at this; omega) (.cells #[.int .i64 vk, .int .i64 vn] 35)
          have HD4 := Lib.hid (HD1.out.below (w' := w3.alloc (.cells #[.int .i64 vk, .int .i64 vn] 35)) (by have := hal; simpa using this))
          have HB4 := Lib.hid (HB1.out.trans (hal.mono (by have := HB1.out.size; simp at this ⊢; omega)))
          simp only [agV]
          have x0 : (w3.alloc (.cells #[.int .i64 vk, .int .i64 vn] 35)).cell? ⟨wr.heap.size, 0, none⟩ = some _ := blk_cell hac3 0
          have x1 : (w3.alloc (.cells #[.int .i64 vk, .int .i64 vn] 35)).cell? ⟨wr.heap.size, 1, none⟩ = some _ := blk_cell hac3 1
          have x2 : (w3.alloc (.cells #[.int .i64 vk, .int .i64 vn] 35)).cell? ⟨wr.heap.size, 2, none⟩ = some _ := blk_cell hac3 2
          clear hac3 hvc hal hb3 HB1 HD1 HAC
          have HE4 : Hid (doA ⟨env, [], []⟩ l = { s with inn := s.inn ++ [1001] }) := Lib.hid (by have := HE.out; rw [hone, if_neg (by simp)] at this; exact this)
          clear hone
          go_wp2_with (at_builtin; refine inn_append rfl (.tmp 92) (.tmp 93) rfl w.heap.size _ s.inn 1001 rfl _ rfl (by simp) HD4.out.inn HD4.out.le hli ?_)
          intro v1 w4 hT hb1 hg
          have hb2 := HB4.out.trans hb1
          have hfin := HD4.out.putInn hg hT
          obtain ⟨A1, cap1, rfl⟩ := Kd.R_slice hT
          rw [List.length_append, List.length_singleton] at hfin ⊢
          have HF := Lib.hid hfin
          have HB5 := Lib.hid hb2
          clear hT hb1 hg hb2 hfin
          go_wp2_with fail
          go_ret3
          rw [HE4.out]
          exact ⟨_, _, _, rfl, HF.out.env, HF.out.out, HF.out.inn, HB5.out⟩
        · have hone : oneA s ⟨5, n, m, t⟩ = (s, false) := by unfold oneA; simp only; rw [if_neg (by decide), if_neg (by decide), if_pos (by decide), if_neg (by rw [HV.out]; simp [*])]
          go_wp2_with fail
          refine HRO.out.mono ?_
          rintro e w3 ⟨rfl, hb3⟩
          have hac3 := blk_alloc (.cells #[.int .i64 vk, .int .i64 vn] 35) ((hb3.block _ (lt_of_block HAC.out)).trans HAC.out)
          have hvc := blk_new w3 (.cells #[.int .i64 vk, .int .i64 vn] 35)
          have hal := (below_then (B := wr.heap.size + 1) (Below.refl _ _) (by simp) hb3).alloc (by have := hb3.size; simp at this; omega) (.cells #[.int .i64 vk, .int .i64 vn] 35)
          have HD4 := Lib.hid (HD1.out.below (w' := w3.alloc (.cells #[.int .i64 vk, .int .i64 vn] 35)) (by have := hal; simpa using this))
          have HB4 := Lib.hid (HB1.out.trans (hal.mono (by have := HB1.out.size; simp at this ⊢; omega)))
          simp only [agV]
          have x0 : (w3.alloc (.cells #[.int .i64 vk, .int .i64 vn] 35)).cell? ⟨wr.heap.size, 0, none⟩ = some _ := blk_cell hac3 0
          have x1 : (w3.alloc (.cells #[.int .i64 vk, .int .i64 vn] 35)).cell? ⟨wr.heap.size, 1, none⟩ = some _ := blk_cell hac3 1
          have x2 : (w3.alloc (.cells #[.int .i64 vk, .int .i64 vn] 35)).cell? ⟨wr.heap.size, 2, none⟩ = some _ := blk_cell hac3 2
          clear hac3 hvc hal hb3 HB1 HD1 HAC
          have HE4 : Hid (doA ⟨env, [], []⟩ l = { s with inn := s.inn ++ [1001] }) := Lib.hid (by have := HE.out; rw [hone, if_neg (by simp)] at this; exact this)
          clear hone
          go_wp2_with (at_builtin; refine inn_append rfl (.tmp 92) (.tmp 93) rfl w.heap.size _ s.inn 1001 rfl _ rfl (by simp) HD4.out.inn HD4.out.le hli ?_)
          intro v1 w4 hT hb1 hg
          have hb2 := HB4.out.trans hb1
          have hfin := HD4.out.putInn hg hT
          obtain ⟨A1, cap1, rfl⟩ := Kd.R_slice hT
          rw [List.length_append, List.length_singleton] at hfin ⊢
          have HF := Lib.hid hfin
          have HB5 := Lib.hid hb2
          clear hT hb1 hg hb2 hfin
          go_wp2_with fail
          go_ret3
          rw [HE4.out]
          exact ⟨_, _, _, rfl, HF.out.env, HF.out.out, HF.out.inn, HB5.out⟩
      have hnone : er = .none := by cases er <;> first | rfl | (exact absurd rfl hbad)
      subst hnone
      clear hbad HBD
      by_cases hvk : vk = 1
      · subst hvk
        rcases hk' with rfl | rfl | rfl
        · by_cases hin : n < 0 ∨ (s.env.length : Int) ≤ n
          · have hone : oneA s ⟨1, n, m, t⟩ = (s, false) := by unfold oneA; simp only; rw [if_neg (by decide), if_neg (by decide), if_pos (by decide), if_pos (by rw [HV.out]; rfl), if_neg (by decide), if_neg (by decide), if_pos hin]
            have hel := HS.out.2.2.1
            have hn2 : decide (n < 0) = true ∨ decide (n < 0) = false ∧ decide (n ≥ (env.length : Int)) = true := by
              rcases hin with h | h
              · exact .inl (decide_eq_true h)
              · by_cases h0 : n < 0
                · exact .inl (decide_eq_true h0)
                · exact .inr ⟨decide_eq_false h0, decide_eq_true (by omega)⟩
            clear hel hin
            go_wp2_with fail
            refine HRO.out.mono ?_
            rintro e w3 ⟨rfl, hb3⟩
            have hac3 := blk_alloc (.cells #[.int .i64 1, .int .i64 vn] 35) ((hb3.block _ (lt_of_block HAC.out)).trans HAC.out)
            have hvc := blk_new w3 (.cells #[.int .i64 1, .int .i64 vn] 35)
            have hal := (below_then (B := wr.heap.size + 1) (Below.refl _ _) (by simp) hb3).alloc (by have := hb3.size; simp at this; omega) (.cells #[.int .i64 1, .int .i64 vn] 35)
            have HD4 := Lib.hid (HD1.out.below (w' := w3.alloc (.cells #[.int .i64 1, .int .i64 vn] 35)) (by have := hal; simpa using this))
            have HB4 := Lib.hid (HB1.out.trans (hal.mono (by have := HB1.out.size; simp at this ⊢; omega)))
            simp only [agV]
            have x0 : (w3.alloc (.cells #[.int .i64 1, .int .i64 vn] 35)).cell? ⟨wr.heap.size, 0, none⟩ = some _ := blk_cell hac3 0
            have x1 : (w3.alloc (.cells #[.int .i64 1, .int .i64 vn] 35)).cell? ⟨wr.heap.size, 1, none⟩ = some _ := blk_cell hac3 1
            have x2 : (w3.alloc (.cells #[.int .i64 1, .int .i64 vn] 35)).cell? ⟨wr.heap.size, 2, none⟩ = some _ := blk_cell hac3 2
            clear hac3 hvc hal hb3 HB1 HD1 HAC
            simp only [Er.bad, Er.place]
            rcases hn2 with q2 | ⟨q2, q3⟩
            · have HE4 : Hid (doA ⟨env, [], []⟩ l = { s with inn := s.inn ++ [1001] }) := Lib.hid (by have := HE.out; rw [hone, if_neg (by simp)] at this; exact this)
              clear hone
              go_wp2_with (at_builtin; refine inn_append rfl (.tmp 92) (.tmp 93) rfl w.heap.size _ s.inn 1001 rfl _ rfl (by simp) HD4.out.inn HD4.out.le hli ?_)
              intro v1 w4 hT hb1 hg
              have hb2 := HB4.out.trans hb1
              have hfin := HD4.out.putInn hg hT
              obtain ⟨A1, cap1, rfl⟩ := Kd.R_slice hT
              rw [List.length_append, List.length_singleton] at hfin ⊢
              have HF := Lib.hid hfin
              have HB5 := Lib.hid hb2
              clear hT hb1 hg hb2 hfin
              go_wp2_with fail
              go_ret3
              rw [HE4.out]
              exact ⟨_, _, _, rfl, HF.out.env, HF.out.out, HF.out.inn, HB5.out⟩
            · have HE4 : Hid (doA ⟨env, [], []⟩ l = { s with inn := s.inn ++ [1001] }) := Lib.hid (by have := HE.out; rw [hone, if_neg (by simp)] at this; exact this)
              clear hone
              go_wp2_with (at_builtin; refine inn_append rfl (.tmp 92) (.tmp 93) rfl w.heap.size _ s.inn 1001 rfl _ rfl (by simp) HD4.out.inn HD4.out.le hli ?_)
              intro v1 w4 hT hb1 hg
              have hb2 := HB4.out.trans hb1
              have hfin := HD4.out.putInn hg hT
              obtain ⟨A1, cap1, rfl⟩ := Kd.R_slice hT
              rw [List.length_append, List.length_singleton] at hfin ⊢
              have HF := Lib.hid hfin
              have HB5 := Lib.hid hb2
              clear hT hb1 hg hb2 hfin
              go_wp2_with fail
              go_ret3
              rw [HE4.out]
              exact ⟨_, _, _, rfl, HF.out.env, HF.out.out, HF.out.inn, HB5.out⟩
          · have hone : oneA s ⟨1, n, m, t⟩ = ({ s with env := s.env.set n.toNat vn }, true) := by unfold oneA; simp only; rw [if_neg (by decide), if_neg (by decide), if_pos (by decide), if_pos (by rw [HV.out]; rfl), if_neg (by decide), if_neg (by decide), if_neg hin, HV.out]
            have HLN : Hid (({ s with env := s.env.set n.toNat vn } : Ds).out.length ≤ q + 1 ∧ ({ s with env := s.env.set n.toNat vn } : Ds).inn.length ≤ q + 1 ∧ ({ s with env := s.env.set n.toNat vn } : Ds).env.length = env.length ∧ InR ({ s with env := s.env.set n.toNat vn } : Ds).env) := Lib.hid (by
              have h1 := HS.out; have h2 := HLn.out; have h3 := HWd.out; have h4 := HEl.out
              rw [hone] at h2 h3 h4
              try simp only at h2 h3 h4
              exact ⟨by simp only; omega, by simp only; omega, by first | omega | (simp only at h4 ⊢; omega), h3⟩)
            have HE3 : Hid (doA ⟨env, [], []⟩ l = doA ({ s with env := s.env.set n.toNat vn } : Ds) (l.drop (q + 1))) := Lib.hid (by have := HE.out; rw [hone, if_pos rfl] at this; exact this)
            clear hone
            have hel := HS.out.2.2.1
            have q2 : decide (n < 0) = false := decide_eq_false (by omega)
            have q3 : decide (n ≥ (env.length : Int)) = false := decide_eq_false (by omega)
            obtain ⟨j, rfl, hj⟩ : ∃ j : Nat, n = (j : Int) ∧ j < s.env.length := ⟨n.toNat, by omega, by omega⟩
            have p2 : ((j : Int) < (env.length : Int)) = True := eq_true (by omega)
            have p4 : ((env.length : Int) ≤ (j : Int)) = False := eq_false (by omega)
            have p5 : (env.length ≤ j) = False := eq_false (by omega)
            clear hin
            go_wp2_with fail
            refine HRO.out.mono ?_
            rintro e w3 ⟨rfl, hb3⟩
            have hac3 := blk_alloc (.cells #[.int .i64 1, .int .i64 vn] 35) ((hb3.block _ (lt_of_block HAC.out)).trans HAC.out)
            have hvc := blk_new w3 (.cells #[.int .i64 1, .int .i64 vn] 35)
            have hal := (below_then (B := wr.heap.size + 1) (Below.refl _ _) (by simp) hb3).alloc (by have := hb3.size; simp at this; omega) (.cells #[.int .i64 1, .int .i64 vn] 35)
            have HD4 := Lib.hid (HD1.out.below (w' := w3.alloc (.cells #[.int .i64 1, .int .i64 vn] 35)) (by have := hal; simpa using this))
            have HB4 := Lib.hid (HB1.out.trans (hal.mono (by have := HB1.out.size; simp at this ⊢; omega)))
            simp only [agV]
            have x0 : (w3.alloc (.cells #[.int .i64 1, .int .i64 vn] 35)).cell? ⟨wr.heap.size, 0, none⟩ = some _ := blk_cell hac3 0
            have x1 : (w3.alloc (.cells #[.int .i64 1, .int .i64 vn] 35)).cell? ⟨wr.heap.size, 1, none⟩ = some _ := blk_cell hac3 1
            have x2 : (w3.alloc (.cells #[.int .i64 1, .int .i64 vn] 35)).cell? ⟨wr.heap.size, 2, none⟩ = some _ := blk_cell hac3 2
            clear hac3 hvc hal hb3 HB1 HD1 HAC
            simp only [Er.bad, Er.place]
            obtain ⟨e0, cap, hA0, he0, _⟩ := Kd.R_form HD4.out.env (by omega)
            rw [hel] at hA0
            injection hA0 with hA0 _ hcp
            subst hA0 hcp
            have hD4' := HD4.out
            rw [← hel] at hD4'
            have hcell := Kd.R_cell (0 : Int) hD4'.env (j : Int) (by omega) (by omega)
            obtain ⟨k0, k1⟩ := hcell
            rw [Int.toNat_natCast] at k0 k1
            have hfin := hD4'.putEnv (j : Int) vn
            rw [hel, Int.toNat_natCast] at hfin
            have HF := Lib.hid hfin
            have HB5 := Lib.hid (HB4.out.setCell (p := ⟨e0, j, none⟩) he0 (.int .i64 vn))
            clear hfin hD4' hel
            go_wp2_with fail
            go_roundw
            case rel => exact ⟨q + 1, { s with env := s.env.set j vn }, Ao, co, Ai, ci, by go_num, by omega, rfl, rfl, Lib.hid (by have := HF.out; simpa using this), HB5, by simpa using HLN, by simpa using HE3⟩
            case measure => simp [intOf]; omega
        · have hone : oneA s ⟨3, n, m, t⟩ = ({ s with out := s.out ++ [⟨3, n, m, vn⟩] }, true) := by
            have hv1 : (valT t s.env).1 = vn := by rw [HV.out]
            have hv2 : (valT t s.env).2 = true := by rw [HV.out]; rfl
            unfold oneA
            simp [hv1, hv2]
          have HLN : Hid (({ s with out := s.out ++ [⟨3, n, m, vn⟩] } : Ds).out.length ≤ q + 1 ∧ ({ s with out := s.out ++ [⟨3, n, m, vn⟩] } : Ds).inn.length ≤ q + 1 ∧ ({ s with out := s.out ++ [⟨3, n, m, vn⟩] } : Ds).env.length = env.length ∧ InR ({ s with out := s.out ++ [⟨3, n, m, vn⟩] } : Ds).env) := Lib.hid (by
            have h1 := HS.out; have h2 := HLn.out; have h3 := HWd.out; have h4 := HEl.out
            rw [hone] at h2 h3 h4
            try simp only at h2 h3 h4
            exact ⟨by simp only [List.length_append, List.length_singleton]; omega, by simp only [List.length_append, List.length_singleton]; omega, by first | omega | (simp only at h4 ⊢; omega), h3⟩)
          have HE3 : Hid (doA ⟨env, [], []⟩ l = doA ({ s with out := s.out ++ [⟨3, n, m, vn⟩] } : Ds) (l.drop (q + 1))) := Lib.hid (by have := HE.out; rw [hone, if_pos rfl] at this; exact this)
          clear hone
          go_wp2_with fail
          refine HRO.out.mono ?_
          rintro e w3 ⟨rfl, hb3⟩
          have hac3 := blk_alloc (.cells #[.int .i64 1, .int .i64 vn] 35) ((hb3.block _ (lt_of_block HAC.out)).trans HAC.out)
          have hvc := blk_new w3 (.cells #[.int .i64 1, .int .i64 vn] 35)
          have hal := (below_then (B := wr.heap.size + 1) (Below.refl _ _) (by simp) hb3).alloc (by have := hb3.size; simp at this; omega) (.cells #[.int .i64 1, .int .i64 vn] 35)
          have HD4 := Lib.hid (HD1.out.below (w' := w3.alloc (.cells #[.int .i64 1, .int .i64 vn] 35)) (by have := hal; simpa using this))
          have HB4 := Lib.hid (HB1.out.trans (hal.mono (by have := HB1.out.size; simp at this ⊢; omega)))
          simp only [agV]
          have x0 : (w3.alloc (.cells #[.int .i64 1, .int .i64 vn] 35)).cell? ⟨wr.heap.size, 0, none⟩ = some _ := blk_cell hac3 0
          have x1 : (w3.alloc (.cells #[.int .i64 1, .int .i64 vn] 35)).cell? ⟨wr.heap.size, 1, none⟩ = some _ := blk_cell hac3 1
          have x2 : (w3.alloc (.cells #[.int .i64 1, .int .i64 vn] 35)).cell? ⟨wr.heap.size, 2, none⟩ = some _ := blk_cell hac3 2
          clear hac3 hvc hal hb3 HB1 HD1 HAC
          simp only [Er.bad, Er.place]
          go_wp2_with (at_builtin; refine out_append rfl (.tmp 107) (.tmp 115) rfl w.heap.size _ s.out 3 n m vn rfl _ rfl (by simp) HD4.out.out HD4.out.le hlo ?_)
          intro v1 w4 hT hb1 hg
          have hb2 := HB4.out.trans hb1
          have hfin := HD4.out.putOut hg hT
          obtain ⟨A1, cap1, rfl⟩ := Kd.R_slice hT
          rw [List.length_append, List.length_singleton] at hfin ⊢
          have HF := Lib.hid hfin
          have HB5 := Lib.hid hb2
          clear hT hb1 hg hb2 hfin
          go_wp2_with fail
          go_roundw
          case rel => exact ⟨q + 1, { s with out := s.out ++ [⟨3, n, m, vn⟩] }, A1, cap1, Ai, ci, by go_num, by omega, by simp, rfl, Lib.hid (by have := HF.out; simpa using this), HB5, HLN, HE3⟩
          case measure => simp [intOf]; omega
        · have hone : oneA s ⟨5, n, m, t⟩ = ({ s with out := s.out ++ [⟨5, 0, 0, vn⟩] }, true) := by
            have hv1 : (valT t s.env).1 = vn := by rw [HV.out]
            have hv2 : (valT t s.env).2 = true := by rw [HV.out]; rfl
            unfold oneA
            simp [hv1, hv2]
          have HLN : Hid (({ s with out := s.out ++ [⟨5, 0, 0, vn⟩] } : Ds).out.length ≤ q + 1 ∧ ({ s with out := s.out ++ [⟨5, 0, 0, vn⟩] } : Ds).inn.length ≤ q + 1 ∧ ({ s with out := s.out ++ [⟨5, 0, 0, vn⟩] } : Ds).env.length = env.length ∧ InR ({ s with out := s.out ++ [⟨5, 0, 0, vn⟩] } : Ds).env) := Lib.hid (by
            have h1 := HS.out; have h2 := HLn.out; have h3 := HWd.out; have h4 := HEl.out
            rw [hone] at h2 h3 h4
            try simp only at h2 h3 h4
            exact ⟨by simp only [List.length_append, List.length_singleton]; omega, by simp only [List.length_append, List.length_singleton]; omega, by first | omega | (simp only at h4 ⊢; omega), h3⟩)
          have HE3 : Hid (doA ⟨env, [], []⟩ l = doA ({ s with out := s.out ++ [⟨5, 0, 0, vn⟩] } : Ds) (l.drop (q + 1))) := Lib.hid (by have := HE.out; rw [hone, if_pos rfl] at this; exact this)
          clear hone
          go_wp2_with fail
          refine HRO.out.mono ?_
          rintro e w3 ⟨rfl, hb3⟩
          have hac3 := blk_alloc (.cells #[.int .i64 1, .int .i64 vn] 35) ((hb3.block _ (lt_of_block HAC.out)).trans HAC.out)
          have hvc := blk_new w3 (.cells #[.int .i64 1, .int .i64 vn] 35)
          have hal := (below_then (B := wr.heap.size + 1) (Below.refl _ _) (by simp) hb3).alloc (by have := hb3.size; simp at this; omega) (.cells #[.int .i64 1, .int .i64 vn] 35)
          have HD4 := Lib.hid (HD1.out.below (w' := w3.alloc (.cells #[.int .i64 1, .int .i64 vn] 35)) (by have := hal; simpa using this))
          have HB4 := Lib.hid (HB1.out.trans (hal.mono (by have := HB1.out.size; simp at this ⊢; omega)))
          simp only [agV]
          have x0 : (w3.alloc (.cells #[.int .i64 1, .int .i64 vn] 35)).cell? ⟨wr.heap.size, 0, none⟩ = some _ := blk_cell hac3 0
          have x1 : (w3.alloc (.cells #[.int .i64 1, .int .i64 vn] 35)).cell? ⟨wr.heap.size, 1, none⟩ = some _ := blk_cell hac3 1
          have x2 : (w3.alloc (.cells #[.int .i64 1, .int .i64 vn] 35)).cell? ⟨wr.heap.size, 2, none⟩ = some _ := blk_cell hac3 2
          clear hac3 hvc hal hb3 HB1 HD1 HAC
          simp only [Er.bad, Er.place]
          go_wp2_with (at_builtin; refine out_append rfl (.tmp 119) (.tmp 123) rfl w.heap.size _ s.out 5 0 0 vn rfl _ rfl (by simp) HD4.out.out HD4.out.le hlo ?_)
          intro v1 w4 hT hb1 hg
          have hb2 := HB4.out.trans hb1
          have hfin := HD4.out.putOut hg hT
          obtain ⟨A1, cap1, rfl⟩ := Kd.R_slice hT
          rw [List.length_append, List.length_singleton] at hfin ⊢
          have HF := Lib.hid hfin
          have HB5 := Lib.hid hb2
          clear hT hb1 hg hb2 hfin
          go_wp2_with fail
          go_roundw
          case rel => exact ⟨q + 1, { s with out := s.out ++ [⟨5, 0, 0, vn⟩] }, A1, cap1, Ai, ci, by go_num, by omega, by simp, rfl, Lib.hid (by have := HF.out; simpa using this), HB5, HLN, HE3⟩
          case measure => simp [intOf]; omega
      · have q2 : (vk == 1) = false := by simp [hvk]
        rcases hk' with rfl | rfl | rfl
        · have hone : oneA s ⟨1, n, m, t⟩ = (s, false) := by unfold oneA; simp only; rw [if_neg (by decide), if_neg (by decide), if_pos (by decide), if_neg (by rw [HV.out]; simp [*])]
          go_wp2_with fail
          refine HRO.out.mono ?_
          rintro e w3 ⟨rfl, hb3⟩
          have hac3 := blk_alloc (.cells #[.int .i64 vk, .int .i64 vn] 35) ((hb3.block _ (lt_of_block HAC.out)).trans HAC.out)
          have hvc := blk_new w3 (.cells #[.int .i64 vk, .int .i64 vn] 35)
          have hal := (below_then (B := wr.heap.size + 1) (Below.refl _ _) (by simp) hb3).alloc (by have := hb3.size; simp at this; omega) (.cells #[.int .i64 vk, .int .i64 vn] 35)
          have HD4 := Lib.hid (HD1.out.below (w' := w3.alloc (.cells #[.int .i64 vk, .int .i64 vn] 35)) (by have := hal; simpa using this))
          have HB4 := Lib.hid (HB1.out.trans (hal.mono (by have := HB1.out.size; simp at this ⊢; omega)))
          simp only [agV]
          have x0 : (w3.alloc (.cells #[.int .i64 vk, .int .i64 vn] 35)).cell? ⟨wr.heap.size, 0, none⟩ = some _ := blk_cell hac3 0
          have x1 : (w3.alloc (.cells #[.int .i64 vk, .int .i64 vn] 35)).cell? ⟨wr.heap.size, 1, none⟩ = some _ := blk_cell hac3 1
          have x2 : (w3.alloc (.cells #[.int .i64 vk, .int .i64 vn] 35)).cell? ⟨wr.heap.size, 2, none⟩ = some _ := blk_cell hac3 2
          clear hac3 hvc hal hb3 HB1 HD1 HAC
          simp only [Er.bad, Er.place]
          have HE4 : Hid (doA ⟨env, [], []⟩ l = { s with inn := s.inn ++ [1001] }) := Lib.hid (by have := HE.out; rw [hone, if_neg (by simp)] at this; exact this)
          clear hone
          go_wp2_with (at_builtin; refine inn_append rfl (.tmp 92) (.tmp 93) rfl w.heap.size _ s.inn 1001 rfl _ rfl (by simp) HD4.out.inn HD4.out.le hli ?_)
          intro v1 w4 hT hb1 hg
          have hb2 := HB4.out.trans hb1
          have hfin := HD4.out.putInn hg hT
          obtain ⟨A1, cap1, rfl⟩ := Kd.R_slice hT
          rw [List.length_append, List.length_singleton] at hfin ⊢
          have HF := Lib.hid hfin
          have HB5 := Lib.hid hb2
          clear hT hb1 hg hb2 hfin
          go_wp2_with fail
          go_ret3
          rw [HE4.out]
          exact ⟨_, _, _, rfl, HF.out.env, HF.out.out, HF.out.inn, HB5.out⟩
        · have hone : oneA s ⟨3, n, m, t⟩ = (s, false) := by unfold oneA; simp only; rw [if_neg (by decide), if_neg (by decide), if_pos (by decide), if_neg (by rw [HV.out]; simp [*])]
          go_wp2_with fail
          refine HRO.out.mono ?_
          rintro e w3 ⟨rfl, hb3⟩
          have hac3 := blk_alloc (.cells #[.int .i64 vk, .int .i64 vn] 35) ((hb3.block _ (lt_of_block HAC.out)).trans HAC.out)
          have hvc := blk_new w3 (.cells #[.int .i64 vk, .int .i64 vn] 35)
          have hal := (below_then (B := wr.heap.size + 1) (Below.refl _ _) (by simp) hb3).alloc (by have := hb3.size; simp at this; omega) (.cells #[.int .i64 vk, .int .i64 vn] 35)
          have HD4 := Lib.hid (HD1.out.below (w' := w3.alloc (.cells #[.int .i64 vk, .int .i64 vn] 35)) (by have := hal; simpa using this))
          have HB4 := Lib.hid (HB1.out.trans (hal.mono (by have := HB1.out.size; simp at this ⊢; omega)))
          simp only [agV]
          have x0 : (w3.alloc (.cells #[.int .i64 vk, .int .i64 vn] 35)).cell? ⟨wr.heap.size, 0, none⟩ = some _ := blk_cell hac3 0
          have x1 : (w3.alloc (.cells #[.int .i64 vk, .int .i64 vn] 35)).cell? ⟨wr.heap.size, 1, none⟩ = some _ := blk_cell hac3 1
          have x2 : (w3.alloc (.cells #[.int .i64 vk, .int .i64 vn] 35)).cell? ⟨wr.heap.size, 2, none⟩ = some _ := blk_cell hac3 2
          clear hac3 hvc hal hb3 HB1 HD1 HAC
          simp only [Er.bad, Er.place]
          have HE4 : Hid (doA ⟨env, [], []⟩ l = { s with inn := s.inn ++ [1001] }) := Lib.hid (by have := HE.out; rw [hone, if_neg (by simp)] at this; exact this)
          clear hone
          go_wp2_with (at_builtin; refine inn_append rfl (.tmp 92) (.tmp 93) rfl w.heap.size _ s.inn 1001 rfl _ rfl (by simp) HD4.out.inn HD4.out.le hli ?_)
          intro v1 w4 hT hb1 hg
          have hb2 := HB4.out.trans hb1
          have hfin := HD4.out.putInn hg hT
          obtain ⟨A1, cap1, rfl⟩ := Kd.R_slice hT
          rw [List.length_append, List.length_singleton] at hfin ⊢
          have HF := Lib.hid hfin
          have HB5 := Lib.hid hb2
          clear hT hb1 hg hb2 hfin
          go_wp2_with fail
          go_ret3
          rw [HE4.out]
          exact ⟨_, _, _, rfl, HF.out.env, HF.out.out, HF.out.inn, HB5.out⟩
        · have hone : oneA s ⟨5, n, m, t⟩ = (s, false) := by unfold oneA; simp only; rw [if_neg (by decide), if_neg (by decide), if_pos (by decide), if_neg (by rw [HV.out]; simp [*])]
          go_wp2_with fail
          refine HRO.out.mono ?_
          rintro e w3 ⟨rfl, hb3⟩
          have hac3 := blk_alloc (.cells #[.int .i64 vk, .int .i64 vn] 35) ((hb3.block _ (lt_of_block HAC.out)).trans HAC.out)
          have hvc := blk_new w3 (.cells #[.int .i64 vk, .int .i64 vn] 35)
          have hal := (below_then (B := wr.heap.size + 1) (Below.refl _ _) (by simp) hb3).alloc (by have := hb3.size; simp at this; omega) (.cells #[.int .i64 vk, .int .i64 vn] 35)
          have HD4 := Lib.hid (HD1.out.below (w' := w3.alloc (.cells #[.int .i64 vk, .int .i64 vn] 35)) (by have := hal; simpa using this))
          have HB4 := Lib.hid (HB1.out.trans (hal.mono (by have := HB1.out.size; simp at this ⊢; omega)))
          simp only [agV]
          have x0 : (w3.alloc (.cells #[.int .i64 vk, .int .i64 vn] 35)).cell? ⟨wr.heap.size, 0, none⟩ = some _ := blk_cell hac3 0
          have x1 : (w3.alloc (.cells #[.int .i64 vk, .int .i64 vn] 35)).cell? ⟨wr.heap.size, 1, none⟩ = some _ := blk_cell hac3 1
          have x2 : (w3.alloc (.cells #[.int .i64 vk, .int .i64 vn] 35)).cell? ⟨wr.heap.size, 2, none⟩ = some _ := blk_cell hac3 2
          clear hac3 hvc hal hb3 HB1 HD1 HAC
          simp only [Er.bad, Er.place]
          have HE4 : Hid (doA ⟨env, [], []⟩ l = { s with inn := s.inn ++ [1001] }) := Lib.hid (by have := HE.out; rw [hone, if_neg (by simp)] at this; exact this)
          clear hone
          go_wp2_with (at_builtin; refine inn_append rfl (.tmp 92) (.tmp 93) rfl w.heap.size _ s.inn 1001 rfl _ rfl (by simp) HD4.out.inn HD4.out.le hli ?_)
          intro v1 w4 hT hb1 hg
          have hb2 := HB4.out.trans hb1
          have hfin := HD4.out.putInn hg hT
          obtain ⟨A1, cap1, rfl⟩ := Kd.R_slice hT
          rw [List.length_append, List.length_singleton] at hfin ⊢
          have HF := Lib.hid hfin
          have HB5 := Lib.hid hb2
          clear hT hb1 hg hb2 hfin
          go_wp2_with fail
          go_ret3
          rw [HE4.out]
          exact ⟨_, _, _, rfl, HF.out.env, HF.out.out, HF.out.inn, HB5.out⟩
    · obtain rfl : q = l.length := by omega
      have hfin := HE.out
      rw [List.drop_length] at hfin
      have hfin : doA ⟨env, [], []⟩ l = s := hfin
      have HF := Lib.hid hfin
      clear hfin HE
      go_wp2_with fail
      go_ret3
      rw [HF.out]
      exact ⟨_, _, _, rfl, HD.out.env, HD.out.out, HD.out.inn, HB.out⟩
end Go.Proofs.YtemoonhnncopoaaGreatDoor
end
section
set_option linter.unusedVariables false
set_option linter.unusedSimpArgs false
namespace Go.Proofs.YtemoonhnncopoaaGreatDoor
open Go.RowKit Go.Proofs.YtemoonhnncopoaaGreatDoorW.PrintWords
open PX (T V)
theorem parsed_det {s : List UInt8} {r r' : List T × Er} (h : Parsed s r) (h' : Parsed s r') : r = r' := by
  unfold Parsed at h h'
  cases hx : (lexed s).2 with
  | none =>
    rw [hx] at h h'
    obtain ⟨R, hR, rfl⟩ := h
    obtain ⟨R', hR', rfl⟩ := h'
    rw [PX.Pr.det hR hR']
  | code c => rw [hx] at h h'; rw [h, h']
  | spot a c => rw [hx] at h h'; rw [h, h']
theorem parseT_eq {s : ByteArray} {r : List T × Er} (h : Parsed s.data.toList r) : parseT s = r := parsed_det (parseT_ok s) h
theorem parsed_a : Parsed [97, 43, 49] ([⟨2, 0, 0⟩, ⟨1, 1, 0⟩, ⟨3, 0, 0⟩], .none) :=
  parsed_run 9 30 _ [⟨2, 0, 0⟩, ⟨3, 0, 1⟩, ⟨1, 1, 2⟩] ⟨3, [⟨2, 0, 0⟩, ⟨1, 1, 0⟩, ⟨3, 0, 0⟩], false⟩ (by decide) (by rfl) (by rfl)
abbrev acts3 : List Ac := [⟨1, 0, 0, ⟨#[97, 43, 49]⟩⟩, ⟨5, 0, 0, ⟨#[49, 47, 48]⟩⟩, ⟨2, 5, 0, ⟨#[]⟩⟩]
theorem val_a : valT ⟨#[97, 43, 49]⟩ [7] = (8, true) := by
  unfold valT
  rw [parseT_eq (s := ⟨#[97, 43, 49]⟩) parsed_a]
  kernel_rfl
theorem val_z (env : List Int) : valT ⟨#[49, 47, 48]⟩ env = (0, false) := by
  unfold valT
  rw [parseT_eq (s := ⟨#[49, 47, 48]⟩) parsed_z]
  rfl
theorem do_3 : doA ⟨[7], [], []⟩ acts3 = ⟨[8], [], [1001]⟩ := by
  simp [doA, oneA, val_a, val_z]
theorem acts_new {W : World} {g ty : Nat} (h : W.heap[g]? = some (.cells #[.int .i64 1, .int .i64 0, .int .i64 0, .string ⟨#[97, 43, 49]⟩, .int .i64 5, .int .i64 0, .int .i64 0, .string ⟨#[49, 47, 48]⟩, .int .i64 2, .int .i64 5, .int .i64 0, .string ⟨#[]⟩] ty (0, 0))) : ActsC W (some ⟨g, 0, none⟩) acts3.length acts3 := by
  refine ⟨rfl, by decide, fun _ => ⟨_, rfl, ?_⟩⟩
  intro j p hj
  match j, hj with
  | 0, hj =>
    simp only [List.getElem?_cons_zero, List.getElem?_cons_succ, Option.some.injEq] at hj
    subst hj
    refine ⟨_, rfl, PAll.k80_mk W _, ?_⟩
    intro i u hi
    rw [add_at]
    match i, hi with
    | 0, hi => simp only [List.getElem?_cons_zero, List.getElem?_cons_succ, Option.some.injEq] at hi; subst hi; exact blk_cell h 0
    | 1, hi => simp only [List.getElem?_cons_zero, List.getElem?_cons_succ, Option.some.injEq] at hi; subst hi; exact blk_cell h 1
    | 2, hi => simp only [List.getElem?_cons_zero, List.getElem?_cons_succ, Option.some.injEq] at hi; subst hi; exact blk_cell h 2
    | 3, hi => simp only [List.getElem?_cons_zero, List.getElem?_cons_succ, Option.some.injEq] at hi; subst hi; exact blk_cell h 3
    | n + 4, hi => simp at hi
  | 1, hj =>
    simp only [List.getElem?_cons_zero, List.getElem?_cons_succ, Option.some.injEq] at hj
    subst hj
    refine ⟨_, rfl, PAll.k80_mk W _, ?_⟩
    intro i u hi
    rw [add_at]
    match i, hi with
    | 0, hi => simp only [List.getElem?_cons_zero, List.getElem?_cons_succ, Option.some.injEq] at hi; subst hi; exact blk_cell h 4
    | 1, hi => simp only [List.getElem?_cons_zero, List.getElem?_cons_succ, Option.some.injEq] at hi; subst hi; exact blk_cell h 5
    | 2, hi => simp only [List.getElem?_cons_zero, List.getElem?_cons_succ, Option.some.injEq] at hi; subst hi; exact blk_cell h 6
    | 3, hi => simp only [List.getElem?_cons_zero, List.getElem?_cons_succ, Option.some.injEq] at hi; subst hi; exact blk_cell h 7
    | n + 4, hi => simp at hi
  | 2, hj =>
    simp only [List.getElem?_cons_zero, List.getElem?_cons_succ, Option.some.injEq] at hj
    subst hj
    refine ⟨_, rfl, PAll.k80_mk W _, ?_⟩
    intro i u hi
    rw [add_at]
    match i, hi with
    | 0, hi => simp only [List.getElem?_cons_zero, List.getElem?_cons_succ, Option.some.injEq] at hi; subst hi; exact blk_cell h 8
    | 1, hi => simp only [List.getElem?_cons_zero, List.getElem?_cons_succ, Option.some.injEq] at hi; subst hi; exact blk_cell h 9
    | 2, hi => simp only [List.getElem?_cons_zero, List.getElem?_cons_succ, Option.some.injEq] at hi; subst hi; exact blk_cell h 10
    | 3, hi => simp only [List.getElem?_cons_zero, List.getElem?_cons_succ, Option.some.injEq] at hi; subst hi; exact blk_cell h 11
    | n + 4, hi => simp at hi
  | n + 3, hj => simp at hj
theorem nums_new {W : World} {g ty : Nat} {x : Int} (h : W.heap[g]? = some (.cells #[.int .i64 x] ty (0, 0))) : NumsC W (some ⟨g, 0, none⟩) ([x] : List Int).length [x] := by
  refine ⟨rfl, by simp, fun _ => ⟨_, rfl, ?_⟩⟩
  intro j p hj
  match j, hj with
  | 0, hj =>
    simp only [List.getElem?_cons_zero, Option.some.injEq] at hj
    subst hj
    refine ⟨[.int .i64 x], rfl, rfl, ?_⟩
    intro i u hi
    rw [add_at]
    match i, hi with
    | 0, hi => simp only [List.getElem?_cons_zero, Option.some.injEq] at hi; subst hi; exact blk_cell h 0
    | n + 1, hi => simp at hi
  | n + 1, hj => simp at hj
set_option maxHeartbeats 4000000 in
set_option maxRecDepth 100000 in
theorem up11 (w : World) (hw : Laid w) : Calls Tryz.prog 13 #[] w fun e w' => e = .returned (.bool true) ∧ Below w.heap.size w w' := by
  go_enter Tryz.func13, Tryz.ntmps13
  go_wp2_with fail
  have H1 := Lib.hid (blk_alloc (.cells #[.int .i64 7] 2) (blk_new w (.cells #[.int .i64 1, .int .i64 0, .int .i64 0, .string ⟨#[97, 43, 49]⟩, .int .i64 5, .int .i64 0, .int .i64 0, .string ⟨#[49, 47, 48]⟩, .int .i64 2, .int .i64 5, .int .i64 0, .string ⟨#[]⟩] 80)))
  have H2 := blk_new (w.alloc (.cells #[.int .i64 1, .int .i64 0, .int .i64 0, .string ⟨#[97, 43, 49]⟩, .int .i64 5, .int .i64 0, .int .i64 0, .string ⟨#[49, 47, 48]⟩, .int .i64 2, .int .i64 5, .int .i64 0, .string ⟨#[]⟩] 80)) (.cells #[.int .i64 7] 2)
  rw [show (w.alloc (.cells #[.int .i64 1, .int .i64 0, .int .i64 0, .string ⟨#[97, 43, 49]⟩, .int .i64 5, .int .i64 0, .int .i64 0, .string ⟨#[49, 47, 48]⟩, .int .i64 2, .int .i64 5, .int .i64 0, .string ⟨#[]⟩] 80)).heap.size = w.heap.size + 1 by simp] at H2
  have H2 := Lib.hid H2
  have hb0 := ((Below.refl w.heap.size w).alloc (Nat.le_refl _) (.cells #[.int .i64 1, .int .i64 0, .int .i64 0, .string ⟨#[97, 43, 49]⟩, .int .i64 5, .int .i64 0, .int .i64 0, .string ⟨#[49, 47, 48]⟩, .int .i64 2, .int .i64 5, .int .i64 0, .string ⟨#[]⟩] 80)).alloc (by simp) (.cells #[.int .i64 7] 2)
  have HB := Lib.hid hb0
  clear hb0
  refine (do_any (some ⟨w.heap.size, 0, none⟩) 3 acts3 (some ⟨w.heap.size + 1, 0, none⟩) 1 [7] _ (hw.below HB.out) (acts_new H1.out) (by decide) (nums_new H2.out) (by decide) (by decide) (by decide) (by intro a ha; simp at ha; rcases ha with rfl | rfl | rfl <;> decide)).mono ?_
  rw [do_3]
  rintro e w1 ⟨ve, vo, vi, rfl, hv, ho, hi, hb1⟩
  have hbf := HB.out.trans (hb1.mono HB.out.size)
  obtain ⟨g1, cap1, rfl, _⟩ := Kd.R_form hv (by simp)
  obtain ⟨g2, cap2, rfl, _⟩ := Kd.R_form hi (by simp)
  obtain ⟨A3, cap3, rfl⟩ := Kd.R_slice ho
  have k1 : w1.cell? ⟨g1, 0, none⟩ = some (.int .i64 8) := (Kd.R_cell (0 : Int) hv 0 (by omega) (by simp)).1
  have k2 : w1.cell? ⟨g2, 0, none⟩ = some (.int .i64 1001) := (Kd.R_cell (0 : Int) hi 0 (by omega) (by simp)).1
  clear hv ho hi H1 H2 HB hb1
  simp only [List.length_cons, List.length_nil]
  go_wp2_with fail
  go_ret
  exact ⟨rfl, hbf⟩
end Go.Proofs.YtemoonhnncopoaaGreatDoor
end
section
set_option linter.unusedVariables false
set_option linter.unusedSimpArgs false
namespace Go.Proofs.YtemoonhnncopoaaGreatDoor
open Go.RowKit Go.Proofs.YtemoonhnncopoaaGreatDoorW.PrintWords
theorem nums_l0 (l : List Int) (hl : l.length ≤ 1000000) (d : Nat) : ∀ a : Nat, a ≤ l.length → l.length - a = d → Ev (fun k => PAll.spinetref10_Nums.l0 k l l a) true := by
  induction d with
  | zero =>
    intro a ha hd
    obtain rfl : a = l.length := by omega
    refine Ev.step (fun k => rfl) ?_
    simp only [PAll.spinetref10_Nums.l0]
    exact ev_neg (by omega) (Ev.now _)
  | succ d ih =>
    intro a ha hd
    refine Ev.step (fun k => rfl) ?_
    simp only [PAll.spinetref10_Nums.l0]
    refine ev_pos (by omega) (ev_pos (by omega) (ev_pos (by omega) (ev_pos (by first | rfl | trivial) ?_)))
    rw [w64 (by omega) (by omega)]
    exact ih (a + 1) (by omega) (by omega)
theorem nums_f (l : List Int) (hl : l.length ≤ 1000000) : ∃ k, PAll.spinetref10_Nums.f k l l = some true := by
  have h := nums_l0 l hl l.length 0 (by omega) (by omega)
  have : Ev (fun k => PAll.spinetref10_Nums.f k l l) true := by
    unfold PAll.spinetref10_Nums.f
    exact ev_pos rfl h
  exact Ev.rounds this
theorem nums_any (A B : Option Addr) (c d : Nat) (l : List Int) (hl : l.length ≤ 1000000) (w : World) (h1 : NumsC w A l.length l) (hc : l.length ≤ c) (h2 : NumsC w B l.length l) (hd : l.length ≤ d) :
    Calls Tryz.prog 17 #[.slice A l.length c, .slice B l.length d] w fun e w' => e = .returned (.bool true) ∧ Below w.heap.size w w' := by
  obtain ⟨k, h⟩ := nums_f l hl
  refine (PAll.spinetref10_Nums.calls k A c l B d l true w h1 hc h2 hd h).mono ?_
  rintro e w' ⟨rfl, hw⟩
  exact ⟨rfl, hw.below⟩
theorem outs_l0 (l : List Ou) (hl : l.length ≤ 1000000) (d : Nat) : ∀ a : Nat, a ≤ l.length → l.length - a = d → Ev (fun k => PAll.spinetref10_Outs.l0 k l l a) true := by
  induction d with
  | zero =>
    intro a ha hd
    obtain rfl : a = l.length := by omega
    refine Ev.step (fun k => rfl) ?_
    simp only [PAll.spinetref10_Outs.l0]
    exact ev_neg (by omega) (Ev.now _)
  | succ d ih =>
    intro a ha hd
    refine Ev.step (fun k => rfl) ?_
    simp only [PAll.spinetref10_Outs.l0]
    refine ev_pos (by omega) (ev_pos (by omega) (ev_pos (by omega) (ev_neg (by simp) ?_)))
    rw [w64 (by omega) (by omega)]
    exact ih (a + 1) (by omega) (by omega)
theorem outs_f (l : List Ou) (hl : l.length ≤ 1000000) : ∃ k, PAll.spinetref10_Outs.f k l l = some true := by
  have h := outs_l0 l hl l.length 0 (by omega) (by omega)
  have : Ev (fun k => PAll.spinetref10_Outs.f k l l) true := by
    unfold PAll.spinetref10_Outs.f
    exact ev_pos rfl h
  exact Ev.rounds this
theorem outs_any (A B : Option Addr) (c d : Nat) (l : List Ou) (hl : l.length ≤ 1000000) (w : World) (h1 : Kd.C PAll.k87 w A l.length l) (hc : l.length ≤ c) (h2 : Kd.C PAll.k87 w B l.length l) (hd : l.length ≤ d) :
    Calls Tryz.prog 18 #[.slice A l.length c, .slice B l.length d] w fun e w' => e = .returned (.bool true) ∧ Below w.heap.size w w' := by
  obtain ⟨k, h⟩ := outs_f l hl
  refine (PAll.spinetref10_Outs.calls k A c l B d l true w h1 hc h2 hd h).mono ?_
  rintro e w' ⟨rfl, hw⟩
  exact ⟨rfl, hw.below⟩
theorem ints_l0 (l : List Int) (hl : l.length ≤ 1000000) (d : Nat) : ∀ a : Nat, a ≤ l.length → l.length - a = d → Ev (fun k => PAll.spinetref05_Ints.l0 k l l a) true := by
  induction d with
  | zero =>
    intro a ha hd
    obtain rfl : a = l.length := by omega
    refine Ev.step (fun k => rfl) ?_
    simp only [PAll.spinetref05_Ints.l0]
    exact ev_neg (by omega) (Ev.now _)
  | succ d ih =>
    intro a ha hd
    refine Ev.step (fun k => rfl) ?_
    simp only [PAll.spinetref05_Ints.l0]
    refine ev_pos (by omega) (ev_pos (by omega) (ev_pos (by omega) (ev_pos (by first | rfl | trivial) ?_)))
    rw [w64 (by omega) (by omega)]
    exact ih (a + 1) (by omega) (by omega)
theorem ints_f (l : List Int) (hl : l.length ≤ 1000000) : ∃ k, PAll.spinetref05_Ints.f k l l = some true := by
  have h := ints_l0 l hl l.length 0 (by omega) (by omega)
  have : Ev (fun k => PAll.spinetref05_Ints.f k l l) true := by
    unfold PAll.spinetref05_Ints.f
    exact ev_pos rfl h
  exact Ev.rounds this
theorem ints_any (A B : Option Addr) (c d : Nat) (l : List Int) (hl : l.length ≤ 1000000) (w : World) (h1 : Kd.C (Kd.int .i64) w A l.length l) (hc : l.length ≤ c) (h2 : Kd.C (Kd.int .i64) w B l.length l) (hd : l.length ≤ d) :
    Calls Tryz.prog 19 #[.slice A l.length c, .slice B l.length d] w fun e w' => e = .returned (.bool true) ∧ Below w.heap.size w w' := by
  obtain ⟨k, h⟩ := ints_f l hl
  refine (PAll.spinetref05_Ints.calls k A c l B d l true w h1 hc h2 hd h).mono ?_
  rintro e w' ⟨rfl, hw⟩
  exact ⟨rfl, hw.below⟩
def fewA (l : List Ac) : Bool := (l.all fun a => decide (a.f3.size ≤ 500)) && decide (l.length ≤ 40)
theorem few_l0 (l : List Ac) (hl : l.length ≤ 9223372036854775807) (d : Nat) : ∀ a : Nat, a ≤ l.length → l.length - a = d → Ev (fun k => PAll.spinetlaw11_few.l0 k l a) (((l.drop a).all fun x => decide (x.f3.size ≤ 500)) && decide (l.length ≤ 40)) := by
  induction d with
  | zero =>
    intro a ha hd
    obtain rfl : a = l.length := by omega
    refine Ev.step (fun k => rfl) ?_
    simp only [PAll.spinetlaw11_few.l0]
    refine ev_neg (by omega) ?_
    have : (((l.drop l.length).all fun x => decide (x.f3.size ≤ 500)) && decide (l.length ≤ 40)) = decide ((l.length : Int) ≤ 40) := by
      rw [List.drop_length]
      simp
      omega
    rw [this]
    exact Ev.now _
  | succ d ih =>
    intro a ha hd
    have hlt : a < l.length := by omega
    refine Ev.step (fun k => rfl) ?_
    simp only [PAll.spinetlaw11_few.l0]
    have hr : PAll.rd_T80 l (a : Int) = l[a] := by simp [PAll.rd_T80, List.getD_eq_getElem?_getD, List.getElem?_eq_getElem hlt]
    rw [hr, List.drop_eq_getElem_cons hlt]
    refine ev_pos (by omega) (ev_pos (by omega) ?_)
    by_cases h5 : 500 < l[a].f3.size
    · have : ((l[a] :: l.drop (a + 1)).all fun x => decide (x.f3.size ≤ 500)) = false := by
        rw [List.all_cons, decide_eq_false (by omega)]
        rfl
      rw [this]
      exact ev_pos (by omega) (Ev.now _)
    · refine ev_neg (by omega) ?_
      rw [w64 (by omega) (by omega)]
      rw [List.all_cons, decide_eq_true (show l[a].f3.size ≤ 500 by omega)]
      exact ih (a + 1) (by omega) (by omega)
theorem few_any (A : Option Addr) (c : Nat) (l : List Ac) (w : World) (h1 : ActsC w A l.length l) (hc : l.length ≤ c) :
    Calls Tryz.prog 14 #[.slice A l.length c] w fun e w' => e = .returned (.bool (fewA l)) ∧ Below w.heap.size w w' := by
  have h := few_l0 l (Kd.C_max h1) l.length 0 (by omega) (by omega)
  rw [List.drop_zero] at h
  obtain ⟨k, h⟩ := Ev.rounds h
  refine (PAll.spinetlaw11_few.calls k A c l _ w h1 hc h).mono ?_
  rintro e w' ⟨rfl, hw⟩
  exact ⟨rfl, hw.below⟩
end Go.Proofs.YtemoonhnncopoaaGreatDoor
end
section
set_option linter.unusedVariables false
set_option linter.unusedSimpArgs false
namespace Go.Proofs.YtemoonhnncopoaaGreatDoor
open Go.RowKit Go.Proofs.YtemoonhnncopoaaGreatDoorW.PrintWords
def RAct : Rep (Int × Int × Int × ByteArray × Unit) := (Rep.int .i64).pair ((Rep.int .i64).pair ((Rep.int .i64).pair (Rep.str.pair Rep.unit)))
set_option maxRecDepth 100000 in
theorem RAct.reads : Reads Tryz.prog 80 RAct :=
  reads_struct Tryz.underlying80 (fields_cons rfl (reads_int Tryz.underlying3 (by kernel_rfl)) (fields_cons rfl (reads_int Tryz.underlying3 (by kernel_rfl)) (fields_cons rfl (reads_int Tryz.underlying3 (by kernel_rfl)) (fields_cons rfl (reads_str Tryz.underlying9 (by kernel_rfl)) (fields_nil _ _))))) (by kernel_rfl)
theorem actArg {w : World} {v : Value} {xs : List (Int × Int × Int × ByteArray × Unit)} (h : RAct.slice.ok (fun b => b < w.heap.size) w [v] xs) :
    ∃ A cap, ∃ l : List Ac, v = .slice A l.length cap ∧ l.length ≤ cap ∧ ActsC w A l.length l := by
  obtain ⟨A, cap, hv, hA⟩ := Rep.slice_open h
  by_cases h0 : 0 < xs.length
  · obtain ⟨b, off, rfl, hb, hlt, hc1, hc2, hel⟩ := hA h0
    unfold maxLen at hc2
    have hel' : ∀ i (hi : i < xs.length), w.cell? ⟨b, off + i * 4, none⟩ = some (.int .i64 xs[i].1) ∧ w.cell? ⟨b, off + i * 4 + 1, none⟩ = some (.int .i64 xs[i].2.1) ∧ w.cell? ⟨b, off + i * 4 + 2, none⟩ = some (.int .i64 xs[i].2.2.1) ∧ w.cell? ⟨b, off + i * 4 + 3, none⟩ = some (.string xs[i].2.2.2.1) := by
      intro i hi
      obtain ⟨c, hc, hcell, hok⟩ := hel i hi
      obtain ⟨c1, d1, rfl, _, ⟨rfl, hw1⟩, c2, d2, rfl, _, ⟨rfl, hw2⟩, c3, d3, rfl, _, ⟨rfl, hw3⟩, c4, d4, rfl, _, ⟨rfl, hw4⟩, rfl⟩ := hok
      exact ⟨hcell 0 (by simp), hcell 1 (by simp), hcell 2 (by simp), hcell 3 (by simp)⟩
    refine ⟨some ⟨b, off, none⟩, cap, xs.map fun t => ⟨t.1, t.2.1, t.2.2.1, t.2.2.2.1⟩, by rw [List.length_map]; exact hv, by rw [List.length_map]; exact hc1, ⟨rfl, by rw [List.length_map]; omega, fun _ => ⟨⟨b, off, none⟩, rfl, ?_⟩⟩⟩
    intro j p hj
    rw [List.getElem?_map] at hj
    obtain ⟨t, ht, rfl⟩ := Option.map_eq_some_iff.1 hj
    obtain ⟨hjl, rfl⟩ := List.getElem?_eq_some_iff.1 ht
    obtain ⟨x0, x1, x2, x3⟩ := hel' j hjl
    refine ⟨[.int .i64 xs[j].1, .int .i64 xs[j].2.1, .int .i64 xs[j].2.2.1, .string xs[j].2.2.2.1], rfl, PAll.k80_mk w _, ?_⟩
    intro i u hi
    rw [add_at]
    show w.cell? ⟨b, off + (j * 4 + i), none⟩ = _
    rw [← Nat.add_assoc]
    match i, hi with
    | 0, hi => simp at hi; subst hi; exact x0
    | 1, hi => simp at hi; subst hi; exact x1
    | 2, hi => simp at hi; subst hi; exact x2
    | 3, hi => simp at hi; subst hi; exact x3
    | n + 4, hi => simp at hi
  · have hx : xs = [] := by cases xs with
      | nil => rfl
      | cons a l => simp at h0
    subst hx
    exact ⟨A, cap, [], hv, Nat.zero_le _, ⟨rfl, by omega, fun h => by omega⟩⟩
end Go.Proofs.YtemoonhnncopoaaGreatDoor
end
section
set_option linter.unusedVariables false
set_option linter.unusedSimpArgs false
namespace Go.Proofs.YtemoonhnncopoaaGreatDoor
open Go.RowKit Go.Proofs.YtemoonhnncopoaaGreatDoorW.PrintWords
theorem numArg {w : World} {v : Value} {xs : List Int} (h : (Rep.int .i64).slice.ok (fun b => b < w.heap.size) w [v] xs) :
    ∃ A cap, v = .slice A xs.length cap ∧ xs.length ≤ cap ∧ NumsC w A xs.length xs ∧ ∀ x ∈ xs, -9223372036854775808 ≤ x ∧ x ≤ 9223372036854775807 := by
  obtain ⟨A, cap, hv, hA⟩ := Rep.slice_open h
  by_cases h0 : 0 < xs.length
  · obtain ⟨b, off, rfl, hb, hlt, hc1, hc2, hel⟩ := hA h0
    unfold maxLen at hc2
    have hel' : ∀ i (hi : i < xs.length), w.cell? ⟨b, off + i, none⟩ = some (.int .i64 xs[i]) ∧ (Lit.int .i64 xs[i]).wf = true := by
      intro i hi
      obtain ⟨c, hc, hcell, hok⟩ := hel i hi
      obtain ⟨rfl, hw⟩ := hok
      have := hcell 0 (by simp)
      have hs : (Rep.int .i64).size = 1 := rfl
      rw [hs, Nat.mul_one] at this
      exact ⟨this, hw⟩
    refine ⟨some ⟨b, off, none⟩, cap, hv, hc1, ⟨rfl, by omega, fun _ => ⟨⟨b, off, none⟩, rfl, ?_⟩⟩, ?_⟩
    · intro j p hj
      obtain ⟨hjl, rfl⟩ := List.getElem?_eq_some_iff.1 hj
      refine ⟨[.int .i64 xs[j]], rfl, rfl, ?_⟩
      intro i u hi
      rw [add_at]
      match i, hi with
      | 0, hi =>
        simp at hi; subst hi
        have := (hel' j hjl).1
        simpa [Kd.int, Kd.scalar] using this
      | n + 1, hi => simp at hi
    · intro t ht
      obtain ⟨j, hj, rfl⟩ := List.mem_iff_getElem.1 ht
      exact bounds_i64 (hel' j hj).2
  · have hx : xs = [] := by cases xs with
      | nil => rfl
      | cons a l => simp at h0
    subst hx
    exact ⟨A, cap, hv, Nat.zero_le _, ⟨rfl, by simp, fun h => by simp at h⟩, fun t ht => by cases ht⟩
end Go.Proofs.YtemoonhnncopoaaGreatDoor
end
section
set_option linter.unusedVariables false
set_option linter.unusedSimpArgs false
namespace Go.Proofs.YtemoonhnncopoaaGreatDoor
open Go.RowKit Go.Proofs.YtemoonhnncopoaaGreatDoorW.PrintWords
open PX (T V)
theorem do_len' (l : List Ac) : ∀ s : Ds, (doA s l).env.length = s.env.length ∧ (doA s l).out.length ≤ s.out.length + l.length ∧ (doA s l).inn.length ≤ s.inn.length + l.length + 1 := by
  induction l with
  | nil => intro s; simp [doA]
  | cons a l ih =>
    intro s
    have h1 := one_env' s a
    have h2 := one_len s a
    have h3 := ih (oneA s a).1
    simp only [doA]
    split
    · simp only [List.length_cons]; omega
    · simp only [List.length_cons, List.length_append, List.length_nil]; omega
set_option maxHeartbeats 16000000 in
set_option maxRecDepth 100000 in
theorem ActDoes_walk (w : World) (hw : Laid w) (v0 : Value) (x0 : List (Int × Int × Int × ByteArray × Unit)) (v1 : Value) (x1 : List Int) (h0 : RAct.slice.ok (fun b => b < w.heap.size) w [v0] x0) (h1 : (Rep.int .i64).slice.ok (fun b => b < w.heap.size) w [v1] x1) :
    Calls Tryz.prog 3 #[v0, v1] w fun e w' => e = .returned (.bool true) ∧ Below w.heap.size w w' := by
  obtain ⟨A, ca, l, rfl, hca, hA⟩ := actArg h0
  obtain ⟨E, ecap, rfl, hec, hE, hen⟩ := numArg h1
  clear h0 h1
  have HA := Lib.hid hA
  have HE := Lib.hid hE
  have HEN := Lib.hid hen
  clear hA hE hen
  go_enter Tryz.func3, Tryz.ntmps3
  go_wp2_with fail
  refine (up11 _ hw).mono ?_
  rintro e w1 ⟨rfl, hb1⟩
  go_wp2_with fail
  refine (few_any A ca l _ (Kd.C_below HA.out hb1) hca).mono ?_
  rintro e w2 ⟨rfl, hb2⟩
  have hb12 := below_then hb1 hb1.size hb2
  have HB2 := Lib.hid hb12
  clear hb1 hb2 hb12
  by_cases hbad : fewA l = false ∨ 40 < x1.length
  · have hor : fewA l = false ∨ (fewA l = true ∧ decide ((x1.length : Int) > 40) = true) := by
      cases hf : fewA l with
      | false => exact .inl rfl
      | true =>
        rcases hbad with h | h
        · rw [hf] at h; cases h
        · exact .inr ⟨rfl, decide_eq_true (by omega)⟩
    clear hbad
    rcases hor with q1 | ⟨q1, q2⟩
    all_goals
      simp only [q1]
      go_wp2_with fail
      go_ret
      exact ⟨rfl, HB2.out⟩
  have hfe : fewA l = true := by cases hf : fewA l with
    | true => rfl
    | false => exact absurd (.inl hf) hbad
  have q2 : decide ((x1.length : Int) > 40) = false := decide_eq_false (by omega)
  have hl : l.length ≤ 40 ∧ ∀ a ∈ l, a.f3.size ≤ 281474976710656 := by
    unfold fewA at hfe
    simp only [Bool.and_eq_true, List.all_eq_true, decide_eq_true_eq] at hfe
    exact ⟨hfe.2, fun a ha => by have := hfe.1 a ha; omega⟩
  have HL := Lib.hid hl
  have hx1 : x1.length ≤ 40 := by omega
  clear hl hbad
  simp only [hfe]
  go_wp2_with fail
  refine (do_any A ca l E ecap x1 _ (hw.below HB2.out) (Kd.C_below HA.out HB2.out) hca (Kd.C_below HE.out HB2.out) hec (by have := HL.out.1; omega) (by omega) HL.out.2).mono ?_
  rintro e w4 ⟨vx, vu, vi, rfl, hx, hu, hi, hb4⟩
  have HB4 := Lib.hid (below_then HB2.out HB2.out.size hb4)
  obtain ⟨X, xc, rfl, hxc, hX⟩ := Kd.R_reads hx
  obtain ⟨U, uc, rfl, huc, hU⟩ := Kd.R_reads hu
  obtain ⟨I, ic, rfl, hic, hI⟩ := Kd.R_reads hi
  have HX := Lib.hid hX
  have HU := Lib.hid hU
  have HI := Lib.hid hI
  clear hx hu hi hb4 hX hU hI
  go_wp2_with fail
  refine (rdo_any A ca l E ecap x1 _ (Kd.C_below HA.out HB4.out) hca (Kd.C_below HE.out HB4.out) hec (by have := HL.out.1; omega) (by omega) HEN.out HL.out.2).mono ?_
  obtain ⟨hx1l, hx2l, hx3l⟩ := do_len' l ⟨x1, [], []⟩
  generalize doA ⟨x1, [], []⟩ l = r at *
  simp only [List.length_nil] at hx1l hx2l hx3l
  have hbl : r.inn.length ≤ 1000 ∧ r.out.length ≤ 1000 ∧ r.env.length ≤ 1000 := by have := HL.out.1; omega
  clear hx1l hx2l hx3l
  rintro e w5 ⟨vy, vw, vj, rfl, hx, hu, hi, hb5⟩
  have HB5 := Lib.hid (below_then HB4.out HB4.out.size hb5)
  have HX5 := Lib.hid (Kd.C_below HX.out hb5)
  have HU5 := Lib.hid (Kd.C_below HU.out hb5)
  have HI5 := Lib.hid (Kd.C_below HI.out hb5)
  obtain ⟨Y, yc, rfl, hyc, hY⟩ := Kd.R_reads hx
  obtain ⟨W2, wc, rfl, hwc, hW2⟩ := Kd.R_reads hu
  obtain ⟨J, jc, rfl, hjc, hJ⟩ := Kd.R_reads hi
  have HY := Lib.hid hY
  have HW2 := Lib.hid hW2
  have HJ := Lib.hid hJ
  clear hx hu hi hb5 hY hW2 hJ HX HU HI
  go_wp2_with fail
  refine (nums_any X Y xc yc r.env (by omega) _ HX5.out hxc HY.out hyc).mono ?_
  rintro e w6 ⟨rfl, hb6⟩
  have HB6 := Lib.hid (below_then HB5.out HB5.out.size hb6)
  have HU6 := Lib.hid (Kd.C_below HU5.out hb6)
  have HI6 := Lib.hid (Kd.C_below HI5.out hb6)
  have HW6 := Lib.hid (Kd.C_below HW2.out hb6)
  have HJ6 := Lib.hid (Kd.C_below HJ.out hb6)
  clear hb6
  go_wp2_with fail
  refine (outs_any U W2 uc wc r.out (by omega) _ HU6.out huc HW6.out hwc).mono ?_
  rintro e w7 ⟨rfl, hb7⟩
  have HB7 := Lib.hid (below_then HB6.out HB6.out.size hb7)
  have HI7 := Lib.hid (Kd.C_below HI6.out hb7)
  have HJ7 := Lib.hid (Kd.C_below HJ6.out hb7)
  clear hb7
  go_wp2_with fail
  refine (ints_any I J ic jc r.inn (by omega) _ HI7.out hic HJ7.out hjc).mono ?_
  rintro e w8 ⟨rfl, hb8⟩
  have HB8 := Lib.hid (below_then HB7.out HB7.out.size hb8)
  clear hb8
  go_wp2_with fail
  go_ret
  exact ⟨rfl, HB8.out⟩
end Go.Proofs.YtemoonhnncopoaaGreatDoor
end
section
set_option linter.unusedVariables false
set_option linter.unusedSimpArgs false
namespace Go.Proofs.YtemoonhnncopoaaGreatDoor
open Go.RowKit PX Go.Proofs.YtemoonhnncopoaaGreatDoorW.PrintWords
structure LaidE (w : World) : Prop extends Laid w where
  typ : w.cell? ⟨0, 0, none⟩ = some (.iface 213 (.agg #[.pointer (some ⟨6, 37, none⟩)]))
end Go.Proofs.YtemoonhnncopoaaGreatDoor
end
section
set_option linter.unusedVariables false
set_option linter.unusedSimpArgs false
namespace Go.Proofs.YtemoonhnncopoaaGreatDoor
open Go.ChangeShapes Go.WideShapes Go.RowKit PX Go.Proofs.YtemoonhnncopoaaGreatDoorW.PrintWords
namespace Door
abbrev laid5 : List (String × DataW Unit) := [("math/bits.deBruijn32tab", Rows.laid_math_bits_deBruijn32tab), ("math/bits.deBruijn64tab", Rows.laid_math_bits_deBruijn64tab), ("internal/strconv.uint64pow10", Rows.laid_internal_strconv_uint64pow10), ("strconv.ErrRange", Rows.laid_strconv_ErrRange), ("strconv.ErrSyntax", Rows.laid_strconv_ErrSyntax)]
theorem gRange : Tryz.prog.globalNamed "strconv.ErrRange" = some 3 := by kernel_rfl
theorem gRangeT : (Tryz.prog.globals[3]?).map (·.type) = some 37 := by kernel_rfl
theorem gPow : Tryz.prog.globalNamed "internal/strconv.uint64pow10" = some 4 := by kernel_rfl
theorem gPowT : (Tryz.prog.globals[4]?).map (·.type) = some 261 := by kernel_rfl
theorem powT : Tryz.prog.underlying 261 = some (.array 20 170) := by kernel_rfl
theorem powIs {H : Type} : (Rows.laid_internal_strconv_uint64pow10 : DataW H) = Lib.tabData .u64 Lib.pow10Tab := rfl
theorem laid_of_met5 {W : World} (h : laidMet Tryz.prog laid5 W) : Laid W := by
  obtain ⟨g, t, cs, fuel, p, h1, h2, h3, h4⟩ := Lib.laidMet.reads h (n := "strconv.ErrRange") (d := Rows.laid_strconv_ErrRange) (.tail _ (.tail _ (.tail _ (.head _))))
  obtain rfl := Option.some.inj (gRange.symm.trans h1)
  obtain rfl := Option.some.inj (gRangeT.symm.trans h2)
  obtain ⟨_, u, v, he, _, _⟩ := iface_of_trod Tryz.underlying37 h4
  have hc : cs = #[.iface u v] := Array.eq_one_of_toList he
  subst hc
  obtain ⟨g, t, cs, fuel, p, k1, k2, k3, k4⟩ := Lib.laidMet.reads h (n := "internal/strconv.uint64pow10") (d := Rows.laid_internal_strconv_uint64pow10) (.tail _ (.tail _ (.head _)))
  obtain rfl := Option.some.inj (gPow.symm.trans k1)
  obtain rfl := Option.some.inj (gPowT.symm.trans k2)
  refine ⟨⟨u, v, h3⟩, ?_⟩
  unfold Lib.TabIs
  rw [powIs] at k4
  rw [k3, ← Lib.cells_of_tab powT (by kernel_rfl) (by kernel_rfl) (by kernel_rfl) k4]
theorem laid_of5 {W : World} (h : laidMetH Tryz.prog laid5 W) : Laid W := laid_of_met5 (laidMetH_iff.1 h).1
def cellsOfData : DataW Unit → Array Value
  | .agg l => (l.map fun | .lit (.int k z) => Value.int k z | _ => .nilIface).toArray
  | _ => #[]
noncomputable def laidWorld (os : Os) : World :=
  let N := (World.holding Tryz.prog os ⟨#[], #[], []⟩).heap.size
  let w0 := World.holding Tryz.prog os ⟨#[.cells #[.string ⟨#[118, 97, 108, 117, 101, 32, 111, 117, 116, 32, 111, 102, 32, 114, 97, 110, 103, 101]⟩] 253, .cells #[.string ⟨#[105, 110, 118, 97, 108, 105, 100, 32, 115, 121, 110, 116, 97, 120]⟩] 253], #[], []⟩
  let put (h : Array Obj) (g : Nat) (cs : Array Value) : Array Obj := h.modify g fun
    | .cells _ t frozen => .cells cs t frozen
    | o => o
  { w0 with heap := put (put (put (put (put (put w0.heap
      1 (cellsOfData Rows.laid_math_bits_deBruijn32tab)) 5 (cellsOfData Rows.laid_math_bits_deBruijn64tab)) 4 (cellsOfData Rows.laid_internal_strconv_uint64pow10))
      0 #[.iface 213 (.agg #[.pointer (some ⟨6, 37, none⟩)])]) 3 #[.iface 251 (.pointer (some ⟨N, 0, none⟩))]) 2 #[.iface 251 (.pointer (some ⟨N + 1, 0, none⟩))] }
theorem met5 (os : Os) (args : Array Value) : laidMet Tryz.prog laid5 ((laidWorld os).forCall (fun _ _ => 0) ⟨#[], args, []⟩).memory :=
  laidMet_of_run3 10 (by kernel_rfl) (by kernel_rfl) (by kernel_rfl)
theorem met5H (os : Os) (args : Array Value) : laidMetH Tryz.prog laid5 ((laidWorld os).forCall (fun _ _ => 0) ⟨#[], args, []⟩).memory :=
  laidMetH_of_parts (met5 os args) (by kernel_rfl)
end Door
end Go.Proofs.YtemoonhnncopoaaGreatDoor
end
