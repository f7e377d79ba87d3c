/- take of a mailbox, where nothing waits. -/
import Derived.Test.YtacjfoghjbhmkaaBoxPut
namespace Go.Proofs.Ytacjfoghjbhmkaa
open Go.RowKit Go.MuLone
set_option maxHeartbeats 1600000 in
theorem box_take_none (B : Nat) (w : World) (b c : Nat) (v : Value) (room : Int) (cl wait : Bool) (h : Bx B w b c v room cl []) (hw : wait = true → cl = true) :
    Calls Try.prog 44 #[.pointer (some ⟨b, 0, none⟩), .bool wait] w fun e w' => e = .returned (.tuple #[.int .i64 0, .bool false]) ∧ Bx B w' b c v room cl [] ∧ Chg (· = b) w w' := by
  have H := Lib.hid h
  obtain ⟨A, cap, rfl⟩ := h.len
  have hb := h.1
  have hz := blk_free hb 0
  have h0 := blk_cell hb 0
  have h4 := blk_cell hb 4
  have h5 := blk_cell hb 5
  simp at h0 h4 h5
  clear h hb
  have hcL : Chg (· = b) w (w.setCell ⟨b, 0, none⟩ (.int .i32 1)) := (Chg.refl (· = b) w).setCell (p := ⟨b, 0, none⟩) (fun _ => rfl) _
  have hbL := blk_set H.out.1 0 (.int .i32 1)
  go_enter_defers Try.func44, Try.ntmps44
  go_wp2_with fail
  refine (lock_free muLib ⟨b, 0, none⟩ _ h0 hz).mono ?_
  rintro e w1 ⟨rfl, rfl⟩
  go_wp2_with fail
  go_loopw [] (fun wr => wr = w.setCell ⟨b, 0, none⟩ (.int .i32 1)) (fun _ => 0)
  case atStart => rfl
  case round =>
    subst hrel
    cases wait
    case' true => obtain rfl : cl = true := hw rfl
    all_goals
      clear hw
      go_wp2
      refine leaves_cons (f := 42) (args := #[.pointer (some ⟨b, 0, none⟩)]) (by simp) (by simp [go_sem]) ?_
      refine (unlock_deferred muLib ⟨b, 0, none⟩ .returning _ (by simp [go_sem, h0]) (by simp [go_sem, hz])).mono ?_
      rintro e u' w3 ⟨rfl, rfl, rfl⟩
      refine ⟨_, results_tmp2 rfl _ _ _, rfl, ?_⟩
      exact box_unlock H.out hcL hbL
set_option maxHeartbeats 1600000 in
theorem box_take_some (B : Nat) (w : World) (b c : Nat) (v : Value) (room : Int) (cl : Bool) (x : Int) (ys : List Int) (wait : Bool) (h : Bx B w b c v room cl (x :: ys)) (hl : ys.length ≤ 100000) (hB : B ≤ w.heap.size) :
    Calls Try.prog 44 #[.pointer (some ⟨b, 0, none⟩), .bool wait] w fun e w' => e = .returned (.tuple #[.int .i64 x, .bool true]) ∧ ∃ v', Bx B w' b c v' room cl ys ∧ Chg (fun k => k = b ∨ k = c ∨ v.ownBlock = some k) w w' ∧ (v'.ownBlock = v.ownBlock ∨ ∃ k, v'.ownBlock = some k ∧ w.heap.size ≤ k) := by
  have hlen : (x :: ys).length = ys.length + 1 := rfl
  generalize hxs : x :: ys = xs at h hlen
  have HXS := Lib.hid hxs
  have H := Lib.hid h
  obtain ⟨A, cap, rfl⟩ := h.len
  have hb := h.1
  have hcL : Chg (· = b) w (w.setCell ⟨b, 0, none⟩ (.int .i32 1)) := (Chg.refl (· = b) w).setCell (p := ⟨b, 0, none⟩) (fun _ => rfl) _
  have hbL := Lib.hid (blk_set H.out.1 0 (.int .i32 1))
  have hoL := own_chg H.out.2.2 hcL fun k hk e => own_ne H.out.2.2 H.out.1 (by decide) (e ▸ hk)
  obtain ⟨g, cap', hv, hgB, hgl, hcl, hcm, hcell, hfree⟩ := own_shape hoL (by omega)
  injection hv with hv _ hcc
  subst hv hcc
  have hx0 := hcell 0 (.int .i64 x) (by rw [← hxs]; rfl)
  have HC0 := Lib.hid hcell
  have HO := Lib.hid hoL
  clear hcell hfree hoL
  have hz := blk_free hb 0
  have hz4 := blk_free hb 4
  have h0 := blk_cell hb 0
  have h2 := blk_cell hb 2
  have h4 := blk_cell hb 4
  have h5 := blk_cell hb 5
  simp at h0 h2 h4 h5
  have hblt := lt_of_block hb
  have hgb : ¬ g = b := fun e => own_ne H.out.2.2 hb (by decide) (by rw [e]; rfl)
  clear h hb
  clear hxs
  have hne : (((xs.length : Nat) : Int) == 0) = false := beq_eq_false_iff_ne.mpr (by omega)
  have hN1 : 1 ≤ xs.length := by omega
  have HL := Lib.hid hlen
  have hxl : xs.length ≤ 100001 := by omega
  have HY := Lib.hid (show (ys.map (Value.int .i64)).length = (xs.length - 1) * 1 by rw [hlen]; simp)
  have HY1 : Hid (∀ u ∈ ys.map (Value.int .i64), u.oneCell' = true) := by
    intro u hu; obtain ⟨x, _, rfl⟩ := List.mem_map.1 hu; rfl
  have HC1 : Hid (∀ j u, (ys.map (Value.int .i64))[j]? = some u → ((w.setCell ⟨b, 0, none⟩ (.int .i32 1)).alloc (.cells #[] 3)).cell? ((⟨g, 1, none⟩ : Addr).add j) = some u) := by
    intro j u hu
    rw [add_at]
    have c := HC0.out (1 + j) u (by rw [← HXS.out]; simpa [Nat.add_comm 1 j] using hu)
    exact cell_agree (fun _ => Below.heap_alloc _ _ _ (by simpa using hgl)) c
  have HC2 : Hid (cap = 1 → ∀ j u, (ys.map (Value.int .i64))[j]? = some u → ((w.setCell ⟨b, 0, none⟩ (.int .i32 1)).alloc (.cells #[] 3)).cell? ((⟨g, 0, none⟩ : Addr).add j) = some u) := by
    intro h1 j u hu
    have : ys = [] := List.eq_nil_of_length_eq_zero (by omega)
    subst this
    simp at hu
  have HE := Lib.hid (show ((w.setCell ⟨b, 0, none⟩ (.int .i32 1)).alloc (.cells #[] 3)).ownsRow B 3 1 (.slice (some ⟨w.heap.size, 0, none⟩) 0 0) 0 [] from
    ⟨rfl, .inr ⟨w.heap.size, 0, #[], rfl, hB, by simpa using blk_new (w.setCell ⟨b, 0, none⟩ (.int .i32 1)) (.cells #[] 3), Nat.le_refl _, Nat.zero_le _, rfl, rfl⟩⟩)
  clear hlen
  go_enter_defers Try.func44, Try.ntmps44
  go_wp2_with fail
  refine (lock_free muLib ⟨b, 0, none⟩ _ h0 hz).mono ?_
  rintro e w1 ⟨rfl, rfl⟩
  go_wp2_with fail
  go_loopw [] (fun wr => wr = w.setCell ⟨b, 0, none⟩ (.int .i32 1)) (fun _ => 0)
  case atStart => rfl
  case round =>
    subst hrel
    by_cases hcap : cap = 1
    · subst hcap
      cases wait
      all_goals cases cl
      all_goals
        go_wp2_with fail
        obtain ⟨q1, q2⟩ := box_done H.out hcL hbL.out ((Chg.refl _ _).alloc (.cells #[] 3)) (ys := []) HE.out
        rw [World.setCell_alloc_past _ _ _ _ (by simpa using hblt)] at q1 q2
        obtain rfl : ys = [] := List.eq_nil_of_length_eq_zero (by have := HL.out; omega)
        refine (broadcast _ c _ q1).mono ?_
        rintro e w7 ⟨rfl, hk7, hc7⟩
        obtain ⟨q3, q4, q5, q6⟩ := q2 w7 hk7 hc7
        have Q5 := Lib.hid q5
        clear q2 q5
        go_wp2
        refine leaves_cons (f := 42) (args := #[.pointer (some ⟨b, 0, none⟩)]) (by simp) (by simp [go_sem]) ?_
        refine (unlock_deferred muLib ⟨b, 0, none⟩ .returning _ q3 q4).mono ?_
        rintro e u' w8 ⟨rfl, rfl, rfl⟩
        refine ⟨_, results_tmp2 rfl _ _ _, rfl, _, Q5.out, q6, .inr ?_⟩
        exact ⟨_, rfl, Nat.le_refl _⟩
    · cases wait
      all_goals cases cl
      all_goals
        go_wp2_with (at_builtin; refine app_from rfl _ _ 22 3 (.int .i64 0) 1 8 rfl Try.underlying22 int_info rfl (by decide) (by decide) B (.slice (some ⟨w.heap.size, 0, none⟩) 0 0) 0 [] _ ⟨g, 1, none⟩ (xs.length - 1) (cap - 1) rfl rfl HY.out HY1.out HC1.out HE.out (by simp; omega) (by omega) ?_; intro v2 w2 hown2 hchg2 hat2; obtain ⟨A2, cap2, rfl⟩ := own_slice hown2; have HCH := Lib.hid (show Chg (fun k => (Value.slice (some ⟨g, 0, none⟩) xs.length cap).ownBlock = some k) (w.setCell ⟨b, 0, none⟩ (.int .i32 1)) w2 from ((Chg.refl _ _).alloc _).trans' hchg2 (fun i hi e => by simp [Value.ownBlock] at e hi; omega)); have HB2 := Lib.hid (HCH.out.blk hbL.out (fun e => hgb (by simpa [Value.ownBlock] using e))); have r3 := blk_free HB2.out 4; have r4 := blk_cell HB2.out 4; have r2 := blk_cell HB2.out 2; have HOWN2 := Lib.hid hown2; have HAT2 := Lib.hid hat2; clear hown2 hat2 hchg2; simp at r2 r4)
        obtain ⟨q1, q2⟩ := box_done H.out hcL hbL.out HCH.out (ys := ys) (v1 := .slice A2 (xs.length - 1) cap2) (by have := HOWN2.out; have hq : xs.length - 1 = ys.length := (by have := HL.out; omega); rw [Nat.zero_add, hq] at this; rw [hq]; exact this)
        refine (broadcast _ c _ q1).mono ?_
        rintro e w7 ⟨rfl, hk7, hc7⟩
        obtain ⟨q3, q4, q5, q6⟩ := q2 w7 hk7 hc7
        have Q5 := Lib.hid q5
        have hat := HAT2.out
        clear q2 q5 HAT2
        go_wp2
        refine leaves_cons (f := 42) (args := #[.pointer (some ⟨b, 0, none⟩)]) (by simp) (by simp [go_sem]) ?_
        refine (unlock_deferred muLib ⟨b, 0, none⟩ .returning _ q3 q4).mono ?_
        rintro e u' w8 ⟨rfl, rfl, rfl⟩
        refine ⟨_, results_tmp2 rfl _ _ _, rfl, _, Q5.out, q6, .inr ?_⟩
        rw [Nat.zero_add] at hat
        rcases hat with hat | hat
        · exact ⟨w.heap.size, hat.trans rfl, Nat.le_refl _⟩
        · exact ⟨_, hat, by simp⟩
end Go.Proofs.Ytacjfoghjbhmkaa
