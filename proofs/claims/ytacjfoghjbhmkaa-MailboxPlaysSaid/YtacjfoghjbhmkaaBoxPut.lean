/- put and take of a mailbox, where nothing waits. -/
import Derived.Test.YtacjfoghjbhmkaaBox
namespace Go.Proofs.Ytacjfoghjbhmkaa
open Go.RowKit Go.MuLone
def putErr (room : Int) (cl : Bool) (xs : List Int) : Value := if cl then .iface 32 (.int .i64 12) else if room ≤ xs.length then .iface 32 (.int .i64 6) else .nilIface
theorem int_info : (Try.prog.info? 3).map (fun i => (i.zero, i.size, i.bytes)) = some (some (.int .i64 0), 1, 8) := by kernel_rfl
theorem box_unlock {B : Nat} {w w1 : World} {b c : Nat} {v : Value} {room : Int} {cl cl' : Bool} {xs : List Int} (h : Bx B w b c v room cl xs) (hc1 : Chg (· = b) w w1)
    (hb1 : w1.heap[b]? = some (.cells #[.int .i32 1, .int .u32 0, .pointer (some ⟨c, 0, none⟩), .int .i64 room, v, .bool cl'] 86 (0, 0))) :
    Bx B (w1.setCell ⟨b, 0, none⟩ (.int .i32 0)) b c v room cl' xs ∧ Chg (· = b) w (w1.setCell ⟨b, 0, none⟩ (.int .i32 0)) := by
  have hc := hc1.setCell (p := ⟨b, 0, none⟩) (fun _ => rfl) (.int .i32 0)
  exact ⟨h.lay hc (blk_set hb1 0 _), hc⟩
theorem box_done {B : Nat} {w W w5 : World} {b c : Nat} {v0 v1 : Value} {room : Int} {cl : Bool} {xs ys : List Int} (h : Bx B w b c v0 room cl xs) (hcW : Chg (· = b) w W)
    (hbW : W.heap[b]? = some (.cells #[.int .i32 1, .int .u32 0, .pointer (some ⟨c, 0, none⟩), .int .i64 room, v0, .bool cl] 86 (0, 0)))
    (hchg : Chg (fun k => v0.ownBlock = some k) W w5) (hown : w5.ownsRow B 3 1 v1 ys.length (ys.map fun x => .int .i64 x)) :
    IsCond (w5.setCell ⟨b, 4, none⟩ v1) c (.iface 88 (.pointer (some ⟨b, 0, none⟩))) ∧ ∀ w7, IsCond w7 c (.iface 88 (.pointer (some ⟨b, 0, none⟩))) → Chg (· = c) (w5.setCell ⟨b, 4, none⟩ v1) w7 →
      w7.cell? ⟨b, 0, none⟩ = some (.int .i32 1) ∧ w7.frozen? ⟨b, 0, none⟩ = false ∧ Bx B (w7.setCell ⟨b, 0, none⟩ (.int .i32 0)) b c v1 room cl ys ∧ Chg (fun k => k = b ∨ k = c ∨ v0.ownBlock = some k) w (w7.setCell ⟨b, 0, none⟩ (.int .i32 0)) := by
  have hcb := h.2.1.ne h.1 (by decide)
  have hbv : ¬ v0.ownBlock = some b := own_ne h.2.2 h.1 (by decide)
  have hcv : ¬ v0.ownBlock = some c := by
    obtain ⟨kk, _, hcc⟩ := h.2.1
    exact own_ne h.2.2 hcc (by decide)
  have hb5 := hchg.blk hbW hbv
  have hk5 := (h.2.1.keep hcW hcb).keep hchg hcv
  have hc6 : Chg (· = b) w5 (w5.setCell ⟨b, 4, none⟩ v1) := (Chg.refl (· = b) w5).setCell (p := ⟨b, 4, none⟩) (fun _ => rfl) _
  have hk6 := hk5.keep hc6 hcb
  have hb6 := blk_set hb5 4 v1
  have hbn : v1.ownBlock ≠ some b := own_ne hown hb5 (by decide)
  have ho6 := own_far hown (p := ⟨b, 4, none⟩) hbn v1
  refine ⟨hk6, fun w7 hk7 hc7 => ?_⟩
  have hb7 := hc7.blk hb6 (fun e => hcb e.symm)
  have hcn : v1.ownBlock ≠ some c := by
    obtain ⟨kk, _, hcc⟩ := hk6
    exact own_ne ho6 hcc (by decide)
  have ho7 := own_chg ho6 hc7 fun k hk e => hcn (e ▸ hk)
  have hc8 : Chg (· = b) w7 (w7.setCell ⟨b, 0, none⟩ (.int .i32 0)) := (Chg.refl (· = b) w7).setCell (p := ⟨b, 0, none⟩) (fun _ => rfl) _
  refine ⟨by simpa using blk_cell hb7 0, blk_free hb7 0, ⟨by simpa using blk_set hb7 0 (.int .i32 0), hk7.keep hc8 hcb, own_far ho7 (p := ⟨b, 0, none⟩) hbn _⟩, ?_⟩
  exact (((((hcW.mono fun _ _ => .inl).trans (hchg.mono fun _ _ h => .inr (.inr h))).trans (hc6.mono fun _ _ => .inl)).trans (hc7.mono fun _ _ h => .inr (.inl h))).trans (hc8.mono fun _ _ => .inl))
set_option maxHeartbeats 1600000 in
theorem box_put_no (B : Nat) (w : World) (b c : Nat) (v : Value) (room : Int) (cl : Bool) (xs : List Int) (n : Int) (wait : Bool) (h : Bx B w b c v room cl xs) (hw : wait = true → cl = true) (hfull : cl = true ∨ room ≤ xs.length) :
    Calls Try.prog 40 #[.pointer (some ⟨b, 0, none⟩), .int .i64 n, .bool wait] w fun e w' => e = .returned (putErr room cl xs) ∧ Bx B w' b c v room cl xs ∧ Chg (· = b) w w' := by
  have H := Lib.hid h
  obtain ⟨A, cap, rfl⟩ := h.len
  have hb := h.1
  have hz := blk_free hb 0
  have h0 := blk_cell hb 0
  have h3 := blk_cell hb 3
  have h4 := blk_cell hb 4
  have h5 := blk_cell hb 5
  simp at h0 h3 h4 h5
  clear h hb
  have hgo : (wait && !cl) = false := by cases wait <;> cases cl <;> simp_all
  cases cl
  · obtain rfl : wait = false := by simpa using hgo
    have hf : room ≤ xs.length := by simpa using hfull
    have hfb : decide (room ≤ (xs.length : Int)) = true := by simpa using hf
    have hpe : putErr room false xs = .iface 32 (.int .i64 6) := by simp [putErr, hf]
    rw [hpe]
    clear hpe hfull hw hgo
    go_enter_defers Try.func40, Try.ntmps40
    go_wp2_with fail
    refine (lock_free muLib ⟨b, 0, none⟩ _ h0 hz).mono ?_
    rintro e w1 ⟨rfl, rfl⟩
    have hcL : Chg (· = b) w (w.setCell ⟨b, 0, none⟩ (.int .i32 1)) := (Chg.refl (· = b) w).setCell (p := ⟨b, 0, none⟩) (fun _ => rfl) _
    have hbL := blk_set H.out.1 0 (.int .i32 1)
    go_wp2_with fail
    go_loopw [] (fun wr => ∃ m, wr = (w.setCell ⟨b, 0, none⟩ (.int .i32 1)).drewN m) (fun _ => 0)
    case atStart => exact ⟨0, rfl⟩
    case round =>
      obtain ⟨m, rfl⟩ := hrel
      go_wp2_with fail
      go_quiet (fail)
      go_wp2_with fail
      go_quiet (fail)
      go_wp2
      refine leaves_cons (f := 42) (args := #[.pointer (some ⟨b, 0, none⟩)]) (by simp) (by simp [go_sem]) ?_
      refine (unlock_deferred muLib ⟨b, 0, none⟩ .returning _ (by simp [go_sem, h0]) (by simp [go_sem, hz])).mono ?_
      rintro e u' w3 ⟨rfl, rfl, rfl⟩
      refine ⟨_, results_tmp rfl _ _ _, rfl, ?_⟩
      exact box_unlock H.out (by first | exact hcL.drewN _ | exact (hcL.drewN _).drewN _) (by first | exact blk_drewN _ hbL | exact blk_drewN _ (blk_drewN _ hbL))
  · have hgo : (wait && !true) = false := by simp
    rw [show putErr room true xs = .iface 32 (.int .i64 12) from rfl]
    clear hfull hw hgo
    go_enter_defers Try.func40, Try.ntmps40
    go_wp2_with fail
    refine (lock_free muLib ⟨b, 0, none⟩ _ h0 hz).mono ?_
    rintro e w1 ⟨rfl, rfl⟩
    have hcL : Chg (· = b) w (w.setCell ⟨b, 0, none⟩ (.int .i32 1)) := (Chg.refl (· = b) w).setCell (p := ⟨b, 0, none⟩) (fun _ => rfl) _
    have hbL := blk_set H.out.1 0 (.int .i32 1)
    go_wp2_with fail
    go_loopw [] (fun wr => ∃ m, wr = (w.setCell ⟨b, 0, none⟩ (.int .i32 1)).drewN m) (fun _ => 0)
    case atStart => exact ⟨0, rfl⟩
    case round =>
      obtain ⟨m, rfl⟩ := hrel
      cases wait
      all_goals
        go_wp2_with fail
        go_quiet (fail)
        go_wp2
        refine leaves_cons (f := 42) (args := #[.pointer (some ⟨b, 0, none⟩)]) (by simp) (by simp [go_sem]) ?_
        refine (unlock_deferred muLib ⟨b, 0, none⟩ .returning _ (by simp [go_sem, h0]) (by simp [go_sem, hz])).mono ?_
        rintro e u' w3 ⟨rfl, rfl, rfl⟩
        refine ⟨_, results_tmp rfl _ _ _, rfl, ?_⟩
        exact box_unlock H.out (by first | exact hcL.drewN _ | exact (hcL.drewN _).drewN _) (by first | exact blk_drewN _ hbL | exact blk_drewN _ (blk_drewN _ hbL))
set_option maxHeartbeats 1600000 in
theorem box_put_ok (B : Nat) (w : World) (b c : Nat) (v : Value) (room : Int) (xs : List Int) (n : Int) (wait : Bool) (h : Bx B w b c v room false xs) (hroom : (xs.length : Int) < room) (hl : xs.length ≤ 100000) (hB : B ≤ w.heap.size) :
    Calls Try.prog 40 #[.pointer (some ⟨b, 0, none⟩), .int .i64 n, .bool wait] w fun e w' => e = .returned .nilIface ∧ ∃ v', Bx B w' b c v' room false (xs ++ [n]) ∧ Chg (fun k => k = b ∨ k = c ∨ v.ownBlock = some k) w w' ∧ (v'.ownBlock = v.ownBlock ∨ ∃ k, v'.ownBlock = some k ∧ w.heap.size ≤ k) := by
  have H := Lib.hid h
  obtain ⟨A, cap, rfl⟩ := h.len
  have hb := h.1
  have hz := blk_free hb 0
  have hz3 := blk_free hb 4
  have h0 := blk_cell hb 0
  have h2 := blk_cell hb 2
  have h3 := blk_cell hb 3
  have h4 := blk_cell hb 4
  have h5 := blk_cell hb 5
  simp at h0 h2 h3 h4 h5
  clear h hb
  have hfb : decide (room ≤ (xs.length : Int)) = false := by simpa using hroom
  have HR := Lib.hid hroom
  clear hroom
  have hcL : Chg (· = b) w (w.setCell ⟨b, 0, none⟩ (.int .i32 1)) := (Chg.refl (· = b) w).setCell (p := ⟨b, 0, none⟩) (fun _ => rfl) _
  have hbL := Lib.hid (blk_set H.out.1 0 (.int .i32 1))
  have hoL := Lib.hid (own_chg H.out.2.2 hcL fun k hk e => own_ne H.out.2.2 H.out.1 (by decide) (e ▸ hk))
  have hkL := Lib.hid (H.out.2.1.keep hcL (H.out.2.1.ne H.out.1 (by decide)))
  go_enter_defers Try.func40, Try.ntmps40
  go_wp2_with fail
  refine (lock_free muLib ⟨b, 0, none⟩ _ h0 hz).mono ?_
  rintro e w1 ⟨rfl, rfl⟩
  go_wp2_with fail
  go_loopw [] (fun wr => ∃ m, wr = (w.setCell ⟨b, 0, none⟩ (.int .i32 1)).drewN m) (fun _ => 0)
  case atStart => exact ⟨0, rfl⟩
  case round =>
    obtain ⟨m, rfl⟩ := hrel
    cases wait
    all_goals
      go_wp2_with fail
      go_quiet (fail)
      go_wp2_with fail
      go_quiet (fail)
      go_wp2_with (at_builtin; refine app_one rfl _ _ 22 3 (.int .i64 0) 1 8 rfl Try.underlying22 int_info rfl (by decide) (by decide) B (.slice A xs.length cap) xs.length _ _ _ rfl rfl (by simp) rfl (by simp [Value.oneCell']) (own_drewN hoL.out _) (by simp; omega) (by omega) ?_; intro v1 w5 hown hchg hat; obtain ⟨g, cap', rfl, _⟩ := own_shape hown (by omega); have hB5 := Lib.hid (hchg.blk (blk_drewN _ hbL.out) (own_ne hoL.out hbL.out (by decide))); have r3 := blk_free hB5.out 4; have r4 := blk_cell hB5.out 4; have r2 := blk_cell hB5.out 2; have HO5 := Lib.hid hown; have HA5 := Lib.hid hat; clear hown hat; simp at r2 r4)
      obtain ⟨q1, q2⟩ := box_done H.out (hcL.drewN _) (blk_drewN _ hbL.out) hchg (ys := xs ++ [n]) (by simpa using HO5.out)
      refine (broadcast _ c _ q1).mono ?_
      rintro e w7 ⟨rfl, hk7, hc7⟩
      obtain ⟨q3, q4, q5, q6⟩ := q2 w7 hk7 hc7
      have Q5 := Lib.hid q5
      have hat := HA5.out
      clear q2 q5 HA5
      go_wp2
      refine leaves_cons (f := 42) (args := #[.pointer (some ⟨b, 0, none⟩)]) (by simp) (by simp [go_sem]) ?_
      refine (unlock_deferred muLib ⟨b, 0, none⟩ .returning _ q3 q4).mono ?_
      rintro e u' w8 ⟨rfl, rfl, rfl⟩
      refine ⟨_, results_tmp rfl _ _ _, rfl, _, by simpa using Q5.out, q6, ?_⟩
      rcases hat with hat | ⟨k, hk, hlt⟩
      · exact .inl hat
      · exact .inr ⟨k, hk, by simpa using hlt⟩
end Go.Proofs.Ytacjfoghjbhmkaa
