/- What the methods of a mailbox do, where nothing waits. -/
import Derived.Test.YtacjfoghjbhmkaaCond
import Derived.Test.YtacjfoghjbhmkaaWin
import Derived.Test.YtacjfoghjbhmkaaTail
import Derived.Test.YtacjfoghjbhmkaaErr
namespace Go.Proofs.Ytacjfoghjbhmkaa
open Go.RowKit Go.MuLone
def Bx (B : Nat) (w : World) (b c : Nat) (v : Value) (room : Int) (cl : Bool) (xs : List Int) : Prop :=
  w.heap[b]? = some (.cells #[.int .i32 0, .int .u32 0, .pointer (some ⟨c, 0, none⟩), .int .i64 room, v, .bool cl] 86 (0, 0)) ∧ IsCond w c (.iface 88 (.pointer (some ⟨b, 0, none⟩))) ∧ w.ownsRow B 3 1 v xs.length (xs.map fun x => .int .i64 x)
theorem Bx.len {B : Nat} {w : World} {b c : Nat} {v : Value} {room : Int} {cl : Bool} {xs : List Int} (h : Bx B w b c v room cl xs) : ∃ A cap, v = .slice A xs.length cap := own_slice h.2.2
theorem IsCond.keep {S : Nat → Prop} {w w' : World} {c : Nat} {l : Value} (h : IsCond w c l) (hc : Chg S w w') (hs : ¬ S c) : IsCond w' c l := by
  obtain ⟨k, hk, h⟩ := h; exact ⟨k, hk, hc.blk h hs⟩
theorem IsCond.ne {w : World} {b c : Nat} {l : Value} {cs : Array Value} {t : TypeId} {fr : Nat × Nat} (h : IsCond w c l) (hb : w.heap[b]? = some (.cells cs t fr)) (ht : t ≠ 126) : ¬ c = b := by
  obtain ⟨k, hk, h⟩ := h
  exact fun e => blk_ne hb h ht e.symm
/-- The box's block anew, the cond and the row kept. -/
theorem Bx.lay {B : Nat} {w w' : World} {b c : Nat} {v : Value} {room : Int} {cl cl' : Bool} {xs : List Int} (h : Bx B w b c v room cl xs) (hc : Chg (· = b) w w')
    (hb : w'.heap[b]? = some (.cells #[.int .i32 0, .int .u32 0, .pointer (some ⟨c, 0, none⟩), .int .i64 room, v, .bool cl'] 86 (0, 0))) : Bx B w' b c v room cl' xs :=
  ⟨hb, h.2.1.keep hc (h.2.1.ne h.1 (by decide)), own_chg h.2.2 hc fun k hk e => own_ne h.2.2 h.1 (by decide) (e ▸ hk)⟩
theorem box_len (B : Nat) (w : World) (b c : Nat) (v : Value) (room : Int) (cl : Bool) (xs : List Int) (h : Bx B w b c v room cl xs) :
    Calls Try.prog 17 #[.pointer (some ⟨b, 0, none⟩)] w fun e w' => e = .returned (.int .i64 (xs.length : Nat)) ∧ Bx B w' b c v room cl xs ∧ Chg (· = b) w w' := by
  have H := Lib.hid h
  obtain ⟨A, cap, rfl⟩ := h.len
  have hb := h.1
  have hz := blk_free hb 0
  have h0 := blk_cell hb 0
  have h4 := blk_cell hb 4
  simp at h0 h4
  clear h hb
  go_enter_defers Try.func17, Try.ntmps17
  go_wp2_with fail
  refine (lock_free muLib ⟨b, 0, none⟩ _ h0 hz).mono ?_
  rintro e w1 ⟨rfl, rfl⟩
  go_wp2
  refine leaves_cons (f := 42) (args := #[.pointer (some ⟨b, 0, none⟩)]) (by simp) (by simp [go_sem]) ?_
  refine (unlock_deferred muLib ⟨b, 0, none⟩ .returning _ (by simp [go_sem, h0]) (by simp [hz])).mono ?_
  rintro e u' w2 ⟨rfl, rfl, rfl⟩
  have hc : Chg (· = b) w ((w.setCell ⟨b, 0, none⟩ (.int .i32 1)).setCell ⟨b, 0, none⟩ (.int .i32 0)) := ((Chg.refl (· = b) w).setCell (p := ⟨b, 0, none⟩) (fun _ => rfl) _).setCell (p := ⟨b, 0, none⟩) (fun _ => rfl) _
  exact ⟨_, results_tmp rfl _ _ _, rfl, H.out.lay hc (blk_set (blk_set H.out.1 0 _) 0 _), hc⟩
theorem box_close (B : Nat) (w : World) (b c : Nat) (v : Value) (room : Int) (cl : Bool) (xs : List Int) (h : Bx B w b c v room cl xs) :
    Calls Try.prog 12 #[.pointer (some ⟨b, 0, none⟩)] w fun e w' => e = .returned (.tuple #[]) ∧ Bx B w' b c v room true xs ∧ Chg (fun k => k = b ∨ k = c) w w' := by
  have H := Lib.hid h
  have hb := h.1
  have hz := blk_free hb 0
  have hz5 := blk_free hb 5
  have h0 := blk_cell hb 0
  have h2 := blk_cell hb 2
  have h5 := blk_cell hb 5
  simp at h0 h2 h5
  clear h hb
  go_enter_defers Try.func12, Try.ntmps12
  go_wp2_with fail
  refine (lock_free muLib ⟨b, 0, none⟩ _ h0 hz).mono ?_
  rintro e w1 ⟨rfl, rfl⟩
  go_wp2_with fail
  have hc1 : Chg (· = b) w ((w.setCell ⟨b, 0, none⟩ (.int .i32 1)).setCell ⟨b, 5, none⟩ (.bool true)) := ((Chg.refl (· = b) w).setCell (p := ⟨b, 0, none⟩) (fun _ => rfl) _).setCell (p := ⟨b, 5, none⟩) (fun _ => rfl) _
  have hcb := H.out.2.1.ne H.out.1 (by decide)
  have hb1 := blk_set (blk_set H.out.1 0 (.int .i32 1)) 5 (.bool true)
  have hk1 := H.out.2.1.keep hc1 hcb
  refine (broadcast _ c _ hk1).mono ?_
  rintro e w2 ⟨rfl, hk2, hc2⟩
  go_wp2
  have hb2 := hc2.blk hb1 (fun e => hcb e.symm)
  have g0 := blk_cell hb2 0
  have gz := blk_free hb2 0
  simp at g0
  refine leaves_cons (f := 42) (args := #[.pointer (some ⟨b, 0, none⟩)]) (by simp) (by simp [go_sem]) ?_
  refine (unlock_deferred muLib ⟨b, 0, none⟩ .returning _ g0 gz).mono ?_
  rintro e u' w3 ⟨rfl, rfl, rfl⟩
  have hc3 : Chg (· = b) w2 (w2.setCell ⟨b, 0, none⟩ (.int .i32 0)) := (Chg.refl (· = b) w2).setCell (p := ⟨b, 0, none⟩) (fun _ => rfl) _
  have hca : Chg (fun k => k = b ∨ k = c) w w2 := (hc1.mono fun _ _ => .inl).trans (hc2.mono fun _ _ => .inr)
  refine ⟨_, results_none rfl _ _ _, rfl, ⟨blk_set hb2 0 _, hk2.keep hc3 hcb, ?_⟩, hca.trans (hc3.mono fun _ _ => .inl)⟩
  have ho := H.out.2.2
  have hn := own_ne ho H.out.1 (by decide)
  obtain ⟨kk, _, hcc⟩ := H.out.2.1
  have hn2 := own_ne ho hcc (by decide)
  exact own_chg (own_chg ho hca fun k hk e => by rcases e with e | e; exact hn (e ▸ hk); exact hn2 (e ▸ hk)) hc3 fun k hk e => hn (e ▸ hk)
end Go.Proofs.Ytacjfoghjbhmkaa
