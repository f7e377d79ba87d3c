/- What the reference's reader does: see, put, Level. -/
import Derived.Test.YtldcplgfkcionaaDoorPread
import Derived.Test.YtldcplgfkcionaaDoorTail
import Derived.Test.YtldcplgfkcionaaDoorPAllRef3
set_option linter.unusedVariables false
set_option linter.unusedSimpArgs false
namespace Go.Proofs.YtldcplgfkcionaaDoor
open Go.RowKit PX Go.Proofs.YtldcplgfkcionaaDoorW.PrintWords
theorem level_f (k : Int) : PAll.spinetref03_Level.f 3 k = some (level k : Int) := by
  simp only [PAll.spinetref03_Level.f, PAll.spinetref03_Level.j0, PAll.spinetref03_Level.j1, level]
  by_cases h1 : k = 13
  · simp [h1]
  by_cases h2 : k = 12
  · simp [h2]
  by_cases h3 : 8 ≤ k
  · by_cases h4 : k ≤ 11
    · simp [h1, h2, h3, h4]
    · have n3 : k ≠ 3 := by omega
      have n4 : k ≠ 4 := by omega
      have n7 : ¬ k ≤ 7 := by omega
      simp [h1, h2, h3, h4, n3, n4, n7]
  · by_cases h5 : k = 3
    · subst h5; simp
    · by_cases h6 : k = 4
      · subst h6; simp
      · by_cases h7 : 5 ≤ k
        · have n7 : k ≤ 7 := by omega
          simp [h1, h2, h3, h5, h6, h7, n7]
        · simp [h1, h2, h3, h5, h6, h7]
theorem level_any (k : Int) (w : World) : Calls Tryd.prog 83 #[.int .i64 k] w fun e w' => e = .returned (.int .i64 (level k : Nat)) ∧ ∃ n, w' = w.drewN n :=
  (PAll.spinetref03_Level.calls 3 k _ w (level_f k)).mono fun e w' ⟨he, hd⟩ => ⟨he, by obtain ⟨n, hn⟩ := hd; exact ⟨n, hn⟩⟩
section
variable {g : Nat} {A : Option Addr} {cap : Nat} {l : List T} {B : Nat} {w : World} {s : St} {v : Value}
abbrev RdrR (g : Nat) (A : Option Addr) (cap : Nat) (l : List T) (B : Nat) (w : World) (s : St) (v : Value) : Prop := Rdr 94 g A cap l B w s v
set_option maxHeartbeats 4000000 in
set_option maxRecDepth 100000 in
theorem see_any (hR : RdrR g A cap l B w s v) (hl : l.length ≤ 1000000) (hat : s.at_ ≤ l.length) :
    Calls Tryd.prog 81 #[.pointer (some ⟨g, 0, none⟩)] w fun e w' => e = .returned (.int .i64 (s.see l)) ∧ ∃ n, w' = w.drewN n := by
  obtain ⟨c0, c1, c2, c3, f1, f2, f3⟩ := hR.cells
  have HR := Lib.hid hR
  clear hR
  cases hb : s.bad with
  | true =>
    have hs : s.see l = 0 := by unfold St.see; rw [if_pos (.inl hb)]
    have HS := Lib.hid hs
    clear hs
    rw [hb] at c3
    go_enter Tryd.func81, Tryd.ntmps81
    go_wp2_with fail
    repeat (go_quiet (fail); try go_wp2)
    go_ret
    exact ⟨by rw [HS.out]; rfl, _, rfl⟩
  | false =>
    rw [hb] at c3
    by_cases hlt : s.at_ < l.length
    · have hsee : s.see l = (PAll.rd_T40 l s.at_).f0 := by
        unfold St.see
        rw [if_neg (by rw [hb]; simp; omega)]
        simp [PAll.rd_T40, List.getD_eq_getElem?_getD]
        rfl
      obtain ⟨ad, hA, x0, x1, x2⟩ := PAll.at_T40 HR.out.row s.at_ (by omega) (by omega)
      subst hA
      rw [← hsee] at x0
      simp only [Int.toNat_natCast] at x0
      clear hsee x1 x2
      have d1 : ((s.at_ : Int) ≥ (l.length : Int)) = False := eq_false (by omega)
      have d2 : ((l.length : Int) ≤ (s.at_ : Int)) = False := eq_false (by omega)
      have p1 : (0 ≤ (s.at_ : Int)) = True := eq_true (by omega)
      have p2 : ((s.at_ : Int) < (l.length : Int)) = True := eq_true (by omega)
      go_enter Tryd.func81, Tryd.ntmps81
      go_wp2_with fail
      repeat (go_quiet (fail); try go_wp2)
      go_ret
      exact ⟨rfl, _, by first | rfl | rw [World.drewN_drewN] | (simp; rfl)⟩
    · have hs : s.see l = 0 := by unfold St.see; rw [if_pos (.inr (by omega))]
      have HS := Lib.hid hs
      clear hs
      go_enter Tryd.func81, Tryd.ntmps81
      have d1 : ((s.at_ : Int) ≥ (l.length : Int)) = True := eq_true (by omega)
      have d2 : ((l.length : Int) ≤ (s.at_ : Int)) = True := eq_true (by omega)
      go_wp2_with fail
      repeat (go_quiet (fail); try go_wp2)
      go_ret
      exact ⟨by rw [HS.out]; rfl, _, rfl⟩
set_option maxHeartbeats 4000000 in
set_option maxRecDepth 100000 in
/-- A token behind all. -/
theorem rput_any (hR : RdrR g A cap l B w s v) (k n : Int) (hl : s.out.length < 1000000) :
    Calls Tryd.prog 82 #[.pointer (some ⟨g, 0, none⟩), .int .i64 k, .int .i64 n] w fun e w' => (∃ u, e = .returned u) ∧ ∃ v', RdrR g A cap l B w' (s.put k n) v' ∧ ChgR g v w w' ∧ Own w v v' := by
  obtain ⟨c0, c1, c2, c3, f1, f2, f3⟩ := hR.cells
  have HR := Lib.hid hR
  clear hR
  go_enter Tryd.func82, Tryd.ntmps82
  go_wp2_with (at_builtin; refine tok_append rfl (.tmp 10) (.tmp 14) rfl B _ s.out k n 0 rfl _ rfl ?aN HR.out.out ?aB ?aL ?_)
  case aN => rfl
  case aB => exact HR.out.le
  case aL => omega
  intro v1 w1 hT hg hown
  have hne : some g ≠ v.ownBlock := fun e => by have := Kd.R_base HR.out.out g e.symm; have := HR.out.lt; omega
  have hblk : w1.heap[g]? = some (.cells #[.slice A l.length cap, .int .i64 s.at_, v, .bool s.bad] 94 (0, 0)) := (hg.block g (lt_of_block HR.out.blk) hne).trans HR.out.blk
  have f2' : w1.frozen? ⟨g, 2, none⟩ = false := blk_free hblk 2
  have c2' : w1.cell? ⟨g, 2, none⟩ = some v := blk_cell hblk 2
  have HT := Lib.hid hT
  have HG := Lib.hid hg
  have HO := Lib.hid hown
  have HB := Lib.hid hblk
  obtain ⟨A1, cap1, rfl⟩ := Kd.R_slice hT
  clear hT hg hown hblk hne
  go_wp2_with fail
  go_end0
  have hp := HR.out.put (by decide) HG.out HT.out
  have hc : ChgR g v w (w1.setCell ⟨g, 2, none⟩ (.slice A1 (s.out.length + 1) cap1)) :=
    (Chg.of_grown (S := fun b => b = g ∨ some b = v.ownBlock) HG.out (fun j hj _ => .inr hj.symm)).setCell (fun _ => .inl rfl) _
  have ho := HO.out
  rw [List.length_append, List.length_singleton] at hp ho
  exact ⟨⟨_, rfl⟩, _, hp, hc, ho⟩
end
end Go.Proofs.YtldcplgfkcionaaDoor
