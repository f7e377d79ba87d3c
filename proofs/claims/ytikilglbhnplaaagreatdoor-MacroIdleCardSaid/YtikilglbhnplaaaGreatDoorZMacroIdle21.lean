/- Texts of this claim, merged (Mac, Mrnd, Msl, Mfst, Mfr, Msta, Mtak, Actsame). -/
import Derived.Test.YtikilglbhnplaaaGreatDoorZMacroIdle20
import Derived.Test.YtikilglbhnplaaaGreatDoorZMacroIdle9
import Derived.Test.YtikilglbhnplaaaGreatDoorZMacroIdle10
import Derived.Test.YtikilglbhnplaaaGreatDoorZMacroIdle11
import Derived.Test.YtikilglbhnplaaaGreatDoorZMacroIdle13
set_option linter.unusedVariables false
set_option linter.unusedSimpArgs false
set_option maxRecDepth 100000
set_option maxHeartbeats 64000000
section
namespace Go.Proofs.YtikilglbhnplaaaGreatDoor
open Go.RowKit Go.Proofs.YtikilglbhnplaaaGreatDoorW.PrintWords
open PX (T V)
abbrev ruO (g : Nat) (conf : Nat) (vh ve vi : Value) (stat : Int) (vo : Value) (fuel : Nat) : Obj :=
 .cells #[.pointer (some ⟨g, 0, none⟩), .int .u32 (conf : Nat), vh, ve, vi, .int .i64 stat, vo, .int .i64 (fuel : Nat)] 120
structure RuR (w0 : World) (rb g : Nat) (w : World) (m : Ses) (fuel : Nat) (vh ve vi vo : Value) : Prop where
 low : Below w0.heap.size w0 w
 ge : w0.heap.size ≤ rb
 blk : w.heap[rb]? = some (ruO g m.conf vh ve vi m.stat vo fuel)
 hist : HisR w w0.heap.size vh m.hist
 env : EnvR w w0.heap.size ve m.env
 inn : InnR w w0.heap.size vi m.inn
 out : OutR w w0.heap.size vo m.out
 conf : m.conf < 4294967296
def RuM (w0 : World) (rb g : Nat) (w : World) (m : Ses) (fuel : Nat) : Prop := ∃ vh ve vi vo, RuR w0 rb g w m fuel vh ve vi vo
section
variable {w0 : World} {rb g : Nat} {w : World} {m : Ses} {fuel : Nat} {vh ve vi vo : Value}
theorem RuR.below {w' : World} (h : RuR w0 rb g w m fuel vh ve vi vo) (hb : Below w.heap.size w w') : RuR w0 rb g w' m fuel vh ve vi vo :=
 ⟨below_then h.low h.low.size hb, h.ge, (hb.block _ (lt_of_block h.blk)).trans h.blk, Kd.R_below h.hist hb, Kd.R_below h.env hb, Kd.R_below h.inn hb, Kd.R_below h.out hb, h.conf⟩
theorem RuR.cells (h : RuR w0 rb g w m fuel vh ve vi vo) : (w.cell? ⟨rb, 0, none⟩ = some (.pointer (some ⟨g, 0, none⟩)) ∧ w.cell? ⟨rb, 1, none⟩ = some (.int .u32 (m.conf : Nat)) ∧ w.cell? ⟨rb, 2, none⟩ = some vh ∧ w.cell? ⟨rb, 3, none⟩ = some ve ∧ w.cell? ⟨rb, 4, none⟩ = some vi ∧ w.cell? ⟨rb, 5, none⟩ = some (.int .i64 m.stat) ∧ w.cell? ⟨rb, 6, none⟩ = some vo ∧ w.cell? ⟨rb, 7, none⟩ = some (.int .i64 (fuel : Nat))) ∧
  w.frozen? ⟨rb, 1, none⟩ = false ∧ w.frozen? ⟨rb, 2, none⟩ = false ∧ w.frozen? ⟨rb, 3, none⟩ = false ∧ w.frozen? ⟨rb, 4, none⟩ = false ∧ w.frozen? ⟨rb, 5, none⟩ = false ∧ w.frozen? ⟨rb, 6, none⟩ = false ∧ w.frozen? ⟨rb, 7, none⟩ = false :=
 ⟨⟨blk_cell h.blk 0, blk_cell h.blk 1, blk_cell h.blk 2, blk_cell h.blk 3, blk_cell h.blk 4, blk_cell h.blk 5, blk_cell h.blk 6, blk_cell h.blk 7⟩, blk_free h.blk 1, blk_free h.blk 2, blk_free h.blk 3, blk_free h.blk 4, blk_free h.blk 5, blk_free h.blk 6, blk_free h.blk 7⟩
theorem RuR.rows_set {B : Nat} {lh le li : List Int} {lo : List Ou} (h1 : HisR w B vh lh) (h2 : EnvR w B ve le) (h3 : InnR w B vi li) (h4 : OutR w B vo lo) {cs : Array Value} (hb : w.heap[rb]? = some (.cells cs 120 (0, 0))) (j : Nat) (u : Value) :
  HisR (w.setCell ⟨rb, j, none⟩ u) B vh lh ∧ EnvR (w.setCell ⟨rb, j, none⟩ u) B ve le ∧ InnR (w.setCell ⟨rb, j, none⟩ u) B vi li ∧ OutR (w.setCell ⟨rb, j, none⟩ u) B vo lo :=
 ⟨Kd.R_set h1 hb (by decide) j u, Kd.R_set h2 hb (by decide) j u, Kd.R_set h3 hb (by decide) j u, Kd.R_set h4 hb (out_q (by decide)) j u⟩
theorem RuR.putStat (h : RuR w0 rb g w m fuel vh ve vi vo) (s : Int) : RuR w0 rb g (w.setCell ⟨rb, 5, none⟩ (.int .i64 s)) { m with stat := s } fuel vh ve vi vo := by
 obtain ⟨r1, r2, r3, r4⟩ := RuR.rows_set h.hist h.env h.inn h.out h.blk 5 (.int .i64 s)
 exact ⟨h.low.setCell (p := ⟨rb, 5, none⟩) h.ge _, h.ge, blk_set h.blk 5 _, r1, r2, r3, r4, h.conf⟩
theorem RuR.putFuel (h : RuR w0 rb g w m fuel vh ve vi vo) (f : Nat) : RuR w0 rb g (w.setCell ⟨rb, 7, none⟩ (.int .i64 (f : Nat))) m f vh ve vi vo := by
 obtain ⟨r1, r2, r3, r4⟩ := RuR.rows_set h.hist h.env h.inn h.out h.blk 7 (.int .i64 (f : Nat))
 exact ⟨h.low.setCell (p := ⟨rb, 7, none⟩) h.ge _, h.ge, blk_set h.blk 7 _, r1, r2, r3, r4, h.conf⟩
theorem RuR.putInn {vi' : Value} {l : List Int} (h : RuR w0 rb g w m fuel vh ve vi vo) (h1 : InnR w w0.heap.size vi' l) : RuR w0 rb g (w.setCell ⟨rb, 4, none⟩ vi') { m with inn := l } fuel vh ve vi' vo := by
 obtain ⟨r1, r2, r3, r4⟩ := RuR.rows_set h.hist h.env h1 h.out h.blk 4 vi'
 exact ⟨h.low.setCell (p := ⟨rb, 4, none⟩) h.ge _, h.ge, blk_set h.blk 4 _, r1, r2, r3, r4, h.conf⟩
theorem RuR.appInn {vi' : Value} {l : List Int} {w8 : World} (h : RuR w0 rb g w m fuel vh ve vi vo) (h8 : InnR w8 w0.heap.size vi' l) (hb : Below w0.heap.size w w8) (hg : w.grownBy w8 vi.ownBlock) :
  (w8.heap[rb]? = some (ruO g m.conf vh ve vi m.stat vo fuel)) ∧ RuR w0 rb g (w8.setCell ⟨rb, 4, none⟩ vi') { m with inn := l } fuel vh ve vi' vo := by
 have b8 := (hg.block _ (lt_of_block h.blk) (Kd.R_ne h.inn h.blk (by decide))).trans h.blk
 have hist8 := Kd.R_over h.hist h.inn (by decide) hg
 have env8 := Kd.R_over h.env h.inn (by decide) hg
 have out8 := Kd.R_over h.out h.inn (out_q (by decide)) hg
 obtain ⟨r1, r2, r3, r4⟩ := RuR.rows_set hist8 env8 h8 out8 b8 4 vi'
 exact ⟨b8, (h.low.trans hb).setCell (p := ⟨rb, 4, none⟩) h.ge _, h.ge, blk_set b8 4 vi', r1, r2, r3, r4, h.conf⟩
theorem RuR.put6 {M : Ses} {c0 : Nat} {vh0 ve0 vi0 vo0 : Value} {s0 : Int} {lo : List Ou} (low : Below w0.heap.size w0 w) (ge : w0.heap.size ≤ rb) (blk : w.heap[rb]? = some (ruO g c0 vh0 ve0 vi0 s0 vo0 fuel)) (hh : HisR w w0.heap.size vh M.hist) (he : EnvR w w0.heap.size ve M.env) (hi : InnR w w0.heap.size vi M.inn) (ho : OutR w w0.heap.size vo lo) (hc : M.conf < 4294967296) :
  RuR w0 rb g ((((((w.setCell ⟨rb, 1, none⟩ (.int .u32 (M.conf : Nat))).setCell ⟨rb, 2, none⟩ vh).setCell ⟨rb, 3, none⟩ ve).setCell ⟨rb, 4, none⟩ vi).setCell ⟨rb, 5, none⟩ (.int .i64 M.stat)).setCell ⟨rb, 6, none⟩ vo) { M with out := lo } fuel vh ve vi vo := by
 obtain ⟨r1, r2, r3, r4⟩ := RuR.rows_set hh he hi ho blk 1 (.int .u32 (M.conf : Nat))
 have b1 := blk_set blk 1 (.int .u32 (M.conf : Nat))
 obtain ⟨r1, r2, r3, r4⟩ := RuR.rows_set r1 r2 r3 r4 b1 2 vh
 have b2 := blk_set b1 2 vh
 obtain ⟨r1, r2, r3, r4⟩ := RuR.rows_set r1 r2 r3 r4 b2 3 ve
 have b3 := blk_set b2 3 ve
 obtain ⟨r1, r2, r3, r4⟩ := RuR.rows_set r1 r2 r3 r4 b3 4 vi
 have b4 := blk_set b3 4 vi
 obtain ⟨r1, r2, r3, r4⟩ := RuR.rows_set r1 r2 r3 r4 b4 5 (.int .i64 M.stat)
 have b5 := blk_set b4 5 (.int .i64 M.stat)
 obtain ⟨r1, r2, r3, r4⟩ := RuR.rows_set r1 r2 r3 r4 b5 6 vo
 exact ⟨(((((low.setCell (p := ⟨rb, 1, none⟩) ge _).setCell (p := ⟨rb, 2, none⟩) ge _).setCell (p := ⟨rb, 3, none⟩) ge _).setCell (p := ⟨rb, 4, none⟩) ge _).setCell (p := ⟨rb, 5, none⟩) ge _).setCell (p := ⟨rb, 6, none⟩) ge _, ge, blk_set b5 6 vo, r1, r2, r3, r4, hc⟩
end
end Go.Proofs.YtikilglbhnplaaaGreatDoor
end
section
namespace Go.Proofs.YtikilglbhnplaaaGreatDoor
open Go.RowKit Go.Proofs.YtikilglbhnplaaaGreatDoorW.PrintWords Go.Proofs.YtikilglbhnplaaaGreatDoorW.PrintLast
open PX (T V)
section
variable {w0 : World} {rb g : Nat} {v : Int} {st : List Sta} {tr : List Tra} {w : World} {m : Ses} {fuel : Nat}
theorem mround_any (hT : TrM w0 g v st tr) (hZ : LaidZ w0) (good : chkP v st tr = .none) (few : fewP st tr = true) (O : Nat) (hO : O ≤ 300000) (hI : RnI st m 2000 O) (hf : fuel ≤ 40) (h : RuM w0 rb g w m fuel) (ev : Int) :
  Calls Tryz.prog 76 #[.pointer (some ⟨rb, 0, none⟩), .int .i64 ev] w fun e w' => e = .returned (.bool (rndM st tr m fuel ev).2.2) ∧ RuM w0 rb g w' (rndM st tr m fuel ev).1 (rndM st tr m fuel ev).2.1 := by
 obtain ⟨⟨_, _, hn1, hn, hn2⟩, _⟩ := chk_none good
 obtain ⟨vh, ve, vi, vo, h⟩ := h
 have HR := Lib.hid h
 obtain ⟨⟨y0, y1, y2, y3, y4, y5, y6, y7⟩, f1, f2, f3, f4, f5, f6, f7⟩ := h.cells
 go_enter Tryz.func76, Tryz.ntmps76
 cases fuel with
 | zero =>
  have HR2 := Lib.hid (HR.out.putStat 3)
  clear h
  go_wp2_with fail
  go_ret
  rw [rnd_zero]
  exact ⟨rfl, _, _, _, _, HR2.out⟩
 | succ f =>
  have d0 : (((f + 1 : Nat) : Int) == 0) = false := by rw [beq_eq_false_iff_ne]; omega
  have hRf := HR.out.putFuel f
  have HG : Hid (rndM st tr m (f + 1) ev = (tooL (rndS st tr m (tknM st tr m ev) (gaP st tr m.conf m.env ev).2), f, !(tknM st tr m ev).isEmpty)) := Lib.hid (by unfold rndM; rw [if_neg (by omega)]; rfl)
  have HKn : Hid (tknM st tr m ev = siP st tr m.conf (gaP st tr m.conf m.env ev).1) := Lib.hid rfl
  have HGf := Lib.hid (ga_few good m.conf m.env ev)
  have HLl := Lib.hid (ga_len (tr := tr) hn m.conf m.env ev)
  have HKl := Lib.hid (tkn_len (tr := tr) hn m ev)
  have HGd := Lib.hid (And.intro good few)
  have HI := Lib.hid hI
  have HT := Lib.hid hT
  have HZ := Lib.hid hZ
  clear h hI hT hZ y1 y2 y3 y4 y5 y6 f1 f2 f3 f4 f5 f6 good few
  go_wp2_with fail
  generalize w.setCell ⟨rb, 7, none⟩ (.int .i64 (f : Nat)) = wf at hRf ⊢
  obtain ⟨E, ec, rfl⟩ := Kd.R_slice hRf.env
  obtain ⟨AH, hc, rfl⟩ := Kd.R_slice hRf.hist
  obtain ⟨Ao, co, rfl⟩ := Kd.R_slice hRf.out
  obtain ⟨_, hec, hEC⟩ := Kd.R_reads' hRf.env
  have HEC := Lib.hid hEC
  have HRf := Lib.hid hRf
  have HTw := Lib.hid (HT.out.below hRf.low)
  have HZw := Lib.hid (HZ.out.below hRf.low)
  obtain ⟨⟨x0, x1, _, x3, _⟩, _⟩ := hRf.cells
  clear hRf hEC y0 y7 f7 hec HR
  refine start_ (n := 21) (S := fun w' => w'.cell? ⟨rb, 0, none⟩ = some (.pointer (some ⟨g, 0, none⟩)) ∧ w'.cell? ⟨rb, 1, none⟩ = some (.int .u32 (m.conf : Nat)) ∧ w'.cell? ⟨rb, 3, none⟩ = some (.slice E m.env.length ec)) (ds := [15]) (tf21 0) (by kernel_rfl) rfl (by kernel_rfl) ⟨x0, x1, x3⟩ (fun hHeld => ?_)
  iterate 3
   refine pxt_ (v := ?_) (a' := ?_) rfl rfl (by kernel_rfl) (fun _ _ _ h => h) (Or.inl ⟨by rfl, ?_⟩) ?_ ?_
   rotate_left
   ·intro w'
    go_simp
    first | done | with_reducible rfl
   rotate_left
   ·simp only [Act.put, List.setIfInBounds_toArray, List.set_cons_zero, List.set_cons_succ, i64_w, i32_w]
    first | done | rfl
  refine nxt_ (v := ?_) (a' := ?_) rfl rfl (by kernel_rfl) (fun _ _ _ h => h) (Or.inl ⟨by rfl, ?_⟩) hHeld ?_ ?_
  rotate_left
  ·rintro w' ⟨s0, s1, s2⟩
   go_simp
   first | done | with_reducible rfl
  rotate_left
  ·simp only [Act.put, List.setIfInBounds_toArray, List.set_cons_zero, List.set_cons_succ, i64_w, i32_w]
   first | done | rfl
  iterate 4
   refine pxt_ (v := ?_) (a' := ?_) rfl rfl (by kernel_rfl) (fun _ _ _ h => h) (Or.inl ⟨by rfl, ?_⟩) ?_ ?_
   rotate_left
   ·intro w'
    go_simp
    first | done | with_reducible rfl
   rotate_left
   ·simp only [Act.put, List.setIfInBounds_toArray, List.set_cons_zero, List.set_cons_succ, i64_w, i32_w]
    first | done | rfl
  refine nxt_ (v := ?_) (a' := ?_) rfl rfl (by kernel_rfl) (fun _ _ _ h => h) (Or.inl ⟨by rfl, ?_⟩) hHeld ?_ ?_
  rotate_left
  ·rintro w' ⟨s0, s1, s2⟩
   go_simp
   first | done | with_reducible rfl
  rotate_left
  ·simp only [Act.put, List.setIfInBounds_toArray, List.set_cons_zero, List.set_cons_succ, i64_w, i32_w]
   first | done | rfl
  iterate 4
   refine pxt_ (v := ?_) (a' := ?_) rfl rfl (by kernel_rfl) (fun _ _ _ h => h) (Or.inl ⟨by rfl, ?_⟩) ?_ ?_
   rotate_left
   ·intro w'
    go_simp
    first | done | with_reducible rfl
   rotate_left
   ·simp only [Act.put, List.setIfInBounds_toArray, List.set_cons_zero, List.set_cons_succ, i64_w, i32_w]
    first | done | rfl
  refine nxt_ (v := ?_) (a' := ?_) rfl rfl (by kernel_rfl) (fun _ _ _ h => h) (Or.inl ⟨by rfl, ?_⟩) hHeld ?_ ?_
  rotate_left
  ·rintro w' ⟨s0, s1, s2⟩
   go_simp
   first | done | with_reducible rfl
  rotate_left
  ·simp only [Act.put, List.setIfInBounds_toArray, List.set_cons_zero, List.set_cons_succ, i64_w, i32_w]
   first | done | rfl
  refine pxt_ (v := ?_) (a' := ?_) rfl rfl (by kernel_rfl) (fun _ _ _ h => h) (Or.inl ⟨by rfl, ?_⟩) ?_ ?_
  rotate_left
  ·intro w'
   go_simp
   first | done | with_reducible rfl
  rotate_left
  ·simp only [Act.put, List.setIfInBounds_toArray, List.set_cons_zero, List.set_cons_succ, i64_w, i32_w]
   first | done | rfl
  refine last_ (i := 15) (N := some 41) (tf21 16) rfl rfl (by kernel_rfl) (by decide) (fun K hK => ?_)
  refine goes_ Tryz.func25 (by kernel_rfl) rfl #[.pointer (some ⟨g, 0, none⟩), .int .u32 (m.conf : Nat), .slice E m.env.length ec, .int .i64 ev] (by rfl) rfl rfl (by first | rfl | (go_simp; done) | (go_simp; exact ⟨rfl, rfl⟩) | (go_simp; rfl)) ?_
  refine (gather_any (HTw.out.below (below_drew (Below.refl _ _))) HGd.out.1 HGd.out.2 ((HZw.out.toLaid).below (below_drew (Below.refl _ _))) m.conf HRf.out.conf E ec m.env (Kd.C_drew HEC.out) ev).mono ?_
  rintro e w2 ⟨uL, rfl, hu, hb2⟩
  refine ⟨_, rfl, hK.out _ _ ?_⟩
  clear hK K
  iterate 5
   refine pxt_ (v := ?_) (a' := ?_) rfl rfl (by kernel_rfl) (fun _ _ _ h => h) (Or.inl ⟨by rfl, ?_⟩) ?_ ?_
   rotate_left
   ·intro w'
    go_simp
    first | done | with_reducible rfl
   rotate_left
   ·simp only [Act.put, List.setIfInBounds_toArray, List.set_cons_zero, List.set_cons_succ, i64_w, i32_w]
    first | done | rfl
  refine done_ (by kernel_rfl) ?_
  have HR2 := Lib.hid (HRf.out.below ((below_drew (Below.refl _ _)).trans hb2))
  have HT2 := Lib.hid (HTw.out.below ((below_drew (Below.refl _ _)).trans hb2))
  obtain ⟨⟨x0, x1, _⟩, _⟩ := HR2.out.cells
  generalize gaP st tr m.conf m.env ev = gp at *
  obtain ⟨la, na⟩ := gp
  simp only at hu HGf HLl HKn HG ⊢
  obtain ⟨L, cL, rfl⟩ := Kd.R_slice hu
  have HLa := Lib.hid (Kd.R_reads' hu).2.2
  clear hu hb2
  go_wp2_with fail
  refine start_ (n := 12) (S := fun w' => w'.cell? ⟨rb, 0, none⟩ = some (.pointer (some ⟨g, 0, none⟩)) ∧ w'.cell? ⟨rb, 1, none⟩ = some (.int .u32 (m.conf : Nat))) (ds := [10]) (tf12 0) (by kernel_rfl) rfl (by kernel_rfl) ⟨x0, x1⟩ (fun hHeld => ?_)
  iterate 3
   refine pxt_ (v := ?_) (a' := ?_) rfl rfl (by kernel_rfl) (fun _ _ _ h => h) (Or.inl ⟨by rfl, ?_⟩) ?_ ?_
   rotate_left
   ·intro w'
    go_simp
    first | done | with_reducible rfl
   rotate_left
   ·simp only [Act.put, List.setIfInBounds_toArray, List.set_cons_zero, List.set_cons_succ, i64_w, i32_w]
    first | done | rfl
  refine nxt_ (v := ?_) (a' := ?_) rfl rfl (by kernel_rfl) (fun _ _ _ h => h) (Or.inl ⟨by rfl, ?_⟩) hHeld ?_ ?_
  rotate_left
  ·rintro w' ⟨s0, s1⟩
   go_simp
   first | done | with_reducible rfl
  rotate_left
  ·simp only [Act.put, List.setIfInBounds_toArray, List.set_cons_zero, List.set_cons_succ, i64_w, i32_w]
   first | done | rfl
  iterate 4
   refine pxt_ (v := ?_) (a' := ?_) rfl rfl (by kernel_rfl) (fun _ _ _ h => h) (Or.inl ⟨by rfl, ?_⟩) ?_ ?_
   rotate_left
   ·intro w'
    go_simp
    first | done | with_reducible rfl
   rotate_left
   ·simp only [Act.put, List.setIfInBounds_toArray, List.set_cons_zero, List.set_cons_succ, i64_w, i32_w]
    first | done | rfl
  refine nxt_ (v := ?_) (a' := ?_) rfl rfl (by kernel_rfl) (fun _ _ _ h => h) (Or.inl ⟨by rfl, ?_⟩) hHeld ?_ ?_
  rotate_left
  ·rintro w' ⟨s0, s1⟩
   go_simp
   first | done | with_reducible rfl
  rotate_left
  ·simp only [Act.put, List.setIfInBounds_toArray, List.set_cons_zero, List.set_cons_succ, i64_w, i32_w]
   first | done | rfl
  refine pxt_ (v := ?_) (a' := ?_) rfl rfl (by kernel_rfl) (fun _ _ _ h => h) (Or.inl ⟨by rfl, ?_⟩) ?_ ?_
  rotate_left
  ·intro w'
   go_simp
   first | done | with_reducible rfl
  rotate_left
  ·simp only [Act.put, List.setIfInBounds_toArray, List.set_cons_zero, List.set_cons_succ, i64_w, i32_w]
   first | done | rfl
  refine last_ (i := 10) (N := some 54) (tf12 11) rfl rfl (by kernel_rfl) (by decide) (fun K hK => ?_)
  refine goes_ Tryz.func26 (by kernel_rfl) rfl #[.pointer (some ⟨g, 0, none⟩), .int .u32 (m.conf : Nat), .slice L la.length cL] (by rfl) rfl rfl (by first | rfl | (go_simp; done) | (go_simp; exact ⟨rfl, rfl⟩) | (go_simp; rfl)) ?_
  refine (sift_any (HT2.out.below (below_drew (Below.refl _ _))) HGd.out.1 HGd.out.2 m.conf HR2.out.conf L cL la (Kd.C_drew HLa.out) (by have := HLl.out; omega)).mono ?_
  rintro e w3 ⟨uK, rfl, hu3, hb3⟩
  refine ⟨_, rfl, hK.out _ _ ?_⟩
  clear hK K
  refine pxt_ (v := ?_) (a' := ?_) rfl rfl (by kernel_rfl) (fun _ _ _ h => h) (Or.inl ⟨by rfl, ?_⟩) ?_ ?_
  rotate_left
  ·intro w'
   go_simp
   first | done | with_reducible rfl
  rotate_left
  ·simp only [Act.put, List.setIfInBounds_toArray, List.set_cons_zero, List.set_cons_succ, i64_w, i32_w]
   first | done | rfl
  refine done_ (by kernel_rfl) ?_
  have HR3 := Lib.hid (HR2.out.below ((below_drew (Below.refl _ _)).trans hb3))
  rw [← HKn.out] at hu3
  have HKs : Hid (Kd.R (Kd.int .i64) 3 w3 w2.heap.size (fun k => some k ≠ vi.ownBlock) uK (tknM st tr m ev)) := Lib.hid (Kd.R_mono (Kd.R_bound hu3) (fun k hk e => by
   have h1 := Kd.R_lt HR2.out.inn k e.symm
   have h2 : w2.heap.size ≤ k := hk.2.1
   omega))
  generalize tknM st tr m ev = ks at *
  obtain ⟨KA, cK, rfl⟩ := Kd.R_slice hu3
  have HIq := HI
  have hs3 := HR3.out.low.size
  clear hu3 hb3 HKn HLa x0 x1 HR2 HT2
  go_wp2_with fail
  go_loopw [56] (fun i wr => ∃ (q : Nat) (vi : Value), i = .int .i64 q ∧ q ≤ na ∧ Hid (RuR w0 rb g wr { m with inn := m.inn ++ List.replicate q 1001 } f (.slice AH m.hist.length hc) (.slice E m.env.length ec) vi (.slice Ao m.out.length co)) ∧ Hid (Kd.R (Kd.int .i64) 3 wr w2.heap.size (fun k => some k ≠ vi.ownBlock) (.slice KA ks.length cK) ks)) (fun i _ => na - (intOf i).toNat)
  case atStart => exact ⟨0, vi, rfl, Nat.zero_le _, Lib.hid (by rw [List.replicate_zero, List.append_nil]; exact HR3.out), HKs⟩
  case round =>
   clear HR3 HKs hs3
   obtain ⟨q, vi, rfl, hq, HRq, HKq⟩ := hrel
   obtain ⟨⟨_, _, _, _, x4, _⟩, _, _, _, f4, _⟩ := HRq.out.cells
   have hna := HGf.out
   by_cases hlt : q < na
   ·have p1 : ((q : Int) < (na : Int)) = True := eq_true (by omega)
    have hsz := HRq.out.low.size
    have hll : (m.inn ++ List.replicate q 1001).length < 1000000 := by
     have := HI.out.inn; have := HGf.out
     simp only [List.length_append, List.length_replicate]; omega
    obtain ⟨l1, hl1⟩ : ∃ l1 : List Int, l1 = m.inn ++ List.replicate q 1001 := ⟨_, rfl⟩
    have hin := HRq.out.inn
    simp only at hin
    rw [← hl1] at hin hll
    have Hl1 := Lib.hid hl1
    clear hl1
    go_wp2_with (at_builtin; refine inn_append4 rfl (.tmp 63) (.tmp 64) rfl w0.heap.size _ l1 1001 rfl _ rfl rfl hin hsz hll ?_)
    intro v8 w8 h8 hb8 hg8 hat8
    obtain ⟨l2, hl2⟩ : ∃ l2 : List Int, l2 = l1 ++ [1001] := ⟨_, rfl⟩
    rw [← hl2] at h8
    have Hl2 : Hid (l2 = m.inn ++ List.replicate (q + 1) 1001) := Lib.hid (by rw [hl2, Hl1.out, List.replicate_succ', List.append_assoc])
    obtain ⟨A8, c8, rfl⟩ := Kd.R_slice h8
    obtain ⟨b8, hR8⟩ := HRq.out.appInn h8 hb8 hg8
    have HR8 : Hid (RuR w0 rb g (w8.setCell ⟨rb, 4, none⟩ (.slice A8 l2.length c8)) { m with inn := m.inn ++ List.replicate (q + 1) 1001 } f (.slice AH m.hist.length hc) (.slice E m.env.length ec) (.slice A8 l2.length c8) (.slice Ao m.out.length co)) := Lib.hid (by rw [← Hl2.out]; exact hR8)
    have hk8 := Kd.R_grown (Kd.R_bound HKq.out) hg8 (fun k hk => hk.1)
    have hk9 : Kd.R (Kd.int .i64) 3 w8 w2.heap.size (fun k => some k ≠ (Value.slice A8 l2.length c8).ownBlock) (.slice KA ks.length cK) ks := Kd.R_mono hk8 (fun k hk e => by
     rcases hat8 with h | ⟨b, h, hb⟩
     ·rw [h] at e; exact hk.1 e
     ·rw [h] at e
      have e2 : k = b := Option.some.inj e
      have := hk.2.2.1
      omega)
    have HK8 := Lib.hid (Kd.R_set hk9 b8 (by decide) 4 (.slice A8 l2.length c8))
    have c4 := blk_cell b8 4
    have f4' := blk_free b8 4
    clear hl2 h8 hb8 hg8 hat8 hR8 hk8 hk9 b8 x4 f4 hin hsz hll
    have e1 : wrap64 ((q : Int) + 1) = ((q + 1 : Nat) : Int) := by rw [w64 (by omega) (by omega)]; rfl
    go_wp2_with fail
    go_roundw
    case rel => exact ⟨q + 1, _, by go_num, by omega, HR8, HK8⟩
    case measure => first | (simp [intOf]; done) | (simp [intOf]; omega)
   ·obtain rfl : q = na := by omega
    have p1 : ((q : Int) < (q : Int)) = False := eq_false (by omega)
    have hll : (m.inn ++ List.replicate q 1001).length ≤ 30000 := by
     have := HI.out.inn; have := HGf.out
     simp only [List.length_append, List.length_replicate]; omega
    obtain ⟨l1, hl1⟩ : ∃ l1 : List Int, l1 = m.inn ++ List.replicate q 1001 := ⟨_, rfl⟩
    have hR := HRq.out
    rw [← hl1] at hR hll
    have HR := Lib.hid hR
    have Hl1 := Lib.hid hl1
    clear hl1 HRq f4 x4
    obtain ⟨Ai, ci, rfl⟩ := Kd.R_slice hR.inn
    obtain ⟨⟨_, _, _, _, x4, _⟩, _, _, _, _, f5, _⟩ := hR.cells
    clear hR
    by_cases hks : ks = []
    ·subst hks
     have d2 : decide ((([] : List Int).length : Int) > 0) = false := by decide
     by_cases hL : 50 < l1.length
     ·have dL : decide ((l1.length : Int) > 50) = true := decide_eq_true (by omega)
      have HRz := Lib.hid (HR.out.putStat 3)
      have HRes : Hid (rndM st tr m (f + 1) ev = ({ m with inn := l1, stat := 3 }, f, false)) := Lib.hid (by
       rw [HG.out]; refine Prod.ext ?_ rfl
       show tooL (rndS st tr m [] q) = _
       unfold rndS; rw [if_pos rfl, ← Hl1.out]; unfold tooL; rw [if_pos hL])
      clear hL
      go_wp2_with fail
      go_ret
      rw [HRes.out]
      exact ⟨rfl, _, _, _, _, HRz.out⟩
     ·have dL : decide ((l1.length : Int) > 50) = false := decide_eq_false (by omega)
      have HRes : Hid (rndM st tr m (f + 1) ev = ({ m with inn := l1 }, f, false)) := Lib.hid (by
       rw [HG.out]; refine Prod.ext ?_ rfl
       show tooL (rndS st tr m [] q) = _
       unfold rndS; rw [if_pos rfl, ← Hl1.out]; unfold tooL; rw [if_neg hL])
      clear hL
      go_wp2_with fail
      go_ret
      rw [HRes.out]
      exact ⟨rfl, _, _, _, _, HR.out⟩
    ·have hkl : 0 < ks.length := List.length_pos_iff.2 hks
     have d2 : decide ((ks.length : Int) > 0) = true := decide_eq_true (by omega)
     have d2' : decide (0 < (ks.length : Int)) = true := decide_eq_true (by omega)
     have d2'' : decide (0 < ks.length) = true := decide_eq_true hkl
     have HG2 : Hid (rndM st tr m (f + 1) ev = (tooL { stpM st tr { m with inn := l1 } ks with out := m.out ++ (stpM st tr { m with inn := l1 } ks).out }, f, true)) := Lib.hid (by
      rw [HG.out]
      refine Prod.ext ?_ (Prod.ext rfl ?_)
      ·show tooL (rndS st tr m ks q) = _
       unfold rndS; rw [if_neg hks, ← Hl1.out]
      ·show (!ks.isEmpty) = true
       cases ks with | nil => exact absurd rfl hks | cons a b => rfl)
     have hR := HR.out
     obtain ⟨⟨x0, x1, x2, x3, _, x5, x6, _⟩, _⟩ := hR.cells
     obtain ⟨_, hhc, hHc⟩ := Kd.R_reads' hR.hist
     obtain ⟨_, hec2, hEc⟩ := Kd.R_reads' hR.env
     obtain ⟨_, hic, hIc⟩ := Kd.R_reads' hR.inn
     obtain ⟨_, hkc, hKc⟩ := Kd.R_reads' HKq.out
     have HCs := Lib.hid (And.intro hHc (And.intro hEc (And.intro hIc hKc)))
     have HLs := Lib.hid (And.intro hhc (And.intro hec2 (And.intro hic hkc)))
     clear hR hhc hHc hec2 hEc hic hIc hkc hKc HG hks hkl
     have HSt : Hid (∀ W : World, Below wr.heap.size wr W → Calls Tryz.prog 27 #[.pointer (some ⟨g, 0, none⟩), .agg #[.int .u32 (m.conf : Nat), .slice AH m.hist.length hc, .slice E m.env.length ec, .slice Ai l1.length ci, .int .i64 m.stat], .slice KA ks.length cK] W fun e w' => ∃ vh ve vi vo, e = .returned (.tuple #[.agg #[.int .u32 ((stpM st tr { m with inn := l1 } ks).conf : Nat), vh, ve, vi, .int .i64 (stpM st tr { m with inn := l1 } ks).stat], vo]) ∧ HisR w' W.heap.size vh (stpM st tr { m with inn := l1 } ks).hist ∧ EnvR w' W.heap.size ve (stpM st tr { m with inn := l1 } ks).env ∧ InnR w' W.heap.size vi (stpM st tr { m with inn := l1 } ks).inn ∧ OutR w' W.heap.size vo (stpM st tr { m with inn := l1 } ks).out ∧ Below W.heap.size W w') := Lib.hid (fun W hW =>
      mstep_any (HZ.out.below (HR.out.low.trans (hW.mono HR.out.low.size))) (HT.out.below (HR.out.low.trans (hW.mono HR.out.low.size))) HGd.out.1 HGd.out.2 { m with inn := l1 } AH E Ai KA hc ec ci cK (Kd.C_below HCs.out.1 hW) (Kd.C_below HCs.out.2.1 hW) (Kd.C_below HCs.out.2.2.1 hW) HLs.out.1 HLs.out.2.1 HLs.out.2.2.1 HI.out.len HI.out.env (by show l1.length ≤ 100000; omega) HR.out.conf HI.out.ok ks (Kd.C_below HCs.out.2.2.2 hW) HLs.out.2.2.2 (by have := HKl.out; omega))
     have HMs := Lib.hid (stp_size (tr := tr) HGd.out.2 hn { m with inn := l1 } 30000 hll HI.out.env HR.out.conf HI.out.ok HI.out.len ks)
     have HMc : Hid ((stpM st tr { m with inn := l1 } ks).conf < 4294967296) := Lib.hid (stp_lt hn { m with inn := l1 } HR.out.conf ks)
     generalize stpM st tr { m with inn := l1 } ks = M at *
     have hbd : Below wr.heap.size wr wr.drew := below_drew (Below.refl _ _)
     have hbl : Below wr.heap.size wr (wr.alloc (.cells #[.int .u32 0, .slice none 0 0, .slice none 0 0, .slice none 0 0, .int .i64 0] 46)) := (Below.refl _ wr).alloc (Nat.le_refl _) _
     have hba : Below wr.heap.size wr (wr.alloc (.cells #[.int .u32 0, .slice none 0 0, .slice none 0 0, .slice none 0 0, .int .i64 0] 46)).drew := below_drew hbl
     obtain ⟨⟨v0, v1, v2, v3, v4, v5, _, _⟩, _⟩ := (HR.out.below hbl).cells
     go_wp2_with fail
     go_cut [7, 8] from 73 to 85 (fun s7 s8 wx => ∃ (tb : Nat) (a1 a2 a3 a4 : Option Addr) (b1 b2 b3 b4 : Nat), s7 = .pointer (some ⟨tb, 0, none⟩) ∧ s8 = .slice a4 M.out.length b4 ∧ Hid (Below wr.heap.size wr wx) ∧ Hid (wr.heap.size ≤ tb) ∧ Hid (wx.heap[tb]? = some (.cells #[.int .u32 (M.conf : Nat), .slice a1 M.hist.length b1, .slice a2 M.env.length b2, .slice a3 M.inn.length b3, .int .i64 M.stat] 46 (0, 0))) ∧ Hid (HisR wx wr.heap.size (.slice a1 M.hist.length b1) M.hist ∧ EnvR wx wr.heap.size (.slice a2 M.env.length b2) M.env ∧ InnR wx wr.heap.size (.slice a3 M.inn.length b3) M.inn ∧ OutR wx wr.heap.size (.slice a4 M.out.length b4) M.out))
     case first =>
      go_region_law (first
       | (go_simp; go_at_call 27; refine (HSt.out _ hba).mono ?_; rintro e w5 ⟨vh5, ve5, vi5, vo5, rfl, hh5, he5, hi5, ho5, hb5⟩; obtain ⟨a1, b1, rfl⟩ := Kd.R_slice hh5; obtain ⟨a2, b2, rfl⟩ := Kd.R_slice he5; obtain ⟨a3, b3, rfl⟩ := Kd.R_slice hi5; obtain ⟨a4, b4, rfl⟩ := Kd.R_slice ho5; have hk7 : w5.heap[wr.heap.size]? = some (.cells #[.int .u32 0, .slice none 0 0, .slice none 0 0, .slice none 0 0, .int .i64 0] 46 (0, 0)) := (hb5.block _ (lt_of_block (blk_new wr (.cells #[.int .u32 0, .slice none 0 0, .slice none 0 0, .slice none 0 0, .int .i64 0] 46)))).trans (blk_new wr (.cells #[.int .u32 0, .slice none 0 0, .slice none 0 0, .slice none 0 0, .int .i64 0] 46)); have q0 := blk_cell hk7 0; have q1 := blk_cell hk7 1; have q2 := blk_cell hk7 2; have q3 := blk_cell hk7 3; have q4 := blk_cell hk7 4; have g0 := blk_free hk7 0; have g1 := blk_free hk7 1; have g2 := blk_free hk7 2; have g3 := blk_free hk7 3; have g4 := blk_free hk7 4)
       | (go_simp; go_at_call 27; refine (HSt.out _ hbd).mono ?_; rintro e w5 ⟨vh5, ve5, vi5, vo5, rfl, hh5, he5, hi5, ho5, hb5⟩; obtain ⟨a1, b1, rfl⟩ := Kd.R_slice hh5; obtain ⟨a2, b2, rfl⟩ := Kd.R_slice he5; obtain ⟨a3, b3, rfl⟩ := Kd.R_slice hi5; obtain ⟨a4, b4, rfl⟩ := Kd.R_slice ho5))
      all_goals (go_wp2_with fail; go_meet)
      all_goals first
       | exact ⟨_, a1, a2, a3, a4, b1, b2, b3, b4, rfl, rfl, Lib.hid ((below_then hbd hbd.size hb5).alloc (Nat.le_trans hbd.size hb5.size) _), Lib.hid (Nat.le_trans hbd.size hb5.size), Lib.hid (blk_new w5 _), Lib.hid ⟨Kd.R_alloc (Kd.R_lower hh5 hbd.size) _, Kd.R_alloc (Kd.R_lower he5 hbd.size) _, Kd.R_alloc (Kd.R_lower hi5 hbd.size) _, Kd.R_alloc (Kd.R_lower ho5 hbd.size) _⟩⟩
       | exact ⟨_, a1, a2, a3, a4, b1, b2, b3, b4, rfl, rfl, Lib.hid (set5_below (below_then hba hba.size hb5) (Nat.le_refl _) (.int .u32 (M.conf : Nat)) (.slice a1 M.hist.length b1) (.slice a2 M.env.length b2) (.slice a3 M.inn.length b3) (.int .i64 M.stat)), Lib.hid (Nat.le_refl _), Lib.hid (set5_blk hk7 (.int .u32 (M.conf : Nat)) (.slice a1 M.hist.length b1) (.slice a2 M.env.length b2) (.slice a3 M.inn.length b3) (.int .i64 M.stat)), Lib.hid ⟨R_set5 (Kd.R_lower hh5 hba.size) hk7 (by decide) (.int .u32 (M.conf : Nat)) (.slice a1 M.hist.length b1) (.slice a2 M.env.length b2) (.slice a3 M.inn.length b3) (.int .i64 M.stat), R_set5 (Kd.R_lower he5 hba.size) hk7 (by decide) (.int .u32 (M.conf : Nat)) (.slice a1 M.hist.length b1) (.slice a2 M.env.length b2) (.slice a3 M.inn.length b3) (.int .i64 M.stat), R_set5 (Kd.R_lower hi5 hba.size) hk7 (by decide) (.int .u32 (M.conf : Nat)) (.slice a1 M.hist.length b1) (.slice a2 M.env.length b2) (.slice a3 M.inn.length b3) (.int .i64 M.stat), R_set5 (Kd.R_lower ho5 hba.size) hk7 (out_q (by decide)) (.int .u32 (M.conf : Nat)) (.slice a1 M.hist.length b1) (.slice a2 M.env.length b2) (.slice a3 M.inn.length b3) (.int .i64 M.stat)⟩⟩
     case rest =>
      clear hbd hba hbl x0 x1 x2 x3 x4 x5 x6 v0 v1 v2 v3 v4 v5 f5 HSt
      obtain ⟨tb, a1, a2, a3, a4, b1, b2, b3, b4, rfl, rfl, HBc, HTb, HKt, HRw⟩ := hcut
      have HRc := Lib.hid ((HR.out.below HBc.out).below (below_drew (Below.refl _ _)))
      have HKd : Hid (wc.drew.heap[tb]? = some (.cells #[.int .u32 (M.conf : Nat), .slice a1 M.hist.length b1, .slice a2 M.env.length b2, .slice a3 M.inn.length b3, .int .i64 M.stat] 46 (0, 0))) := Lib.hid HKt.out
      have hkt := HKt.out
      obtain ⟨q0, q1, q2, q3, q4⟩ : wc.cell? ⟨tb, 0, none⟩ = some (.int .u32 (M.conf : Nat)) ∧ wc.cell? ⟨tb, 1, none⟩ = some (.slice a1 M.hist.length b1) ∧ wc.cell? ⟨tb, 2, none⟩ = some (.slice a2 M.env.length b2) ∧ wc.cell? ⟨tb, 3, none⟩ = some (.slice a3 M.inn.length b3) ∧ wc.cell? ⟨tb, 4, none⟩ = some (.int .i64 M.stat) := ⟨blk_cell hkt 0, blk_cell hkt 1, blk_cell hkt 2, blk_cell hkt 3, blk_cell hkt 4⟩
      obtain ⟨⟨_, _, _, _, _, _, x6, _⟩, _⟩ := (HR.out.below HBc.out).cells
      have hws : w0.heap.size ≤ wr.heap.size := HR.out.low.size
      have HRows := Lib.hid (And.intro (Kd.R_drew (Kd.R_lower HRw.out.1 hws)) (And.intro (Kd.R_drew (Kd.R_lower HRw.out.2.1 hws)) (And.intro (Kd.R_drew (Kd.R_lower HRw.out.2.2.1 hws)) (Kd.C_drew (Kd.R_reads' HRw.out.2.2.2).2.2))))
      have hsd : w0.heap.size ≤ wc.drew.heap.size := HRc.out.low.size
      have hMo := HMs.out.1.2.1
      have hkl := HKl.out
      have hmo := HI.out.out
      have ho1 : m.out.length + M.out.length < 1000000 := by omega
      obtain ⟨lo, hlo⟩ : ∃ lo : List Ou, lo = m.out ++ M.out := ⟨_, rfl⟩
      have Hlo := Lib.hid hlo
      clear hlo hkt hws hMo hkl hmo
      go_wp2_with fail
      go_region_law (first
       | (refine out_rows_step (W := wc.drew) rfl (.tmp 92) (.tmp 93) rfl w0.heap.size _ m.out M.out a4 M.out.length b4 rfl rfl HRc.out.out HRows.out.2.2.2 hsd ho1 ?_; intro v9 w9 h9 hb9 hg9; rw [← Hlo.out] at h9; obtain ⟨A9, c9, rfl⟩ := Kd.R_slice h9; have hh9 := Kd.R_over HRows.out.1 HRc.out.out (by decide) hg9; have he9 := Kd.R_over HRows.out.2.1 HRc.out.out (by decide) hg9; have hi9 := Kd.R_over HRows.out.2.2.1 HRc.out.out (by decide) hg9; have hk9 := (hg9.block _ (lt_of_block HRc.out.blk) (Kd.R_ne HRc.out.out HRc.out.blk (by decide))).trans HRc.out.blk; have ht9 := (hg9.block _ (lt_of_block HKd.out) (Kd.R_ne HRc.out.out HKd.out (by decide))).trans HKd.out; have p0 := blk_cell ht9 0; have p1 := blk_cell ht9 1; have p2 := blk_cell ht9 2; have p3 := blk_cell ht9 3; have p4 := blk_cell ht9 4; have s1 := blk_cell hk9 1; have s2 := blk_cell hk9 2; have s3 := blk_cell hk9 3; have s4 := blk_cell hk9 4; have s5 := blk_cell hk9 5; have s6 := blk_cell hk9 6; have e1 := blk_free hk9 1; have e2 := blk_free hk9 2; have e3 := blk_free hk9 3; have e4 := blk_free hk9 4; have e5 := blk_free hk9 5; have e6 := blk_free hk9 6))
      all_goals
       have hR9 := RuR.put6 (M := M) (HRc.out.low.trans hb9) HRc.out.ge hk9 hh9 he9 hi9 h9 HMc.out
       obtain ⟨W, hW⟩ : ∃ W : World, W = ((((((w9.setCell ⟨rb, 1, none⟩ (.int .u32 (M.conf : Nat))).setCell ⟨rb, 2, none⟩ (.slice a1 M.hist.length b1)).setCell ⟨rb, 3, none⟩ (.slice a2 M.env.length b2)).setCell ⟨rb, 4, none⟩ (.slice a3 M.inn.length b3)).setCell ⟨rb, 5, none⟩ (.int .i64 M.stat)).setCell ⟨rb, 6, none⟩ (.slice A9 lo.length c9)) := ⟨_, rfl⟩
       rw [← hW] at hR9 ⊢
       have HR9 := Lib.hid hR9
       obtain ⟨⟨_, _, _, _, z4, _⟩, _, _, _, _, g5, _⟩ := hR9.cells
       clear hR9 hW h9 hb9 hg9 hh9 he9 hi9 hk9 ht9 p0 p2 p3 p4 s1 s2 s3 s4 s5 s6 e1 e2 e3 e4 e5 e6 q0 q1 q2 q3 q4 x6
       by_cases hL : 50 < M.inn.length
       ·have dL : decide ((M.inn.length : Int) > 50) = true := decide_eq_true (by omega)
        have HRz := Lib.hid (HR9.out.putStat 3)
        have HRes : Hid (rndM st tr m (f + 1) ev = ({ M with stat := 3, out := lo }, f, true)) := Lib.hid (by rw [HG2.out, ← Hlo.out]; unfold tooL; rw [if_pos hL])
        clear hL
        go_wp2_with fail
        go_ret
        rw [HRes.out]
        exact ⟨rfl, _, _, _, _, HRz.out⟩
       ·have dL : decide ((M.inn.length : Int) > 50) = false := decide_eq_false (by omega)
        have HRes : Hid (rndM st tr m (f + 1) ev = ({ M with out := lo }, f, true)) := Lib.hid (by rw [HG2.out, ← Hlo.out]; unfold tooL; rw [if_neg hL])
        clear hL
        go_wp2_with fail
        go_ret
        rw [HRes.out]
        exact ⟨rfl, _, _, _, _, HR9.out⟩
end
end Go.Proofs.YtikilglbhnplaaaGreatDoor
end
section
namespace Go.Proofs.YtikilglbhnplaaaGreatDoor
open Go.RowKit Go.Proofs.YtikilglbhnplaaaGreatDoorW.PrintWords Go.Proofs.YtikilglbhnplaaaGreatDoorW.PrintLast
open PX (T V)
theorem c_tail {w : World} {ad : Addr} {e : Int} {r : List Int} (h : NumsC w (some ad) (e :: r).length (e :: r)) : NumsC w (some (ad.add 1)) r.length r := by
 obtain ⟨h1, h2, h3⟩ := h
 refine ⟨rfl, by simp only [List.length_cons] at h2; omega, fun h0 => ⟨_, rfl, fun j p hj => ?_⟩⟩
 obtain ⟨ad', ha, hc⟩ := h3 (by simp)
 obtain rfl := Option.some.inj ha
 obtain ⟨c, k1, k2, k3⟩ := hc (j + 1) p (by simpa using hj)
 refine ⟨c, k1, k2, fun i u hi => ?_⟩
 have := k3 i u hi
 rw [show (ad.add 1).add (j * (Kd.int .i64).sz + i) = ad.add ((j + 1) * (Kd.int .i64).sz + i) by
  show (ad.add 1).add (j * 1 + i) = ad.add ((j + 1) * 1 + i)
  rw [show (j + 1) * 1 + i = 1 + (j * 1 + i) by omega]
  simp [Addr.add, Nat.add_assoc]]
 exact this
section
variable {st : List Sta} {tr : List Tra} {m : Ses}
theorem setl_on {F fuel : Nat} (h1 : m.stat = 1) (hb : (rndM st tr m fuel 0).2.2 = true) : setlM st tr (F + 1) m fuel = setlM st tr F (rndM st tr m fuel 0).1 (rndM st tr m fuel 0).2.1 := by
 simp only [setlM]; rw [if_neg (not_not_intro h1), if_pos hb]
theorem setl_end {F fuel : Nat} (h1 : m.stat = 1) (hb : (rndM st tr m fuel 0).2.2 = false) (h : (rndM st tr m fuel 0).1.stat ≠ 1 ∨ (rndM st tr m fuel 0).1.inn = []) : setlM st tr (F + 1) m fuel = (rndM st tr m fuel 0).1 := by
 simp only [setlM]; rw [if_neg (not_not_intro h1), if_neg (by rw [hb]; decide)]
 generalize (rndM st tr m fuel 0).1 = m1 at *
 cases hi : m1.inn with
 | nil => rfl
 | cons e r =>
  simp only
  rw [if_pos (h.resolve_right (by rw [hi]; simp))]
theorem setl_ev {F fuel : Nat} {e : Int} {r : List Int} (h1 : m.stat = 1) (hb : (rndM st tr m fuel 0).2.2 = false) (hs : (rndM st tr m fuel 0).1.stat = 1) (hi : (rndM st tr m fuel 0).1.inn = e :: r) :
  setlM st tr (F + 1) m fuel = setlM st tr F (rndM st tr { (rndM st tr m fuel 0).1 with inn := r } (rndM st tr m fuel 0).2.1 e).1 (rndM st tr { (rndM st tr m fuel 0).1 with inn := r } (rndM st tr m fuel 0).2.1 e).2.1 := by
 simp only [setlM]; rw [if_neg (not_not_intro h1), if_neg (by rw [hb]; decide)]
 generalize rndM st tr m fuel 0 = x at *
 simp only [hi]
 rw [if_neg (not_not_intro hs)]
theorem rnd_fuel (fuel : Nat) (ev : Int) : (rndM st tr m fuel ev).2.1 = fuel - 1 ∧ (fuel = 0 → (rndM st tr m fuel ev).1.stat = 3 ∧ (rndM st tr m fuel ev).2.2 = true) := by
 by_cases h : fuel = 0
 ·subst h; rw [rnd_zero]; exact ⟨rfl, fun _ => ⟨rfl, rfl⟩⟩
 ·refine ⟨by rw [rnd_left h], fun h2 => absurd h2 h⟩
end
section
variable {w0 : World} {rb g : Nat} {v : Int} {st : List Sta} {tr : List Tra} {w : World} {m : Ses} {fuel : Nat}
theorem msettle_any (hT : TrM w0 g v st tr) (hZ : LaidZ w0) (good : chkP v st tr = .none) (few : fewP st tr = true) (hI : RnI st m 30000 100000) (hI1 : m.stat = 1 → m.inn.length ≤ 2000) (hf : fuel ≤ 40) (h : RuM w0 rb g w m fuel) :
  Calls Tryz.prog 72 #[.pointer (some ⟨rb, 0, none⟩)] w fun e w' => e = .returned (.tuple #[]) ∧ ∃ f', RuM w0 rb g w' (setlM st tr 42 m fuel) f' := by
 have HT := Lib.hid hT
 have HZ := Lib.hid hZ
 have HGd := Lib.hid (And.intro good few)
 have HM0 := Lib.hid h
 have HI0 := Lib.hid hI
 have HJ0 := Lib.hid hI1
 have HF0 := Lib.hid hf
 generalize hG : setlM st tr 42 m fuel = G
 have HG0 := Lib.hid hG
 clear hT hZ good few h hI hI1 hf hG
 go_enter Tryz.func72, Tryz.ntmps72
 go_wp2_with fail
 go_loopg [2] 42 (fun gk _ wr => ∃ (m2 : Ses) (f2 O2 : Nat), Hid (RuM w0 rb g wr m2 f2) ∧ Hid (setlM st tr gk m2 f2 = G) ∧ Hid (RnI st m2 30000 O2) ∧ Hid (m2.stat = 1 → m2.inn.length ≤ 2000) ∧ Hid (f2 ≤ 40) ∧ Hid (f2 + 2 ≤ gk ∨ m2.stat ≠ 1) ∧ Hid (O2 + 4000 * gk ≤ 300000))
 case atStart => exact ⟨m, fuel, 100000, HM0, HG0, HI0, HJ0, HF0, Lib.hid (.inl (by have := HF0.out; omega)), Lib.hid (by decide)⟩
 case round =>
  clear HM0 HG0 HI0 HJ0 HF0
  obtain ⟨m2, f2, O2, HM, HE, HS, HJ, HF, HU, HO⟩ := hrel
  obtain ⟨_, _, _, _, hM⟩ := HM.out
  obtain ⟨⟨_, _, _, _, _, y5, _, _⟩, _⟩ := hM.cells
  have HCf := Lib.hid hM.conf
  clear hM
  by_cases hs : m2.stat = 1
  ·cases gk with
   | zero => exfalso; rcases HU.out with h | h; omega; exact h hs
   | succ gk =>
    have HS1 := Lib.hid hs
    have d1 : (m2.stat == 1) = true := by rw [hs]; rfl
    clear hs
    go_wp2_with fail
    have hI1 : RnI st m2 2000 O2 := ⟨HJ.out HS1.out, HS.out.out, HS.out.env, HS.out.ok, HS.out.len⟩
    have HI1 := Lib.hid hI1
    have hsz := rnd_size HGd.out.1 HGd.out.2 HCf.out hI1 f2 0
    have HSz := Lib.hid hsz
    have HFu := Lib.hid (rnd_fuel (st := st) (tr := tr) (m := m2) f2 0)
    refine (mround_any HT.out HZ.out HGd.out.1 HGd.out.2 O2 (by have := HO.out; omega) hI1 HF.out HM.out 0).mono ?_
    clear hI1 hsz y5
    rintro e w1 ⟨rfl, h1⟩
    have H1 := Lib.hid h1
    clear h1
    cases hb : (rndM st tr m2 f2 0).2.2 with
    | true =>
     have HE2 := Lib.hid ((setl_on HS1.out hb).symm.trans HE.out)
     clear hb
     go_wp2_with fail
     go_roundg gk
     case rel =>
      refine ⟨_, _, O2 + 2000, H1, HE2, Lib.hid HSz.out.1, Lib.hid (fun h => Nat.le_trans (HSz.out.2 h) (by decide)), Lib.hid (by rw [HFu.out.1]; have := HF.out; omega), Lib.hid ?_, Lib.hid (by have := HO.out; omega)⟩
      rw [HFu.out.1]
      by_cases h0 : f2 = 0
      ·right; rw [(HFu.out.2 h0).1]; decide
      ·left
       rcases HU.out with h | h
       ·omega
       ·exact absurd HS1.out h
     case measure => omega
    | false =>
     have hf0 : f2 ≠ 0 := fun h => by rw [(HFu.out.2 h).2] at hb; cases hb
     have HF1 : Hid ((rndM st tr m2 f2 0).2.1 + 3 ≤ gk + 1 ∧ (rndM st tr m2 f2 0).2.1 ≤ 40) := Lib.hid (by
      rw [HFu.out.1]
      have := HF.out
      rcases HU.out with h | h
      ·omega
      ·exact absurd HS1.out h)
     have HX := Lib.hid hb
     obtain ⟨m1, hm1⟩ : ∃ m1, m1 = (rndM st tr m2 f2 0).1 := ⟨_, rfl⟩
     obtain ⟨fa, hfa⟩ : ∃ fa, fa = (rndM st tr m2 f2 0).2.1 := ⟨_, rfl⟩
     have HM1 := Lib.hid hm1
     have HFa := Lib.hid hfa
     have HR1 : Hid (RuM w0 rb g w1 m1 fa) := Lib.hid (by rw [hm1, hfa]; exact H1.out)
     have HSm : Hid (RnI st m1 30000 (O2 + 2000) ∧ (m1.stat = 1 → m1.inn.length ≤ 50)) := Lib.hid (by rw [hm1]; exact HSz.out)
     rw [← hfa] at HF1
     clear hm1 hfa hb hf0 H1 HSz HFu HI1
     obtain ⟨vh, ve, vi, vo, hR⟩ := HR1.out
     have HR := Lib.hid hR
     obtain ⟨⟨_, _, _, _, y4, y5, _, _⟩, _, _, _, f4, _⟩ := hR.cells
     obtain ⟨A, ca, rfl⟩ := Kd.R_slice hR.inn
     obtain ⟨_, hca, hC⟩ := Kd.R_reads' hR.inn
     have HC := Lib.hid hC
     clear hR hC
     by_cases hs1 : m1.stat = 1
     ·have d2 : (m1.stat == 1) = true := by rw [hs1]; rfl
      have d2' : (m1.stat != 1) = false := by rw [hs1]; rfl
      have hl50 := HSm.out.2 hs1
      have HS1m := Lib.hid hs1
      clear hs1
      cases hi : m1.inn with
      | nil =>
       have HE2 : Hid (m1 = G) := Lib.hid (by rw [HM1.out]; exact (setl_end HS1.out HX.out (.inr (by rw [← HM1.out]; exact hi))).symm.trans HE.out)
       rw [hi] at y4
       clear hi
       go_wp2_with fail
       first | go_end0 | ((try simp only [Exit.inBlock, Exit.then]); refine bodyPost_ret (results_none rfl _ _ _) rfl ?_)
       exact ⟨rfl, _, by rw [← HE2.out]; exact HR1.out⟩
      | cons ev r =>
       have HE2 : Hid (setlM st tr gk (rndM st tr { m1 with inn := r } fa ev).1 (rndM st tr { m1 with inn := r } fa ev).2.1 = G) := Lib.hid (by rw [HM1.out, HFa.out]; exact (setl_ev HS1.out HX.out (by rw [← HM1.out]; exact HS1m.out) (by rw [← HM1.out]; exact hi)).symm.trans HE.out)
       have hC := HC.out
       rw [hi] at y4 hC hca hl50
       have hlr : r.length ≤ 49 := by simp only [List.length_cons] at hl50; omega
       obtain ⟨ad, rfl, a0⟩ := nums_at hC 0 (by simp)
       rw [addr0] at a0
       have HCt := Lib.hid (c_tail hC)
       have HRc1 := HR1
       have HLr := Lib.hid hlr
       clear hC hi hl50
       have p1 : (0 < r.length + 1) = True := eq_true (by omega)
       simp only [List.length_cons] at y4 hca
       by_cases hca1 : ca = 1
       ·subst hca1
        obtain rfl : r = [] := by
         cases r with
         | nil => rfl
         | cons a b => simp only [List.length_cons] at hca; omega
        clear hca hlr p1
        simp only [List.length_nil, Nat.zero_add] at y4
        go_wp2_with fail
        refine (cloneIn (some ad) 0 0 [] rfl w1 (Nat.le_refl _) ⟨rfl, by simp, fun h => absurd h (by simp)⟩ (by simp)).mono ?_
        rintro e w3 ⟨u, rfl, hu, hb3⟩
        obtain ⟨Au, cu, rfl⟩ := Kd.R_slice hu
        have hR3 := HR.out.below hb3
        have hu3 : InnR w3 w0.heap.size (.slice Au ([] : List Int).length cu) [] := Kd.R_lower hu HR.out.low.size
        have HRp := Lib.hid (hR3.putInn hu3)
        have z4 := blk_cell hR3.blk 4
        have g4 := blk_free hR3.blk 4
        clear hu hb3 hR3 hu3 y4 f4 a0
        go_wp2_with fail
        have hI2 : RnI st { m1 with inn := [] } 2000 (O2 + 2000) := ⟨Nat.zero_le _, HSm.out.1.out, HSm.out.1.env, HSm.out.1.ok, HSm.out.1.len⟩
        have HSz2 := Lib.hid (rnd_size HGd.out.1 HGd.out.2 (m := { m1 with inn := [] }) HR.out.conf hI2 fa ev)
        have HFu2 := Lib.hid (rnd_fuel (st := st) (tr := tr) (m := { m1 with inn := [] }) fa ev)
        refine (mround_any HT.out HZ.out HGd.out.1 HGd.out.2 (O2 + 2000) (by have := HO.out; omega) hI2 (by have := HF1.out.2; omega) ⟨_, _, _, _, HRp.out⟩ ev).mono ?_
        rintro e w4 ⟨rfl, h4⟩
        have H4 := Lib.hid h4
        clear h4 hI2 z4 g4
        go_wp2_with fail
        go_roundg gk
        case rel =>
         refine ⟨_, _, O2 + 4000, H4, HE2, Lib.hid (HSz2.out.1.mono (Nat.le_refl _) (by omega)), Lib.hid (fun h => Nat.le_trans (HSz2.out.2 h) (by decide)), Lib.hid (by rw [HFu2.out.1]; have := HF1.out.2; omega), Lib.hid ?_, Lib.hid (by have := HO.out; omega)⟩
         rw [HFu2.out.1]
         by_cases h0 : fa = 0
         ·right; rw [(HFu2.out.2 h0).1]; decide
         ·left; have := HF1.out.1; omega
        case measure => omega
       ·obtain ⟨n, hn⟩ : ∃ n : Nat, n = r.length + 1 := ⟨_, rfl⟩
        rw [← hn] at y4 p1 hca
        have dl : ((n : Int) == 0) = false := by rw [beq_eq_false_iff_ne]; omega
        have p2 : ((1 : Int) ≤ (n : Int)) = True := eq_true (by omega)
        have p3 : (1 ≤ n) = True := eq_true (by omega)
        have p5 : n ≤ 50 := by omega
        have Hn : Hid (n - 1 = r.length) := Lib.hid (by omega)
        have Hca : Hid (r.length ≤ ca - 1) := Lib.hid (by omega)
        clear hn hlr
        go_wp2_with fail
        rw [Hn.out]
        refine (cloneIn (some (ad.add 1)) (ca - 1) r.length r rfl w1 Hca.out HCt.out (by have := HLr.out; omega)).mono ?_
        rintro e w3 ⟨u, rfl, hu, hb3⟩
        obtain ⟨Au, cu, rfl⟩ := Kd.R_slice hu
        have hR3 := HR.out.below hb3
        have hu3 : InnR w3 w0.heap.size (.slice Au r.length cu) r := Kd.R_lower hu HR.out.low.size
        have HRp := Lib.hid (hR3.putInn hu3)
        have z4 := blk_cell hR3.blk 4
        have g4 := blk_free hR3.blk 4
        clear hu hb3 hR3 hu3 y4 f4 a0
        go_wp2_with fail
        have hI2 : RnI st { m1 with inn := r } 2000 (O2 + 2000) := ⟨by have := HLr.out; show r.length ≤ 2000; omega, HSm.out.1.out, HSm.out.1.env, HSm.out.1.ok, HSm.out.1.len⟩
        have HSz2 := Lib.hid (rnd_size HGd.out.1 HGd.out.2 (m := { m1 with inn := r }) HR.out.conf hI2 fa ev)
        have HFu2 := Lib.hid (rnd_fuel (st := st) (tr := tr) (m := { m1 with inn := r }) fa ev)
        refine (mround_any HT.out HZ.out HGd.out.1 HGd.out.2 (O2 + 2000) (by have := HO.out; omega) hI2 (by have := HF1.out.2; omega) ⟨_, _, _, _, HRp.out⟩ ev).mono ?_
        rintro e w4 ⟨rfl, h4⟩
        have H4 := Lib.hid h4
        clear h4 hI2 z4 g4
        go_wp2_with fail
        go_roundg gk
        case rel =>
         refine ⟨_, _, O2 + 4000, H4, HE2, Lib.hid (HSz2.out.1.mono (Nat.le_refl _) (by omega)), Lib.hid (fun h => Nat.le_trans (HSz2.out.2 h) (by decide)), Lib.hid (by rw [HFu2.out.1]; have := HF1.out.2; omega), Lib.hid ?_, Lib.hid (by have := HO.out; omega)⟩
         rw [HFu2.out.1]
         by_cases h0 : fa = 0
         ·right; rw [(HFu2.out.2 h0).1]; decide
         ·left; have := HF1.out.1; omega
        case measure => omega
     ·have d2 : (m1.stat == 1) = false := by rw [beq_eq_false_iff_ne]; exact hs1
      have d2' : (m1.stat != 1) = true := by rw [bne_iff_ne]; exact hs1
      have HE2 : Hid (m1 = G) := Lib.hid (by rw [HM1.out]; exact (setl_end HS1.out HX.out (.inl (by rw [← HM1.out]; exact hs1))).symm.trans HE.out)
      clear hs1
      go_wp2_with fail
      first | go_end0 | ((try simp only [Exit.inBlock, Exit.then]); refine bodyPost_ret (results_none rfl _ _ _) rfl ?_)
      exact ⟨rfl, _, by rw [← HE2.out]; exact HR1.out⟩
  ·have d1 : (m2.stat == 1) = false := by rw [beq_eq_false_iff_ne]; exact hs
   have HE2 : Hid (m2 = G) := Lib.hid ((setl_not hs gk f2).symm.trans HE.out)
   clear hs
   go_wp2_with fail
   go_end0
   exact ⟨rfl, _, by rw [← HE2.out]; exact HM.out⟩
end
end Go.Proofs.YtikilglbhnplaaaGreatDoor
end
section
namespace Go.Proofs.YtikilglbhnplaaaGreatDoor
open Go.RowKit Go.Proofs.YtikilglbhnplaaaGreatDoorW.PrintWords Go.Proofs.YtikilglbhnplaaaGreatDoorW.PrintLast
open PX (T V)
theorem drew_blk {W : World} {b : Nat} {o : Obj} (h : W.heap[b]? = some o) : W.drew.heap[b]? = some o := h
theorem mk_his (W : World) (B : Nat) (hB : B ≤ W.heap.size) (n : Nat) (hn : n ≤ 1000) : HisR (W.alloc (.cells (madeCells #[.int .u32 0] n) 38)) B (.slice (some ⟨W.heap.size, 0, none⟩) n n) (List.replicate n 0) := by
 have h := own_made W B 38 .u32 n hB (by omega)
 exact Kd.R_of_own (enc := fun x => .int .u32 x) (xs := List.replicate n 0) (by simpa [nums, encs] using h) (fun _ _ => trivial)
theorem mk_env (W : World) (B : Nat) (hB : B ≤ W.heap.size) (n : Nat) (hn : n ≤ 1000) : EnvR (W.alloc (.cells (madeCells #[.int .i64 0] n) 2)) B (.slice (some ⟨W.heap.size, 0, none⟩) n n) (List.replicate n 0) := by
 have h := own_made W B 2 .i64 n hB (by omega)
 exact Kd.R_of_own (enc := fun x => .int .i64 x) (xs := List.replicate n 0) (by simpa [nums, encs] using h) (fun _ _ => trivial)
section
variable {g : Nat} {v : Int} {st : List Sta} {tr : List Tra} {w : World}
theorem mbegin_any (hT : TrM w g v st tr) (good : chkP v st tr = .none) (few : fewP st tr = true) :
  Calls Tryz.prog 51 #[.pointer (some ⟨g, 0, none⟩)] w fun e w' => ∃ vh ve, e = .returned (.agg #[.int .u32 0, vh, ve, .slice none 0 0, .int .i64 1]) ∧ HisR w' w.heap.size vh (List.replicate st.length 0) ∧ EnvR w' w.heap.size ve (List.replicate v.toNat 0) ∧ Below w.heap.size w w' := by
 obtain ⟨⟨hv0, hv8, hn1, hn, hn2⟩, _⟩ := chk_none good
 obtain ⟨hS, hTr⟩ := few_s few
 obtain ⟨vn, rfl⟩ : ∃ n : Nat, v = (n : Int) := ⟨v.toNat, by omega⟩
 have hmk1 := fun W : World => run_make_row' (P := Tryz.prog) 43 38 (.int .u32 0) 4 Tryz.underlying43 (by kernel_rfl) rfl .i64 .i64 st.length (by omega) (by omega) W
 have hmk2 := fun W : World => run_make_row' (P := Tryz.prog) 44 2 (.int .i64 0) 8 Tryz.underlying44 (by kernel_rfl) rfl .i64 .i64 vn (by omega) (by omega) W
 have hb0 := (Below.refl _ w).alloc (Nat.le_refl _) (.cells #[.int .u32 0, .slice none 0 0, .slice none 0 0, .slice none 0 0, .int .i64 0] 46)
 have HB0 := Lib.hid hb0
 have HT := Lib.hid (hT.below hb0)
 have HZ0 := Lib.hid (blk_new w (.cells #[.int .u32 0, .slice none 0 0, .slice none 0 0, .slice none 0 0, .int .i64 0] 46))
 clear hb0 hT
 go_enter Tryz.func51, Tryz.ntmps51
 go_wp2_with fail
 refine (tchart_any HT.out (by omega) (by omega) (by omega) hS hTr).mono ?_
 rintro e w1 ⟨gS, ca, B, cb, rfl, hM, hb1, _, _, _⟩
 generalize (some ⟨gS, 0, none⟩ : Option Addr) = A at *
 have HB1 := Lib.hid (below_then HB0.out HB0.out.size hb1)
 have hz1 := (hb1.block _ (lt_of_block HZ0.out)).trans HZ0.out
 have hal : Below w1.heap.size w1 (w1.alloc (.cells #[.int .i64 (vn : Int), .slice A st.length ca, .slice B tr.length cb] 25)) := (Below.refl _ w1).alloc (Nat.le_refl _) _
 have hk := blk_new w1 (.cells #[.int .i64 (vn : Int), .slice A st.length ca, .slice B tr.length cb] 25)
 have x0 := blk_cell hk 0
 have x1 := blk_cell hk 1
 have HZ1 := Lib.hid ((hal.block _ (lt_of_block hz1)).trans hz1)
 have HBa := Lib.hid (below_then HB1.out HB1.out.size hal)
 have hs1 : w.heap.size ≤ w1.heap.size := HB1.out.size
 clear hM hb1 hz1 hal hk
 go_wp2_with fail
 obtain ⟨W, hW⟩ : ∃ W : World, W = w1.alloc (.cells #[.int .i64 (vn : Int), .slice A st.length ca, .slice B tr.length cb] 25) := ⟨_, rfl⟩
 have hWs : W.heap.size = w1.heap.size + 1 := by rw [hW]; simp
 rw [← hW] at HZ1 HBa x0 x1 ⊢
 clear hW
 have hsW : w.heap.size ≤ W.heap.size := HBa.out.size
 have hzA : ((W.alloc (.cells (madeCells #[.int .u32 0] st.length) 38)).alloc (.cells (madeCells #[.int .i64 0] vn) 2)).heap[w.heap.size]? = some (.cells #[.int .u32 0, .slice none 0 0, .slice none 0 0, .slice none 0 0, .int .i64 0] 46 (0, 0)) := blk_alloc _ (blk_alloc _ HZ1.out)
 have hzB : ((W.alloc (.cells (madeCells #[.int .i64 0] vn) 2)).alloc (.cells (madeCells #[.int .u32 0] st.length) 38)).heap[w.heap.size]? = some (.cells #[.int .u32 0, .slice none 0 0, .slice none 0 0, .slice none 0 0, .int .i64 0] 46 (0, 0)) := blk_alloc _ (blk_alloc _ HZ1.out)
 have HZA := Lib.hid hzA
 have HZB := Lib.hid hzB
 have a0 := blk_cell hzA 0
 have a1 := blk_cell hzA 1
 have a2 := blk_cell hzA 2
 have a3 := blk_cell hzA 3
 have a4 := blk_cell hzA 4
 have b0 := blk_cell hzB 0
 have b1 := blk_cell hzB 1
 have b2 := blk_cell hzB 2
 have b3 := blk_cell hzB 3
 have b4 := blk_cell hzB 4
 have f0 := blk_free hzA 0
 have f1 := blk_free hzA 1
 have f2 := blk_free hzA 2
 have f3 := blk_free hzA 3
 have f4 := blk_free hzA 4
 have g0 := blk_free hzB 0
 have g1 := blk_free hzB 1
 have g2 := blk_free hzB 2
 have g3 := blk_free hzB 3
 have g4 := blk_free hzB 4
 clear hzA hzB
 have eA : (W.alloc (.cells (madeCells #[.int .u32 0] st.length) 38)).heap.size = w1.heap.size + 1 + 1 := by simp [hWs]
 have eB : (W.alloc (.cells (madeCells #[.int .i64 0] vn) 2)).heap.size = w1.heap.size + 1 + 1 := by simp [hWs]
 have hA1 : HisR ((W.alloc (.cells (madeCells #[.int .u32 0] st.length) 38)).alloc (.cells (madeCells #[.int .i64 0] vn) 2)) w.heap.size (.slice (some ⟨w1.heap.size + 1, 0, none⟩) st.length st.length) (List.replicate st.length 0) := by
  rw [← hWs]; exact Kd.R_alloc (mk_his W w.heap.size hsW st.length (by omega)) _
 have hA2 : EnvR ((W.alloc (.cells (madeCells #[.int .u32 0] st.length) 38)).alloc (.cells (madeCells #[.int .i64 0] vn) 2)) w.heap.size (.slice (some ⟨w1.heap.size + 1 + 1, 0, none⟩) vn vn) (List.replicate vn 0) := by
  rw [← eA]; exact mk_env (W.alloc (.cells (madeCells #[.int .u32 0] st.length) 38)) w.heap.size (by rw [eA]; omega) vn (by omega)
 have hB2 : EnvR ((W.alloc (.cells (madeCells #[.int .i64 0] vn) 2)).alloc (.cells (madeCells #[.int .u32 0] st.length) 38)) w.heap.size (.slice (some ⟨w1.heap.size + 1, 0, none⟩) vn vn) (List.replicate vn 0) := by
  rw [← hWs]; exact Kd.R_alloc (mk_env W w.heap.size hsW vn (by omega)) _
 have hB1 : HisR ((W.alloc (.cells (madeCells #[.int .i64 0] vn) 2)).alloc (.cells (madeCells #[.int .u32 0] st.length) 38)) w.heap.size (.slice (some ⟨w1.heap.size + 1 + 1, 0, none⟩) st.length st.length) (List.replicate st.length 0) := by
  rw [← eB]; exact mk_his (W.alloc (.cells (madeCells #[.int .i64 0] vn) 2)) w.heap.size (by rw [eB]; omega) st.length (by omega)
 have HA1 := Lib.hid hA1
 have HA2 := Lib.hid hA2
 have HB1' := Lib.hid hB1
 have HB2 := Lib.hid hB2
 clear hA1 hA2 hB1 hB2
 obtain ⟨XA, hXA⟩ : ∃ X : World, X = (W.alloc (.cells (madeCells #[.int .u32 0] st.length) 38)).alloc (.cells (madeCells #[.int .i64 0] vn) 2) := ⟨_, rfl⟩
 obtain ⟨XB, hXB⟩ : ∃ X : World, X = (W.alloc (.cells (madeCells #[.int .i64 0] vn) 2)).alloc (.cells (madeCells #[.int .u32 0] st.length) 38) := ⟨_, rfl⟩
 have hbA : Below w.heap.size w XA := by rw [hXA]; exact (HBa.out.alloc hsW _).alloc (by simp; omega) _
 have hbB : Below w.heap.size w XB := by rw [hXB]; exact (HBa.out.alloc hsW _).alloc (by simp; omega) _
 have hzA := HZA.out
 have hzB := HZB.out
 have hA1 := HA1.out
 have hA2 := HA2.out
 have hB1 := HB1'.out
 have hB2 := HB2.out
 rw [← hXA] at hzA hA1 hA2
 rw [← hXB] at hzB hB1 hB2
 have HXA := Lib.hid hXA
 have HXB := Lib.hid hXB
 have QA := Lib.hid (And.intro hzA (And.intro hA1 (And.intro hA2 hbA)))
 have QB := Lib.hid (And.intro hzB (And.intro hB1 (And.intro hB2 hbB)))
 clear hXA hXB hbA hbB hzA hzB hA1 hA2 hB1 hB2 HZA HZB HA1 HA2 HB1' HB2
 go_region_law (fail)
 all_goals (go_wp2_with fail)
 all_goals first
  | (rw [← HXA.out]; refine bodyPost_ret (results_cell_row rfl _ _ w.heap.size 46 #[.int .u32 0, .slice (some ⟨w1.heap.size + 1, 0, none⟩) st.length st.length, .slice (some ⟨w1.heap.size + 1 + 1, 0, none⟩) vn vn, .slice none 0 0, .int .i64 1] (0, 0) _ rfl (drew_blk (set5_blk QA.out.1 (.int .u32 0) (.slice (some ⟨w1.heap.size + 1, 0, none⟩) st.length st.length) (.slice (some ⟨w1.heap.size + 1 + 1, 0, none⟩) vn vn) (.slice none 0 0) (.int .i64 1))) Tryz.underlying46 rfl (by kernel_rfl)) rfl ?_; exact ⟨_, _, rfl, Kd.R_drew (R_set5 QA.out.2.1 QA.out.1 (by decide) (.int .u32 0) (.slice (some ⟨w1.heap.size + 1, 0, none⟩) st.length st.length) (.slice (some ⟨w1.heap.size + 1 + 1, 0, none⟩) vn vn) (.slice none 0 0) (.int .i64 1)), Kd.R_drew (R_set5 QA.out.2.2.1 QA.out.1 (by decide) (.int .u32 0) (.slice (some ⟨w1.heap.size + 1, 0, none⟩) st.length st.length) (.slice (some ⟨w1.heap.size + 1 + 1, 0, none⟩) vn vn) (.slice none 0 0) (.int .i64 1)), below_drew (set5_below QA.out.2.2.2 (Nat.le_refl _) (.int .u32 0) (.slice (some ⟨w1.heap.size + 1, 0, none⟩) st.length st.length) (.slice (some ⟨w1.heap.size + 1 + 1, 0, none⟩) vn vn) (.slice none 0 0) (.int .i64 1))⟩)
  | (rw [← HXB.out]; refine bodyPost_ret (results_cell_row rfl _ _ w.heap.size 46 #[.int .u32 0, .slice (some ⟨w1.heap.size + 1 + 1, 0, none⟩) st.length st.length, .slice (some ⟨w1.heap.size + 1, 0, none⟩) vn vn, .slice none 0 0, .int .i64 1] (0, 0) _ rfl (drew_blk (set5_blk QB.out.1 (.int .u32 0) (.slice (some ⟨w1.heap.size + 1 + 1, 0, none⟩) st.length st.length) (.slice (some ⟨w1.heap.size + 1, 0, none⟩) vn vn) (.slice none 0 0) (.int .i64 1))) Tryz.underlying46 rfl (by kernel_rfl)) rfl ?_; exact ⟨_, _, rfl, Kd.R_drew (R_set5 QB.out.2.1 QB.out.1 (by decide) (.int .u32 0) (.slice (some ⟨w1.heap.size + 1 + 1, 0, none⟩) st.length st.length) (.slice (some ⟨w1.heap.size + 1, 0, none⟩) vn vn) (.slice none 0 0) (.int .i64 1)), Kd.R_drew (R_set5 QB.out.2.2.1 QB.out.1 (by decide) (.int .u32 0) (.slice (some ⟨w1.heap.size + 1 + 1, 0, none⟩) st.length st.length) (.slice (some ⟨w1.heap.size + 1, 0, none⟩) vn vn) (.slice none 0 0) (.int .i64 1)), below_drew (set5_below QB.out.2.2.2 (Nat.le_refl _) (.int .u32 0) (.slice (some ⟨w1.heap.size + 1 + 1, 0, none⟩) st.length st.length) (.slice (some ⟨w1.heap.size + 1, 0, none⟩) vn vn) (.slice none 0 0) (.int .i64 1))⟩)
end
end Go.Proofs.YtikilglbhnplaaaGreatDoor
end
section
namespace Go.Proofs.YtikilglbhnplaaaGreatDoor
open Go.RowKit Go.Proofs.YtikilglbhnplaaaGreatDoorW.PrintWords Go.Proofs.YtikilglbhnplaaaGreatDoorW.PrintLast
open PX (T V)
section
variable {g : Nat} {v : Int} {st : List Sta} {tr : List Tra} {w : World}
theorem mfirst_any (hw : LaidZ w) (hT : TrM w g v st tr) (good : chkP v st tr = .none) (few : fewP st tr = true) :
  Calls Tryz.prog 50 #[.pointer (some ⟨g, 0, none⟩)] w fun e w' => ∃ vh ve vi vo, e = .returned (.tuple #[.agg #[.int .u32 ((fstM v st).conf : Nat), vh, ve, vi, .int .i64 (fstM v st).stat], vo]) ∧ HisR w' w.heap.size vh (fstM v st).hist ∧ EnvR w' w.heap.size ve (fstM v st).env ∧ InnR w' w.heap.size vi (fstM v st).inn ∧ OutR w' w.heap.size vo (fstM v st).out ∧ Below w.heap.size w w' := by
 obtain ⟨⟨hv0, hv8, hn1, hn, hn2⟩, _⟩ := chk_none good
 have hb0 := (Below.refl _ w).alloc (Nat.le_refl _) (.cells #[.int .u32 0, .slice none 0 0, .slice none 0 0, .slice none 0 0, .int .i64 0] 46)
 have HB0 := Lib.hid hb0
 have HT := Lib.hid (hT.below hb0)
 have HW := Lib.hid (hw.below hb0)
 have HZ0 := Lib.hid (blk_new w (.cells #[.int .u32 0, .slice none 0 0, .slice none 0 0, .slice none 0 0, .int .i64 0] 46))
 have HGd := Lib.hid (And.intro good few)
 have HSz : Hid (Szs (ses0 st v) 0 0) := Lib.hid ⟨Nat.le_refl _, Nat.le_refl _, by show (List.replicate v.toNat (0 : Int)).length ≤ 1000; simp; omega⟩
 clear hb0 hT hw
 go_enter Tryz.func50, Tryz.ntmps50
 go_wp2_with fail
 refine (mbegin_any HT.out HGd.out.1 HGd.out.2).mono ?_
 rintro e w1 ⟨vh, ve, rfl, hh, he, hb1⟩
 obtain ⟨AH, hc, rfl⟩ := Kd.R_slice hh
 obtain ⟨AE, ec, rfl⟩ := Kd.R_slice he
 have HHh := Lib.hid (Kd.R_reads' hh).2
 have HHe := Lib.hid (Kd.R_reads' he).2
 have HB1 := Lib.hid (below_then HB0.out HB0.out.size hb1)
 have HT1 := Lib.hid (HT.out.below hb1)
 have HW1 := Lib.hid (HW.out.below hb1)
 have HZ1 := Lib.hid ((hb1.block _ (lt_of_block HZ0.out)).trans HZ0.out)
 clear hh he hb1
 go_wp2_with fail
 have hlen : (ses0 st v).hist.length = st.length := by show (List.replicate st.length (0 : Int)).length = _; simp
 have hlen2 : (ses0 st v).env.length = v.toNat := by show (List.replicate v.toNat (0 : Int)).length = _; simp
 have hbg := mbeg_any HW1.out HT1.out HGd.out.1 HGd.out.2 (ses0 st v) AH AE none hc ec 0 HHh.out.2 HHe.out.2 (Kd.C_nil _ _) HHh.out.1 HHe.out.1 (Nat.le_refl _) (by rw [hlen]; omega) HSz.out.2.2 (Nat.zero_le _) (by show (0 : Nat) < _; decide)
 rw [hlen, hlen2] at hbg
 have HBg := Lib.hid hbg
 clear hbg hlen hlen2
 refine HBg.out.mono ?_
 rintro e w2 ⟨wB, A, ca, B, cb, rfl, hC, hM, hb2, hbB⟩
 have hpad : ({ ses0 st v with hist := padH st (ses0 st v).hist, out := [] } : Ses) = ses0 st v := by
  show (⟨0, padH st (List.replicate st.length 0), List.replicate v.toNat 0, [], 1, []⟩ : Ses) = ⟨0, List.replicate st.length 0, List.replicate v.toNat 0, [], 1, []⟩
  congr 1
  unfold padH
  simp
 rw [hpad] at hM
 have HC := Lib.hid hC
 have HM := Lib.hid hM
 have HBB := Lib.hid (below_then HB1.out HB1.out.size hbB)
 have HZ2 := Lib.hid ((hb2.block _ (lt_of_block HZ1.out)).trans HZ1.out)
 clear hC hM hb2 hbB hpad HHh HHe
 go_wp2_with fail
 refine (ment_any HC.out HM.out 1 (by decide) (HSz.out.mono (by omega) (by omega))).mono ?_
 rintro e w3 ⟨rfl, h3, k3⟩
 have HZ3 := Lib.hid (k3 _ _ _ (Or.inr (Or.inr (Or.inl rfl))) HZ2.out)
 have hsz := entN_size HGd.out.2 1 (ses0 st v) 0 0 HSz.out st.length (Nat.le_refl _)
 have HS3 : Hid (Szs (entM st 1 (ses0 st v)) 1000 1000) := Lib.hid (hsz.1.mono (by omega) (by omega))
 have HH3 : Hid ((entM st 1 (ses0 st v)).hist = List.replicate st.length 0) := Lib.hid hsz.2
 have HF : Hid (fstM v st = entM st (setP st (entM st 1 (ses0 st v)).hist 0 (rdS st 0).f2) (entM st 1 (ses0 st v))) := Lib.hid rfl
 have H3 := Lib.hid h3
 generalize entM st 1 (ses0 st v) = m3 at *
 clear h3 k3 hsz HM HSz
 obtain ⟨vh, _, _, _, hR⟩ := H3.out
 obtain ⟨Ah, ch, rfl⟩ := Kd.R_slice hR.hist
 obtain ⟨_, hch, hHc⟩ := Kd.R_reads' hR.hist
 obtain ⟨⟨_, z2, _, _, z5, _⟩, _⟩ := hR.cells
 have hC := HC.out
 obtain ⟨ad, A2, c2, A3, c3, A4, c4, rfl, q0, q1, q2, q3, q4, l2, g2, l3, g3, l4, g4⟩ := PAll.at_T66 hC.M.cs 0 (Int.le_refl _) (by omega)
 have zi := (hR.low.cell (cell_lt q2)).trans q2
 have HHc := Lib.hid (Kd.C_drew hHc)
 have hl3 : m3.hist.length = st.length := by rw [HH3.out]; simp
 have HHn : Hid (m3.hist.length ≤ ch ∧ m3.hist.length ≤ 100000 ∧ ∀ x ∈ m3.hist, 0 ≤ x ∧ x < 4294967296) := Lib.hid ⟨hch, by omega, fun x hx => by rw [HH3.out] at hx; rw [(List.mem_replicate.1 hx).2]; omega⟩
 have HTr := Lib.hid (hC.T.below (hR.low.trans ((below_drew (Below.refl _ _)).mono hR.low.size)))
 have HWr := Lib.hid (hC.Z.below (hR.low.trans ((below_drew (Below.refl _ _)).mono hR.low.size)))
 have hl2 : (rdS st 0).f2.length ≤ 20 := ((few_l HGd.out.2).1 _ (rdS_in (q := 0) (by omega))).2.2
 have HL2 : Hid ((rdS st 0).f2.length ≤ c2 ∧ (rdS st 0).f2.length ≤ 1000) := Lib.hid ⟨l2, by omega⟩
 have HG2 : Hid (NumsC w3.drew A2 (rdS st 0).f2.length (rdS st 0).f2) := Lib.hid (Kd.C_drew (Kd.C_below g2 hR.low))
 have p1 : (0 < st.length) = True := eq_true (by omega)
 have p2 : ((0 : Int) < (st.length : Int)) = True := eq_true (by omega)
 change w3.cell? _ = some (.slice A2 (rdS st 0).f2.length c2) at zi
 clear hC hR hch hHc q0 q1 q2 q3 q4 l2 g2 l3 g3 l4 g4 hl3 hl2
 generalize (rdS st 0).f2 = li at *
 simp only [Int.toNat_zero, Nat.zero_mul, addr0] at zi
 go_wp2_with fail
 refine start_ (n := 17) (S := fun w' => w'.cell? ⟨wB.heap.size, 5, none⟩ = some (.slice Ah m3.hist.length ch) ∧ w'.cell? ⟨wB.heap.size, 2, none⟩ = some (.slice (some ad) st.length ca) ∧ w'.cell? ⟨ad.block, ad.off + 2, none⟩ = some (.slice A2 li.length c2)) (ds := [15, 16]) (tf17 0) (by kernel_rfl) rfl (by kernel_rfl) ⟨z5, z2, zi⟩ (fun hHeld => ?_)
 iterate 6
  refine pxt_ (v := ?_) (a' := ?_) rfl rfl (by kernel_rfl) (fun _ _ _ h => h) (Or.inl ⟨by rfl, ?_⟩) ?_ ?_
  rotate_left
  ·intro w'
   go_simp
   first | done | with_reducible rfl
  rotate_left
  ·simp only [Act.put, List.setIfInBounds_toArray, List.set_cons_zero, List.set_cons_succ, i64_w, i32_w]
   first | done | rfl
 refine nxt_ (v := ?_) (a' := ?_) rfl rfl (by kernel_rfl) (fun _ _ _ h => h) (Or.inl ⟨by rfl, ?_⟩) hHeld ?_ ?_
 rotate_left
 ·rintro w' ⟨s0, s1, s2⟩
  go_simp
  first | done | with_reducible rfl
 rotate_left
 ·simp only [Act.put, List.setIfInBounds_toArray, List.set_cons_zero, List.set_cons_succ, i64_w, i32_w]
  first | done | rfl
 iterate 4
  refine pxt_ (v := ?_) (a' := ?_) rfl rfl (by kernel_rfl) (fun _ _ _ h => h) (Or.inl ⟨by rfl, ?_⟩) ?_ ?_
  rotate_left
  ·intro w'
   go_simp
   first | done | with_reducible rfl
  rotate_left
  ·simp only [Act.put, List.setIfInBounds_toArray, List.set_cons_zero, List.set_cons_succ, i64_w, i32_w]
   first | done | rfl
 refine nxt_ (v := ?_) (a' := ?_) rfl rfl (by kernel_rfl) (fun _ _ _ h => h) (Or.inl ⟨by rfl, ?_⟩) hHeld ?_ ?_
 rotate_left
 ·rintro w' ⟨s0, s1, s2⟩
  go_simp
  first | done | with_reducible rfl
 rotate_left
 ·simp only [Act.put, List.setIfInBounds_toArray, List.set_cons_zero, List.set_cons_succ, i64_w, i32_w]
  first | done | rfl
 iterate 2
  refine pxt_ (v := ?_) (a' := ?_) rfl rfl (by kernel_rfl) (fun _ _ _ h => h) (Or.inl ⟨by rfl, ?_⟩) ?_ ?_
  rotate_left
  ·intro w'
   go_simp
   first | done | with_reducible rfl
  rotate_left
  ·simp only [Act.put, List.setIfInBounds_toArray, List.set_cons_zero, List.set_cons_succ, i64_w, i32_w]
   first | done | rfl
 refine nxt_ (v := ?_) (a' := ?_) rfl rfl (by kernel_rfl) (fun _ _ _ h => h) (Or.inl ⟨by rfl, ?_⟩) hHeld ?_ ?_
 rotate_left
 ·rintro w' ⟨s0, s1, s2⟩
  go_simp
  first | done | with_reducible rfl
 rotate_left
 ·simp only [Act.put, List.setIfInBounds_toArray, List.set_cons_zero, List.set_cons_succ, i64_w, i32_w]
  first | done | rfl
 refine last_ (i := 15) (N := some 29) (tf17 16) rfl rfl (by kernel_rfl) (by decide) (fun K hK => ?_)
 refine goes_ Tryz.func13 (by kernel_rfl) rfl #[.pointer (some ⟨g, 0, none⟩), .slice Ah m3.hist.length ch, .int .i64 0, .slice A2 li.length c2] (by rfl) rfl rfl (by first | rfl | (go_simp; done) | (go_simp; exact ⟨rfl, rfl⟩) | (go_simp; rfl)) ?_
 refine (eset_any _ HWr.out HTr.out HGd.out.1 HGd.out.2 HHc.out HHn.out.1 HHn.out.2.1 HHn.out.2.2 0 A2 c2 li HG2.out HL2.out.1 HL2.out.2).mono ?_
 rintro e w4 ⟨rfl, hlt4, hb4⟩
 refine ⟨_, rfl, hK.out _ _ ?_⟩
 clear hK K
 refine last_ (i := 16) (N := some 30) (tf17 17) rfl rfl (by kernel_rfl) (by decide) (fun K hK => ?_)
 refine goes_ Tryz.func69 (by kernel_rfl) rfl #[StP wB, .int .u32 (setP st m3.hist 0 li : Nat)] (by rfl) rfl rfl (by first | rfl | (go_simp; done) | (go_simp; exact ⟨rfl, rfl⟩) | (go_simp; rfl)) ?_
 refine (ment_any HC.out (H3.out.below ((below_drew (Below.refl _ _)).trans hb4)) (setP st m3.hist 0 li) hlt4 (HS3.out.mono (by omega) (by omega))).mono ?_
 rintro e w5 ⟨rfl, h5, k5⟩
 refine ⟨_, rfl, hK.out _ _ ?_⟩
 clear hK K
 refine done_ (by kernel_rfl) ?_
 have HZ5 := Lib.hid (k5 _ _ _ (Or.inr (Or.inr (Or.inl rfl))) (((below_drew (Below.refl _ _)).trans hb4).block _ (lt_of_block HZ3.out) |>.trans HZ3.out))
 obtain ⟨M, hM⟩ : ∃ M, M = fstM v st := ⟨_, rfl⟩
 rw [← HF.out, ← hM] at h5
 have HMM := Lib.hid hM
 obtain ⟨vh, ve, vi, vo, hR⟩ := h5
 have HR := Lib.hid hR
 clear hM k5 hb4 hlt4 z2 z5 zi
 obtain ⟨⟨_, _, _, z4, z5, z6, z7, z8, z9⟩, _⟩ := hR.cells
 obtain ⟨A1, k1, rfl⟩ := Kd.R_slice hR.hist
 obtain ⟨A2, k2, rfl⟩ := Kd.R_slice hR.env
 obtain ⟨A3, k3, rfl⟩ := Kd.R_slice hR.inn
 obtain ⟨A4, k4, rfl⟩ := Kd.R_slice hR.out
 obtain ⟨q0, q1, q2, q3, q4⟩ : w5.cell? ⟨w.heap.size, 0, none⟩ = some (.int .u32 0) ∧ w5.cell? ⟨w.heap.size, 1, none⟩ = some (.slice none 0 0) ∧ w5.cell? ⟨w.heap.size, 2, none⟩ = some (.slice none 0 0) ∧ w5.cell? ⟨w.heap.size, 3, none⟩ = some (.slice none 0 0) ∧ w5.cell? ⟨w.heap.size, 4, none⟩ = some (.int .i64 0) := ⟨blk_cell HZ5.out 0, blk_cell HZ5.out 1, blk_cell HZ5.out 2, blk_cell HZ5.out 3, blk_cell HZ5.out 4⟩
 obtain ⟨f0, f1, f2, f3, f4⟩ : w5.frozen? ⟨w.heap.size, 0, none⟩ = false ∧ w5.frozen? ⟨w.heap.size, 1, none⟩ = false ∧ w5.frozen? ⟨w.heap.size, 2, none⟩ = false ∧ w5.frozen? ⟨w.heap.size, 3, none⟩ = false ∧ w5.frozen? ⟨w.heap.size, 4, none⟩ = false := ⟨blk_free HZ5.out 0, blk_free HZ5.out 1, blk_free HZ5.out 2, blk_free HZ5.out 3, blk_free HZ5.out 4⟩
 have hnB : wB.heap.size ≠ w.heap.size := fun e => by
  have h1 := hR.blk
  rw [e, HZ5.out] at h1
  exact absurd h1 (by simp)
 clear hR
 go_wp2_with fail
 refine start_ (n := 10) (S := fun w' => w'.cell? ⟨wB.heap.size, 4, none⟩ = some (.int .u32 (M.conf : Nat)) ∧ w'.cell? ⟨wB.heap.size, 5, none⟩ = some (.slice A1 M.hist.length k1) ∧ w'.cell? ⟨wB.heap.size, 6, none⟩ = some (.slice A2 M.env.length k2) ∧ w'.cell? ⟨wB.heap.size, 7, none⟩ = some (.slice A3 M.inn.length k3) ∧ w'.cell? ⟨wB.heap.size, 8, none⟩ = some (.int .i64 M.stat) ∧ w'.cell? ⟨wB.heap.size, 9, none⟩ = some (.slice A4 M.out.length k4)) (ds := []) (tf10 0) (by kernel_rfl) rfl (by kernel_rfl) ⟨z4, z5, z6, z7, z8, z9⟩ (fun hHeld => ?_)
 iterate 8
  refine nxt_ (v := ?_) (a' := ?_) rfl rfl (by kernel_rfl) (fun _ _ _ h => h) (Or.inl ⟨by rfl, ?_⟩) hHeld ?_ ?_
  rotate_left
  ·rintro w' ⟨s0, s1, s2, s3, s4, s5⟩
   go_simp
   first | done | with_reducible rfl
  rotate_left
  ·simp only [Act.put, List.setIfInBounds_toArray, List.set_cons_zero, List.set_cons_succ, i64_w, i32_w]
   first | done | rfl
 refine one_ (i := 8) (N := none) (tf10 9) rfl rfl (by kernel_rfl) (by decide) (fun K hK => ?_)
 refine skip_ (w1 := ?_) (by rfl) rfl ?_ ?_
 rotate_left
 ·go_simp
  rfl
 refine hK.out _ _ ⟨(far5d (w := w5) (a := ⟨wB.heap.size, 4, none⟩) (b := w.heap.size) hnB _ _ _ _ _).trans z4, (far5d (w := w5) (a := ⟨wB.heap.size, 5, none⟩) (b := w.heap.size) hnB _ _ _ _ _).trans z5, (far5d (w := w5) (a := ⟨wB.heap.size, 6, none⟩) (b := w.heap.size) hnB _ _ _ _ _).trans z6, (far5d (w := w5) (a := ⟨wB.heap.size, 7, none⟩) (b := w.heap.size) hnB _ _ _ _ _).trans z7, (far5d (w := w5) (a := ⟨wB.heap.size, 8, none⟩) (b := w.heap.size) hnB _ _ _ _ _).trans z8, (far5d (w := w5) (a := ⟨wB.heap.size, 9, none⟩) (b := w.heap.size) hnB _ _ _ _ _).trans z9⟩ (fun _ => ?_)
 clear hK K
 refine pxt_ (v := ?_) (a' := ?_) rfl rfl (by kernel_rfl) (fun _ _ _ h => h) (Or.inl ⟨by rfl, ?_⟩) ?_ ?_
 rotate_left
 ·intro w'
  go_simp
  first | done | with_reducible rfl
 rotate_left
 ·simp only [Act.put, List.setIfInBounds_toArray, List.set_cons_zero, List.set_cons_succ, i64_w, i32_w]
  first | done | rfl
 refine done_ (by kernel_rfl) ?_
 go_wp2_with fail
 have hB8 : Below w.heap.size w w5 := below_then HBB.out HBB.out.size HR.out.low
 have hBz := HBB.out.size
 obtain ⟨W, hW⟩ : ∃ W : World, W = set5 w5 w.heap.size (.int .u32 (M.conf : Nat)) (.slice A1 M.hist.length k1) (.slice A2 M.env.length k2) (.slice A3 M.inn.length k3) (.int .i64 M.stat) := ⟨_, rfl⟩
 have hk := set5_blk HZ5.out (.int .u32 (M.conf : Nat)) (.slice A1 M.hist.length k1) (.slice A2 M.env.length k2) (.slice A3 M.inn.length k3) (.int .i64 M.stat)
 have hr1 := R_set5 (Kd.R_lower HR.out.hist hBz) HZ5.out (by decide) (.int .u32 (M.conf : Nat)) (.slice A1 M.hist.length k1) (.slice A2 M.env.length k2) (.slice A3 M.inn.length k3) (.int .i64 M.stat)
 have hr2 := R_set5 (Kd.R_lower HR.out.env hBz) HZ5.out (by decide) (.int .u32 (M.conf : Nat)) (.slice A1 M.hist.length k1) (.slice A2 M.env.length k2) (.slice A3 M.inn.length k3) (.int .i64 M.stat)
 have hr3 := R_set5 (Kd.R_lower HR.out.inn hBz) HZ5.out (by decide) (.int .u32 (M.conf : Nat)) (.slice A1 M.hist.length k1) (.slice A2 M.env.length k2) (.slice A3 M.inn.length k3) (.int .i64 M.stat)
 have hr4 := R_set5 (Kd.R_lower HR.out.out hBz) HZ5.out (out_q (by decide)) (.int .u32 (M.conf : Nat)) (.slice A1 M.hist.length k1) (.slice A2 M.env.length k2) (.slice A3 M.inn.length k3) (.int .i64 M.stat)
 have hbW := set5_below hB8 (b := w.heap.size) (Nat.le_refl _) (.int .u32 (M.conf : Nat)) (.slice A1 M.hist.length k1) (.slice A2 M.env.length k2) (.slice A3 M.inn.length k3) (.int .i64 M.stat)
 rw [← hW] at hk hr1 hr2 hr3 hr4 hbW
 unfold set5 at hW
 rw [← hW]
 clear hW q0 q1 q2 q3 q4 f0 f1 f2 f3 f4 z4 z5 z6 z7 z8 z9 hnB hB8 hBz
 refine bodyPost_ret (results_ct rfl _ _ w.heap.size 46 #[.int .u32 _, .slice _ _ _, .slice _ _ _, .slice _ _ _, .int .i64 _] (0, 0) _ rfl (drew_blk hk) Tryz.underlying46 rfl (by kernel_rfl)) rfl ?_
 rw [← HMM.out]
 exact ⟨_, _, _, _, rfl, Kd.R_drew hr1, Kd.R_drew hr2, Kd.R_drew hr3, Kd.R_drew hr4, below_drew hbW⟩
end
end Go.Proofs.YtikilglbhnplaaaGreatDoor
end
section
namespace Go.Proofs.YtikilglbhnplaaaGreatDoor
open Go.RowKit Go.Proofs.YtikilglbhnplaaaGreatDoorW.PrintWords Go.Proofs.YtikilglbhnplaaaGreatDoorW.PrintLast
open PX (T V)
section
variable {g : Nat} {v : Int} {st : List Sta} {tr : List Tra} {w : World}
theorem mstart_any (hw : LaidZ w) (hT : TrM w g v st tr) (good : chkP v st tr = .none) (few : fewP st tr = true) :
  Calls Tryz.prog 30 #[.pointer (some ⟨g, 0, none⟩)] w fun e w' => ∃ vh ve vi vo, e = .returned (.tuple #[.agg #[.int .u32 ((staM v st tr).conf : Nat), vh, ve, vi, .int .i64 (staM v st tr).stat], vo]) ∧ HisR w' w.heap.size vh (staM v st tr).hist ∧ EnvR w' w.heap.size ve (staM v st tr).env ∧ InnR w' w.heap.size vi (staM v st tr).inn ∧ OutR w' w.heap.size vo (staM v st tr).out ∧ Below w.heap.size w w' := by
 obtain ⟨hfs, hfc⟩ := fst_size (v := v) good few
 obtain ⟨w0, hw0⟩ : ∃ w0 : World, w0 = w.alloc (.cells #[.int .u32 0, .slice none 0 0, .slice none 0 0, .slice none 0 0, .int .i64 0] 46) := ⟨_, rfl⟩
 have hb0 : Below w.heap.size w w0 := by rw [hw0]; exact (Below.refl _ w).alloc (Nat.le_refl _) _
 have hz0 : w0.heap[w.heap.size]? = some (.cells #[.int .u32 0, .slice none 0 0, .slice none 0 0, .slice none 0 0, .int .i64 0] 46 (0, 0)) := by rw [hw0]; exact blk_new w _
 have HLw := Lib.hid hb0
 have HT := Lib.hid (hT.below hb0)
 have HW := Lib.hid (hw.below hb0)
 have HZr := Lib.hid hz0
 have HGd := Lib.hid (And.intro good few)
 have Hw0 := Lib.hid hw0
 clear hb0 hz0 hT hw hw0
 go_enter Tryz.func30, Tryz.ntmps30
 go_wp2_with fail
 rw [← Hw0.out]
 refine (mfirst_any HW.out HT.out HGd.out.1 HGd.out.2).mono ?_
 obtain ⟨M, hM⟩ : ∃ M, M = staM v st tr := ⟨_, rfl⟩
 have HMM := Lib.hid hM
 have HSta : Hid (M = setlM st tr 42 (fstM v st) 40) := Lib.hid hM
 clear hM
 have HFs := Lib.hid hfs
 have HFc := Lib.hid hfc
 generalize fstM v st = m0 at *
 rintro e w1 ⟨vh, ve, vi, vo, rfl, hh, he, hi, ho, hb1⟩
 obtain ⟨a1, b1, rfl⟩ := Kd.R_slice hh
 obtain ⟨a2, b2, rfl⟩ := Kd.R_slice he
 obtain ⟨a3, b3, rfl⟩ := Kd.R_slice hi
 obtain ⟨a4, b4, rfl⟩ := Kd.R_slice ho
 have ha1 : Below w1.heap.size w1 (w1.alloc (.cells #[.int .u32 (m0.conf : Nat), .slice a1 m0.hist.length b1, .slice a2 m0.env.length b2, .slice a3 m0.inn.length b3, .int .i64 m0.stat] 46)) := (Below.refl _ w1).alloc (Nat.le_refl _) _
 have hk1 := blk_new w1 (.cells #[.int .u32 (m0.conf : Nat), .slice a1 m0.hist.length b1, .slice a2 m0.env.length b2, .slice a3 m0.inn.length b3, .int .i64 m0.stat] 46)
 have x0 := blk_cell hk1 0
 have x1 := blk_cell hk1 1
 have x2 := blk_cell hk1 2
 have x3 := blk_cell hk1 3
 have x4 := blk_cell hk1 4
 obtain ⟨w2, hw2⟩ : ∃ w2 : World, w2 = w1.alloc (.cells #[.int .u32 (m0.conf : Nat), .slice a1 m0.hist.length b1, .slice a2 m0.env.length b2, .slice a3 m0.inn.length b3, .int .i64 m0.stat] 46) := ⟨_, rfl⟩
 rw [← hw2] at ha1 x0 x1 x2 x3 x4
 have hb2 : Below w2.heap.size w2 (w2.alloc (ruO g m0.conf (.slice a1 m0.hist.length b1) (.slice a2 m0.env.length b2) (.slice a3 m0.inn.length b3) m0.stat (.slice a4 m0.out.length b4) 40)) := (Below.refl _ w2).alloc (Nat.le_refl _) _
 have hsz : w2.heap.size = w1.heap.size + 1 := by rw [hw2]; simp
 have hbb := below_then ha1 ha1.size hb2
 have hRu : RuR w0 w2.heap.size g (w2.alloc (ruO g m0.conf (.slice a1 m0.hist.length b1) (.slice a2 m0.env.length b2) (.slice a3 m0.inn.length b3) m0.stat (.slice a4 m0.out.length b4) 40)) m0 40 (.slice a1 m0.hist.length b1) (.slice a2 m0.env.length b2) (.slice a3 m0.inn.length b3) (.slice a4 m0.out.length b4) :=
  ⟨below_then hb1 hb1.size hbb, by have := hb1.size; omega, blk_new w2 _, Kd.R_below hh hbb, Kd.R_below he hbb, Kd.R_below hi hbb, Kd.R_below ho hbb, HFc.out⟩
 rw [hsz] at hRu
 have HRu := Lib.hid hRu
 have Hw2 := Lib.hid hw2
 have hsz2 : w2.heap.size = w1.heap.size + 1 := hsz
 clear hh he hi ho hb1 hbb hb2 ha1 hk1 hRu hw2 hsz hfs hfc
 go_wp2_with (rw [← Hw2.out])
 refine (msettle_any HT.out HW.out HGd.out.1 HGd.out.2 (HFs.out.mono (by decide) (by decide)) (fun _ => HFs.out.inn) (Nat.le_refl 40) ⟨_, _, _, _, HRu.out⟩).mono ?_
 rintro e w5 ⟨rfl, f', hRM⟩
 rw [← HSta.out] at hRM
 clear HRu Hw2 x0 x1 x2 x3 x4 hsz2
 generalize w1.heap.size + 1 = rb at hRM ⊢
 obtain ⟨vh, ve, vi, vo, hR⟩ := hRM
 have HR := Lib.hid hR
 obtain ⟨⟨_, z1, z2, z3, z4, z5, z6, _⟩, _⟩ := hR.cells
 obtain ⟨A1, k1, rfl⟩ := Kd.R_slice hR.hist
 obtain ⟨A2, k2, rfl⟩ := Kd.R_slice hR.env
 obtain ⟨A3, k3, rfl⟩ := Kd.R_slice hR.inn
 obtain ⟨A4, k4, rfl⟩ := Kd.R_slice hR.out
 have hZ5 := (hR.low.block _ (lt_of_block HZr.out)).trans HZr.out
 have HZ5 := Lib.hid hZ5
 obtain ⟨q0, q1, q2, q3, q4⟩ : w5.cell? ⟨w.heap.size, 0, none⟩ = some (.int .u32 0) ∧ w5.cell? ⟨w.heap.size, 1, none⟩ = some (.slice none 0 0) ∧ w5.cell? ⟨w.heap.size, 2, none⟩ = some (.slice none 0 0) ∧ w5.cell? ⟨w.heap.size, 3, none⟩ = some (.slice none 0 0) ∧ w5.cell? ⟨w.heap.size, 4, none⟩ = some (.int .i64 0) := ⟨blk_cell hZ5 0, blk_cell hZ5 1, blk_cell hZ5 2, blk_cell hZ5 3, blk_cell hZ5 4⟩
 obtain ⟨f0, f1, f2, f3, f4⟩ : w5.frozen? ⟨w.heap.size, 0, none⟩ = false ∧ w5.frozen? ⟨w.heap.size, 1, none⟩ = false ∧ w5.frozen? ⟨w.heap.size, 2, none⟩ = false ∧ w5.frozen? ⟨w.heap.size, 3, none⟩ = false ∧ w5.frozen? ⟨w.heap.size, 4, none⟩ = false := ⟨blk_free hZ5 0, blk_free hZ5 1, blk_free hZ5 2, blk_free hZ5 3, blk_free hZ5 4⟩
 have hnB : rb ≠ w.heap.size := fun e => by
  have h1 := hR.blk
  rw [e, hZ5] at h1
  exact absurd h1 (by simp)
 clear hR hZ5
 go_wp2_with fail
 refine start_ (n := 10) (S := fun w' => w'.cell? ⟨rb, 1, none⟩ = some (.int .u32 (M.conf : Nat)) ∧ w'.cell? ⟨rb, 2, none⟩ = some (.slice A1 M.hist.length k1) ∧ w'.cell? ⟨rb, 3, none⟩ = some (.slice A2 M.env.length k2) ∧ w'.cell? ⟨rb, 4, none⟩ = some (.slice A3 M.inn.length k3) ∧ w'.cell? ⟨rb, 5, none⟩ = some (.int .i64 M.stat) ∧ w'.cell? ⟨rb, 6, none⟩ = some (.slice A4 M.out.length k4)) (ds := []) (tf10 0) (by kernel_rfl) rfl (by kernel_rfl) ⟨z1, z2, z3, z4, z5, z6⟩ (fun hHeld => ?_)
 iterate 8
  refine nxt_ (v := ?_) (a' := ?_) rfl rfl (by kernel_rfl) (fun _ _ _ h => h) (Or.inl ⟨by rfl, ?_⟩) hHeld ?_ ?_
  rotate_left
  ·rintro w' ⟨s0, s1, s2, s3, s4, s5⟩
   go_simp
   first | done | with_reducible rfl
  rotate_left
  ·simp only [Act.put, List.setIfInBounds_toArray, List.set_cons_zero, List.set_cons_succ, i64_w, i32_w]
   first | done | rfl
 refine one_ (i := 8) (N := none) (tf10 9) rfl rfl (by kernel_rfl) (by decide) (fun K hK => ?_)
 refine skip_ (w1 := ?_) (by rfl) rfl ?_ ?_
 rotate_left
 ·go_simp
  rfl
 refine hK.out _ _ ⟨(far5d (w := w5) (a := ⟨rb, 1, none⟩) (b := w.heap.size) hnB _ _ _ _ _).trans z1, (far5d (w := w5) (a := ⟨rb, 2, none⟩) (b := w.heap.size) hnB _ _ _ _ _).trans z2, (far5d (w := w5) (a := ⟨rb, 3, none⟩) (b := w.heap.size) hnB _ _ _ _ _).trans z3, (far5d (w := w5) (a := ⟨rb, 4, none⟩) (b := w.heap.size) hnB _ _ _ _ _).trans z4, (far5d (w := w5) (a := ⟨rb, 5, none⟩) (b := w.heap.size) hnB _ _ _ _ _).trans z5, (far5d (w := w5) (a := ⟨rb, 6, none⟩) (b := w.heap.size) hnB _ _ _ _ _).trans z6⟩ (fun _ => ?_)
 clear hK K
 refine pxt_ (v := ?_) (a' := ?_) rfl rfl (by kernel_rfl) (fun _ _ _ h => h) (Or.inl ⟨by rfl, ?_⟩) ?_ ?_
 rotate_left
 ·intro w'
  go_simp
  first | done | with_reducible rfl
 rotate_left
 ·simp only [Act.put, List.setIfInBounds_toArray, List.set_cons_zero, List.set_cons_succ, i64_w, i32_w]
  first | done | rfl
 refine done_ (by kernel_rfl) ?_
 go_wp2_with fail
 have hB8 : Below w.heap.size w w5 := HLw.out.trans (HR.out.low.mono HLw.out.size)
 have hBz := HLw.out.size
 obtain ⟨W, hW⟩ : ∃ W : World, W = set5 w5 (w.heap.size) (.int .u32 (M.conf : Nat)) (.slice A1 M.hist.length k1) (.slice A2 M.env.length k2) (.slice A3 M.inn.length k3) (.int .i64 M.stat) := ⟨_, rfl⟩
 have hk := set5_blk HZ5.out (.int .u32 (M.conf : Nat)) (.slice A1 M.hist.length k1) (.slice A2 M.env.length k2) (.slice A3 M.inn.length k3) (.int .i64 M.stat)
 have hr1 := R_set5 (Kd.R_lower HR.out.hist hBz) HZ5.out (by decide) (.int .u32 (M.conf : Nat)) (.slice A1 M.hist.length k1) (.slice A2 M.env.length k2) (.slice A3 M.inn.length k3) (.int .i64 M.stat)
 have hr2 := R_set5 (Kd.R_lower HR.out.env hBz) HZ5.out (by decide) (.int .u32 (M.conf : Nat)) (.slice A1 M.hist.length k1) (.slice A2 M.env.length k2) (.slice A3 M.inn.length k3) (.int .i64 M.stat)
 have hr3 := R_set5 (Kd.R_lower HR.out.inn hBz) HZ5.out (by decide) (.int .u32 (M.conf : Nat)) (.slice A1 M.hist.length k1) (.slice A2 M.env.length k2) (.slice A3 M.inn.length k3) (.int .i64 M.stat)
 have hr4 := R_set5 (Kd.R_lower HR.out.out hBz) HZ5.out (out_q (by decide)) (.int .u32 (M.conf : Nat)) (.slice A1 M.hist.length k1) (.slice A2 M.env.length k2) (.slice A3 M.inn.length k3) (.int .i64 M.stat)
 have hbW := set5_below hB8 (b := w.heap.size) (by omega) (.int .u32 (M.conf : Nat)) (.slice A1 M.hist.length k1) (.slice A2 M.env.length k2) (.slice A3 M.inn.length k3) (.int .i64 M.stat)
 rw [← hW] at hk hr1 hr2 hr3 hr4 hbW
 unfold set5 at hW
 rw [← hW]
 clear hW q0 q1 q2 q3 q4 f0 f1 f2 f3 f4 z1 z2 z3 z4 z5 z6 hnB hB8 hBz
 refine bodyPost_ret (results_ct rfl _ _ (w.heap.size) 46 #[.int .u32 _, .slice _ _ _, .slice _ _ _, .slice _ _ _, .int .i64 _] (0, 0) _ rfl (drew_blk hk) Tryz.underlying46 rfl (by kernel_rfl)) rfl ?_
 rw [← HMM.out]
 exact ⟨_, _, _, _, rfl, Kd.R_drew hr1, Kd.R_drew hr2, Kd.R_drew hr3, Kd.R_drew hr4, below_drew hbW⟩
end
end Go.Proofs.YtikilglbhnplaaaGreatDoor
end
section
namespace Go.Proofs.YtikilglbhnplaaaGreatDoor
open Go.RowKit Go.Proofs.YtikilglbhnplaaaGreatDoorW.PrintWords Go.Proofs.YtikilglbhnplaaaGreatDoorW.PrintLast
open PX (T V)
theorem below_virt {w W : World} {o1 o2 : Obj} (hb : Below w.heap.size w W) (h1 : W.heap[w.heap.size]? = some o1) (h2 : W.heap[w.heap.size + 1]? = some o2) : Below ((w.alloc o1).alloc o2).heap.size ((w.alloc o1).alloc o2) W := by
 have hs : ((w.alloc o1).alloc o2).heap.size = w.heap.size + 1 + 1 := by simp
 have hl : (w.alloc o1).heap.size = w.heap.size + 1 := by simp
 have hlt := lt_of_block h2
 refine ⟨hb.os, hb.tape, hb.output, by omega, fun k hk => ?_⟩
 rw [hs] at hk
 by_cases e2 : k = w.heap.size + 1
 ·subst e2
  have h := blk_new (w.alloc o1) o2
  rw [hl] at h
  rw [h, h2]
 ·rw [Below.heap_alloc (w.alloc o1) o2 k (by omega)]
  by_cases e1 : k = w.heap.size
  ·subst e1
   rw [blk_new w o1, h1]
  ·rw [Below.heap_alloc w o1 k (by omega), hb.block k (by omega)]
section
variable {g : Nat} {v : Int} {st : List Sta} {tr : List Tra} {w : World}
theorem mtake_any (hw : LaidZ w) (hT : TrM w g v st tr) (good : chkP v st tr = .none) (few : fewP st tr = true) (m : Ses) (AH AE AI : Option Addr) (hc ec ic : Nat) (hH : (Kd.int .u32).C w AH m.hist.length m.hist) (hE : NumsC w AE m.env.length m.env) (hI : NumsC w AI m.inn.length m.inn)
  (h1 : m.hist.length ≤ hc) (h2 : m.env.length ≤ ec) (h3 : m.inn.length ≤ ic) (l1 : m.hist.length ≤ st.length) (l2 : m.env.length ≤ 1000) (l3 : m.inn.length ≤ 30000) (l4 : m.stat = 1 → m.inn.length ≤ 2000) (hcf : m.conf < 4294967296) (hok : HisOk m.hist) (ev : Int) :
  Calls Tryz.prog 31 #[.pointer (some ⟨g, 0, none⟩), .agg #[.int .u32 (m.conf : Nat), .slice AH m.hist.length hc, .slice AE m.env.length ec, .slice AI m.inn.length ic, .int .i64 m.stat], .int .i64 ev] w fun e w' => ∃ vh ve vi vo, e = .returned (.tuple #[.agg #[.int .u32 ((takM st tr m ev).conf : Nat), vh, ve, vi, .int .i64 (takM st tr m ev).stat], vo]) ∧ HisR w' w.heap.size vh (takM st tr m ev).hist ∧ EnvR w' w.heap.size ve (takM st tr m ev).env ∧ InnR w' w.heap.size vi (takM st tr m ev).inn ∧ OutR w' w.heap.size vo (takM st tr m ev).out ∧ Below w.heap.size w w' := by
 obtain ⟨⟨_, _, hn1, hn, hn2⟩, _⟩ := chk_none good
 obtain ⟨w1, hw1⟩ : ∃ w1 : World, w1 = (w.alloc (.cells #[.int .u32 (m.conf : Nat), .slice AH m.hist.length hc, .slice AE m.env.length ec, .slice AI m.inn.length ic, .int .i64 m.stat] 46)).alloc (.cells #[.int .u32 0, .slice none 0 0, .slice none 0 0, .slice none 0 0, .int .i64 0] 46) := ⟨_, rfl⟩
 have hs1 : w1.heap.size = w.heap.size + 1 + 1 := by rw [hw1]; simp
 have hb1 : Below w.heap.size w w1 := by rw [hw1]; exact ((Below.refl _ w).alloc (Nat.le_refl _) _).alloc (by simp) _
 have hz1 : w1.heap[w.heap.size]? = some (.cells #[.int .u32 (m.conf : Nat), .slice AH m.hist.length hc, .slice AE m.env.length ec, .slice AI m.inn.length ic, .int .i64 m.stat] 46 (0, 0)) := by rw [hw1]; exact blk_alloc _ (blk_new w _)
 have hy1 : w1.heap[w.heap.size + 1]? = some (.cells #[.int .u32 0, .slice none 0 0, .slice none 0 0, .slice none 0 0, .int .i64 0] 46 (0, 0)) := by
  rw [hw1]
  have h := blk_new (w.alloc (.cells #[.int .u32 (m.conf : Nat), .slice AH m.hist.length hc, .slice AE m.env.length ec, .slice AI m.inn.length ic, .int .i64 m.stat] 46)) (.cells #[.int .u32 0, .slice none 0 0, .slice none 0 0, .slice none 0 0, .int .i64 0] 46)
  rw [show (w.alloc (.cells #[.int .u32 (m.conf : Nat), .slice AH m.hist.length hc, .slice AE m.env.length ec, .slice AI m.inn.length ic, .int .i64 m.stat] 46)).heap.size = w.heap.size + 1 by simp] at h
  exact h
 have HB0 := Lib.hid hb1
 have HB1 := Lib.hid (below_drew hb1)
 have HZ1 : Hid (w1.drew.heap[w.heap.size]? = _) := Lib.hid hz1
 have HY1 : Hid (w1.drew.heap[w.heap.size + 1]? = _) := Lib.hid hy1
 have HHH := Lib.hid hH
 have HEE := Lib.hid hE
 have HII := Lib.hid hI
 have HLs := Lib.hid (And.intro h1 (And.intro h2 h3))
 have HT := Lib.hid hT
 have HW := Lib.hid hw
 have HGd := Lib.hid (And.intro good few)
 have HW1 := Lib.hid hw1
 have HS1 : Hid (w.heap.size + 2 ≤ w1.heap.size) := Lib.hid (by omega)
 obtain ⟨y0, y1, y2, y3, y4⟩ : w1.cell? ⟨w.heap.size, 0, none⟩ = some (.int .u32 (m.conf : Nat)) ∧ w1.cell? ⟨w.heap.size, 1, none⟩ = some (.slice AH m.hist.length hc) ∧ w1.cell? ⟨w.heap.size, 2, none⟩ = some (.slice AE m.env.length ec) ∧ w1.cell? ⟨w.heap.size, 3, none⟩ = some (.slice AI m.inn.length ic) ∧ w1.cell? ⟨w.heap.size, 4, none⟩ = some (.int .i64 m.stat) := ⟨blk_cell hz1 0, blk_cell hz1 1, blk_cell hz1 2, blk_cell hz1 3, blk_cell hz1 4⟩
 clear hb1 hz1 hy1 hH hE hI h1 h2 h3 hT hw hw1 hs1
 go_enter Tryz.func31, Tryz.ntmps31
 go_wp2_with fail
 rw [← HW1.out]
 refine start_ (n := 15) (S := fun w' => w'.cell? ⟨w.heap.size, 1, none⟩ = some (.slice AH m.hist.length hc) ∧ w'.cell? ⟨w.heap.size, 2, none⟩ = some (.slice AE m.env.length ec) ∧ w'.cell? ⟨w.heap.size, 3, none⟩ = some (.slice AI m.inn.length ic)) (ds := [10, 12, 14]) (tf15 0) (by kernel_rfl) rfl (by kernel_rfl) ⟨y1, y2, y3⟩ (fun hHeld => ?_)
 refine pxt_ (v := ?_) (a' := ?_) rfl rfl (by kernel_rfl) (fun _ _ _ h => h) (Or.inl ⟨by rfl, ?_⟩) ?_ ?_
 rotate_left
 ·intro w'
  go_simp
  first | done | with_reducible rfl
 rotate_left
 ·simp only [Act.put, List.setIfInBounds_toArray, List.set_cons_zero, List.set_cons_succ, i64_w, i32_w]
  first | done | rfl
 refine nxt_ (v := ?_) (a' := ?_) rfl rfl (by kernel_rfl) (fun _ _ _ h => h) (Or.inl ⟨by rfl, ?_⟩) hHeld ?_ ?_
 rotate_left
 ·rintro w' ⟨s0, s1, s2⟩
  go_simp
  first | done | with_reducible rfl
 rotate_left
 ·simp only [Act.put, List.setIfInBounds_toArray, List.set_cons_zero, List.set_cons_succ, i64_w, i32_w]
  first | done | rfl
 refine pure_ (i := 3) (N := some 12) (v := ?_) (a' := ?_) (bm15 11) rfl rfl (by kernel_rfl) (fun _ _ _ h => h) (Or.inl ⟨by rfl, ?_⟩) ?_ ?_
 rotate_left
 ·intro w'
  go_simp
  with_reducible rfl
 rotate_left
 ·simp only [Act.put, List.setIfInBounds_toArray, List.set_cons_zero, List.set_cons_succ, i64_w, i32_w]
  rfl
 refine take_ (i := 4) (N := some 13) (v := ?_) (a' := ?_) (bm15 27) rfl rfl (by kernel_rfl) (fun _ _ _ h => h) (Or.inl ⟨by rfl, ?_⟩) hHeld ?_ ?_
 rotate_left
 ·rintro w' ⟨s0, s1, s2⟩
  go_simp
  with_reducible rfl
 rotate_left
 ·simp only [Act.put, List.setIfInBounds_toArray, List.set_cons_zero, List.set_cons_succ, i64_w, i32_w]
  rfl
 refine pure_ (i := 6) (N := some 15) (v := ?_) (a' := ?_) (bm15 91) rfl rfl (by kernel_rfl) (fun _ _ _ h => h) (Or.inl ⟨by rfl, ?_⟩) ?_ ?_
 rotate_left
 ·intro w'
  go_simp
  with_reducible rfl
 rotate_left
 ·simp only [Act.put, List.setIfInBounds_toArray, List.set_cons_zero, List.set_cons_succ, i64_w, i32_w]
  rfl
 refine take_ (i := 7) (N := some 16) (v := ?_) (a' := ?_) (bm15 219) rfl rfl (by kernel_rfl) (fun _ _ _ h => h) (Or.inl ⟨by rfl, ?_⟩) hHeld ?_ ?_
 rotate_left
 ·rintro w' ⟨s0, s1, s2⟩
  go_simp
  with_reducible rfl
 rotate_left
 ·simp only [Act.put, List.setIfInBounds_toArray, List.set_cons_zero, List.set_cons_succ, i64_w, i32_w]
  rfl
 refine one_ (i := 2) (N := some 11) (bm15 223) rfl rfl (by kernel_rfl) (by decide) (fun K hK => ?_)
 refine goes_ Tryz.func73 (by kernel_rfl) rfl #[.slice AH m.hist.length hc] (by rfl) rfl rfl (by first | rfl | (go_simp; done) | (go_simp; exact ⟨rfl, rfl⟩) | (go_simp; rfl)) ?_
 refine (clone32 AH hc m.hist.length m.hist rfl _ HLs.out.1 (Kd.C_below HHH.out HB1.out) (by omega)).mono ?_
 rintro e w2 ⟨u, rfl, hu, hb2⟩
 obtain ⟨pA, pc, rfl⟩ := Kd.R_slice hu
 have HX2 := Lib.hid hu
 have HB2 := Lib.hid (below_then HB1.out HB1.out.size hb2)
 have HZ2 := Lib.hid ((hb2.block _ (lt_of_block HZ1.out)).trans HZ1.out)
 have HY2 := Lib.hid ((hb2.block _ (lt_of_block HY1.out)).trans HY1.out)
 have HP2 := Lib.hid hb2
 refine ⟨_, rfl, hK.out _ _ ⟨blk_cell HZ2.out 1, blk_cell HZ2.out 2, blk_cell HZ2.out 3⟩ (fun hS2 => ?_)⟩
 clear hK K hu hb2
 refine pure_ (i := 9) (N := some 18) (v := ?_) (a' := ?_) (bm15 735) rfl rfl (by kernel_rfl) (fun _ _ _ h => h) (Or.inl ⟨by rfl, ?_⟩) ?_ ?_
 rotate_left
 ·intro w'
  go_simp
  with_reducible rfl
 rotate_left
 ·simp only [Act.put, List.setIfInBounds_toArray, List.set_cons_zero, List.set_cons_succ, i64_w, i32_w]
  rfl
 refine one_ (i := 5) (N := some 14) (bm15 767) rfl rfl (by kernel_rfl) (by decide) (fun K hK => ?_)
 refine goes_ Tryz.func74 (by kernel_rfl) rfl #[.slice AE m.env.length ec] (by rfl) rfl rfl (by first | rfl | (go_simp; done) | (go_simp; exact ⟨rfl, rfl⟩) | (go_simp; rfl)) ?_
 refine (clone_any AE ec m.env _ HLs.out.2.1 (Kd.C_below HEE.out HB2.out) (by omega)).mono ?_
 rintro e w3 ⟨u, rfl, hu, hb3⟩
 obtain ⟨qA, qc, rfl⟩ := Kd.R_slice hu
 have HX3 := Lib.hid hu
 have HB3 := Lib.hid (below_then HB2.out HB2.out.size hb3)
 have HZ3 := Lib.hid ((hb3.block _ (lt_of_block HZ2.out)).trans HZ2.out)
 have HY3 := Lib.hid ((hb3.block _ (lt_of_block HY2.out)).trans HY2.out)
 have HP3 := Lib.hid hb3
 refine ⟨_, rfl, hK.out _ _ ⟨blk_cell HZ3.out 1, blk_cell HZ3.out 2, blk_cell HZ3.out 3⟩ (fun hS3 => ?_)⟩
 clear hK K hu hb3
 refine one_ (i := 8) (N := some 17) (tf15 10) rfl rfl (by kernel_rfl) (by decide) (fun K hK => ?_)
 refine goes_ Tryz.func75 (by kernel_rfl) rfl #[.slice AI m.inn.length ic] (by rfl) rfl rfl (by first | rfl | (go_simp; done) | (go_simp; exact ⟨rfl, rfl⟩) | (go_simp; rfl)) ?_
 refine (cloneIn AI ic m.inn.length m.inn rfl _ HLs.out.2.2 (Kd.C_below HII.out HB3.out) (by omega)).mono ?_
 rintro e w4 ⟨u, rfl, hu, hb4⟩
 obtain ⟨rA, rc, rfl⟩ := Kd.R_slice hu
 have HX4 := Lib.hid hu
 have HB4 := Lib.hid (below_then HB3.out HB3.out.size hb4)
 have HZ4 := Lib.hid ((hb4.block _ (lt_of_block HZ3.out)).trans HZ3.out)
 have HY4 := Lib.hid ((hb4.block _ (lt_of_block HY3.out)).trans HY3.out)
 have HP4 := Lib.hid hb4
 refine ⟨_, rfl, hK.out _ _ ⟨blk_cell HZ4.out 1, blk_cell HZ4.out 2, blk_cell HZ4.out 3⟩ (fun hS4 => ?_)⟩
 obtain ⟨c1, c2, c3⟩ : w4.cell? ⟨w.heap.size, 1, none⟩ = some (.slice AH m.hist.length hc) ∧ w4.cell? ⟨w.heap.size, 2, none⟩ = some (.slice AE m.env.length ec) ∧ w4.cell? ⟨w.heap.size, 3, none⟩ = some (.slice AI m.inn.length ic) := ⟨blk_cell HZ4.out 1, blk_cell HZ4.out 2, blk_cell HZ4.out 3⟩
 obtain ⟨f1, f2, f3⟩ : w4.frozen? ⟨w.heap.size, 1, none⟩ = false ∧ w4.frozen? ⟨w.heap.size, 2, none⟩ = false ∧ w4.frozen? ⟨w.heap.size, 3, none⟩ = false := ⟨blk_free HZ4.out 1, blk_free HZ4.out 2, blk_free HZ4.out 3⟩
 clear hK K hu hb4
 refine last_ (i := 10) (N := none) (tf15 11) rfl rfl (by kernel_rfl) (by decide) (fun K hK => ?_)
 refine skip_ (w1 := ?_) (by rfl) rfl ?_ ?_
 rotate_left
 ·go_simp
  rfl
 refine hK.out _ _ ?_
 clear hK K
 refine pxt_ (v := ?_) (a' := ?_) rfl rfl (by kernel_rfl) (fun _ _ _ h => h) (Or.inl ⟨by rfl, ?_⟩) ?_ ?_
 rotate_left
 ·intro w'
  go_simp
  first | done | with_reducible rfl
 rotate_left
 ·simp only [Act.put, List.setIfInBounds_toArray, List.set_cons_zero, List.set_cons_succ, i64_w, i32_w]
  first | done | rfl
 refine last_ (i := 12) (N := none) (tf15 13) rfl rfl (by kernel_rfl) (by decide) (fun K hK => ?_)
 refine skip_ (w1 := ?_) (by rfl) rfl ?_ ?_
 rotate_left
 ·go_simp
  rfl
 refine hK.out _ _ ?_
 clear hK K
 refine pxt_ (v := ?_) (a' := ?_) rfl rfl (by kernel_rfl) (fun _ _ _ h => h) (Or.inl ⟨by rfl, ?_⟩) ?_ ?_
 rotate_left
 ·intro w'
  go_simp
  first | done | with_reducible rfl
 rotate_left
 ·simp only [Act.put, List.setIfInBounds_toArray, List.set_cons_zero, List.set_cons_succ, i64_w, i32_w]
  first | done | rfl
 refine last_ (i := 14) (N := none) (tf15 15) rfl rfl (by kernel_rfl) (by decide) (fun K hK => ?_)
 refine skip_ (w1 := ?_) (by rfl) rfl ?_ ?_
 rotate_left
 ·go_simp
  rfl
 refine hK.out _ _ ?_
 clear hK K
 refine done_ (by kernel_rfl) ?_
 obtain ⟨Wc, hWc⟩ : ∃ Wc : World, Wc = ((w4.setCell ⟨w.heap.size, 1, none⟩ (.slice pA m.hist.length pc)).setCell ⟨w.heap.size, 2, none⟩ (.slice qA m.env.length qc)).setCell ⟨w.heap.size, 3, none⟩ (.slice rA m.inn.length rc) := ⟨_, rfl⟩
 have hbz := HS1.out
 have hk : Wc.heap[w.heap.size]? = some (.cells #[.int .u32 (m.conf : Nat), .slice pA m.hist.length pc, .slice qA m.env.length qc, .slice rA m.inn.length rc, .int .i64 m.stat] 46 (0, 0)) := by rw [hWc]; exact blk_set (blk_set (blk_set HZ4.out 1 _) 2 _) 3 _
 have hy : Wc.heap[w.heap.size + 1]? = some (.cells #[.int .u32 0, .slice none 0 0, .slice none 0 0, .slice none 0 0, .int .i64 0] 46 (0, 0)) := by
  rw [hWc]
  exact blk_far (blk_far (blk_far HY4.out (p := ⟨w.heap.size, 1, none⟩) (by show w.heap.size + 1 ≠ w.heap.size; omega) _) (p := ⟨w.heap.size, 2, none⟩) (by show w.heap.size + 1 ≠ w.heap.size; omega) _) (p := ⟨w.heap.size, 3, none⟩) (by show w.heap.size + 1 ≠ w.heap.size; omega) _
 have hbc : Below w.heap.size w Wc := by
  rw [hWc]
  exact ((HB4.out.setCell (p := ⟨w.heap.size, 1, none⟩) (Nat.le_refl _) _).setCell (p := ⟨w.heap.size, 2, none⟩) (Nat.le_refl _) _).setCell (p := ⟨w.heap.size, 3, none⟩) (Nat.le_refl _) _
 have hs2 : w.heap.size + 2 ≤ w2.heap.size := Nat.le_trans hbz HP2.out.size
 have hs3 : w.heap.size + 2 ≤ w3.heap.size := Nat.le_trans hs2 HP3.out.size
 have hr1 : HisR Wc (w.heap.size + 2) (.slice pA m.hist.length pc) m.hist := by
  rw [hWc]
  exact Kd.R_set (Kd.R_set (Kd.R_set (Kd.R_lower (Kd.R_below (Kd.R_below HX2.out HP3.out) HP4.out) hbz) HZ4.out (by decide) 1 _) (blk_set HZ4.out 1 _) (by decide) 2 _) (blk_set (blk_set HZ4.out 1 _) 2 _) (by decide) 3 _
 have hr2 : EnvR Wc (w.heap.size + 2) (.slice qA m.env.length qc) m.env := by
  rw [hWc]
  exact Kd.R_set (Kd.R_set (Kd.R_set (Kd.R_lower (Kd.R_below HX3.out HP4.out) hs2) HZ4.out (by decide) 1 _) (blk_set HZ4.out 1 _) (by decide) 2 _) (blk_set (blk_set HZ4.out 1 _) 2 _) (by decide) 3 _
 have hr3 : InnR Wc (w.heap.size + 2) (.slice rA m.inn.length rc) m.inn := by
  rw [hWc]
  exact Kd.R_set (Kd.R_set (Kd.R_set (Kd.R_lower HX4.out hs3) HZ4.out (by decide) 1 _) (blk_set HZ4.out 1 _) (by decide) 2 _) (blk_set (blk_set HZ4.out 1 _) 2 _) (by decide) 3 _
 rw [← hWc]
 have HK := Lib.hid hk
 have HY := Lib.hid hy
 have HBc := Lib.hid hbc
 have HRows := Lib.hid (And.intro hr1 (And.intro hr2 hr3))
 obtain ⟨x0, x1, x2, x3, x4⟩ : Wc.cell? ⟨w.heap.size, 0, none⟩ = some (.int .u32 (m.conf : Nat)) ∧ Wc.cell? ⟨w.heap.size, 1, none⟩ = some (.slice pA m.hist.length pc) ∧ Wc.cell? ⟨w.heap.size, 2, none⟩ = some (.slice qA m.env.length qc) ∧ Wc.cell? ⟨w.heap.size, 3, none⟩ = some (.slice rA m.inn.length rc) ∧ Wc.cell? ⟨w.heap.size, 4, none⟩ = some (.int .i64 m.stat) := ⟨blk_cell hk 0, blk_cell hk 1, blk_cell hk 2, blk_cell hk 3, blk_cell hk 4⟩
 obtain ⟨M, hM⟩ : ∃ M, M = takM st tr m ev := ⟨_, rfl⟩
 have HMM := Lib.hid hM
 clear hWc hbz hk hy hbc hs2 hs3 hr1 hr2 hr3 c1 c2 c3 f1 f2 f3 y0 y1 y2 y3 y4 HX2 HX3 HX4 HP2 HP3 HP4 HB2 HB3 HB4 HZ1 HZ2 HZ3 HZ4 HY1 HY2 HY3 HY4 HW1
 by_cases hs : m.stat = 1
 ·have d1 : (m.stat != 1) = false := by rw [hs]; rfl
  have hM2 : M = setlM st tr 42 (rndM st tr { m with out := [] } 40 ev).1 (rndM st tr { m with out := [] } 40 ev).2.1 := by rw [hM]; unfold takM; rw [if_neg (not_not_intro hs)]
  have HM2 := Lib.hid hM2
  have HSt := Lib.hid hs
  clear hM hM2 hs
  obtain ⟨w0, hw0⟩ : ∃ w0 : World, w0 = (w.alloc (.cells #[.int .u32 (m.conf : Nat), .slice pA m.hist.length pc, .slice qA m.env.length qc, .slice rA m.inn.length rc, .int .i64 m.stat] 46)).alloc (.cells #[.int .u32 0, .slice none 0 0, .slice none 0 0, .slice none 0 0, .int .i64 0] 46) := ⟨_, rfl⟩
  have hs0 : w0.heap.size = w.heap.size + 2 := by rw [hw0]; simp
  have hb0 : Below w.heap.size w w0 := by rw [hw0]; exact ((Below.refl _ w).alloc (Nat.le_refl _) _).alloc (by simp) _
  have hv : Below w0.heap.size w0 Wc := by rw [hw0]; exact below_virt HBc.out HK.out HY.out
  have hz0 : w0.heap[w.heap.size + 1]? = some (.cells #[.int .u32 0, .slice none 0 0, .slice none 0 0, .slice none 0 0, .int .i64 0] 46 (0, 0)) := by
   rw [← hv.block _ (by omega)]; exact HY.out
  have HLw := Lib.hid hb0
  have HZr := Lib.hid hz0
  have HT0 := Lib.hid (HT.out.below hb0)
  have HW0 := Lib.hid (HW.out.below hb0)
  have hb2 : Below Wc.heap.size Wc (Wc.alloc (ruO g m.conf (.slice pA m.hist.length pc) (.slice qA m.env.length qc) (.slice rA m.inn.length rc) m.stat (.slice none 0 0) 40)) := (Below.refl _ Wc).alloc (Nat.le_refl _) _
  have hr := HRows.out
  rw [← hs0] at hr
  have hRu : RuR w0 Wc.heap.size g (Wc.alloc (ruO g m.conf (.slice pA m.hist.length pc) (.slice qA m.env.length qc) (.slice rA m.inn.length rc) m.stat (.slice none 0 0) 40)) { m with out := [] } 40 (.slice pA m.hist.length pc) (.slice qA m.env.length qc) (.slice rA m.inn.length rc) (.slice none 0 0) :=
   ⟨below_then hv hv.size hb2, hv.size, blk_new Wc _, Kd.R_below hr.1 hb2, Kd.R_below hr.2.1 hb2, Kd.R_below hr.2.2 hb2, Kd.R_nil _ _ _ _ _, hcf⟩
  have HRu := Lib.hid hRu
  clear hw0 hs0 hb0 hv hz0 hb2 hr hRu
  go_wp2_with fail
  have hI0 : RnI st { m with out := [] } 2000 0 := ⟨l4 HSt.out, Nat.le_refl _, l2, hok, l1⟩
  have HSz := Lib.hid (rnd_size HGd.out.1 HGd.out.2 (m := { m with out := [] }) hcf hI0 40 ev)
  have HFu := Lib.hid (rnd_fuel (st := st) (tr := tr) (m := { m with out := [] }) 40 ev)
  refine (mround_any HT0.out HW0.out HGd.out.1 HGd.out.2 0 (by decide) hI0 (Nat.le_refl 40) ⟨_, _, _, _, HRu.out⟩ ev).mono ?_
  rintro e w3 ⟨rfl, h3⟩
  have H3 := Lib.hid h3
  clear h3 hI0 x0 x1 x2 x3 x4 HRu
  generalize Wc.heap.size = rb at *
  generalize rndM st tr { m with out := [] } 40 ev = R at *
  go_wp2_with fail
  refine (msettle_any HT0.out HW0.out HGd.out.1 HGd.out.2 (HSz.out.1.mono (Nat.le_refl _) (by decide)) (fun h => Nat.le_trans (HSz.out.2 h) (by decide)) (by rw [HFu.out.1]; decide) H3.out).mono ?_
  rintro e w5 ⟨rfl, f', hRM⟩
  rw [← HM2.out] at hRM
  obtain ⟨vh, ve, vi, vo, hR⟩ := hRM
  have HR := Lib.hid hR
  obtain ⟨⟨_, z1, z2, z3, z4, z5, z6, _⟩, _⟩ := hR.cells
  obtain ⟨A1, k1, rfl⟩ := Kd.R_slice hR.hist
  obtain ⟨A2, k2, rfl⟩ := Kd.R_slice hR.env
  obtain ⟨A3, k3, rfl⟩ := Kd.R_slice hR.inn
  obtain ⟨A4, k4, rfl⟩ := Kd.R_slice hR.out
  have hZ5 := (hR.low.block _ (lt_of_block HZr.out)).trans HZr.out
  have HZ5 := Lib.hid hZ5
  obtain ⟨q0, q1, q2, q3, q4⟩ : w5.cell? ⟨w.heap.size + 1, 0, none⟩ = some (.int .u32 0) ∧ w5.cell? ⟨w.heap.size + 1, 1, none⟩ = some (.slice none 0 0) ∧ w5.cell? ⟨w.heap.size + 1, 2, none⟩ = some (.slice none 0 0) ∧ w5.cell? ⟨w.heap.size + 1, 3, none⟩ = some (.slice none 0 0) ∧ w5.cell? ⟨w.heap.size + 1, 4, none⟩ = some (.int .i64 0) := ⟨blk_cell hZ5 0, blk_cell hZ5 1, blk_cell hZ5 2, blk_cell hZ5 3, blk_cell hZ5 4⟩
  obtain ⟨f0, f1, f2, f3, f4⟩ : w5.frozen? ⟨w.heap.size + 1, 0, none⟩ = false ∧ w5.frozen? ⟨w.heap.size + 1, 1, none⟩ = false ∧ w5.frozen? ⟨w.heap.size + 1, 2, none⟩ = false ∧ w5.frozen? ⟨w.heap.size + 1, 3, none⟩ = false ∧ w5.frozen? ⟨w.heap.size + 1, 4, none⟩ = false := ⟨blk_free hZ5 0, blk_free hZ5 1, blk_free hZ5 2, blk_free hZ5 3, blk_free hZ5 4⟩
  have hnB : rb ≠ w.heap.size + 1 := fun e => by
   have h1 := hR.blk
   rw [e, hZ5] at h1
   exact absurd h1 (by simp)
  clear hR hZ5
  go_wp2_with fail
  refine start_ (n := 10) (S := fun w' => w'.cell? ⟨rb, 1, none⟩ = some (.int .u32 (M.conf : Nat)) ∧ w'.cell? ⟨rb, 2, none⟩ = some (.slice A1 M.hist.length k1) ∧ w'.cell? ⟨rb, 3, none⟩ = some (.slice A2 M.env.length k2) ∧ w'.cell? ⟨rb, 4, none⟩ = some (.slice A3 M.inn.length k3) ∧ w'.cell? ⟨rb, 5, none⟩ = some (.int .i64 M.stat) ∧ w'.cell? ⟨rb, 6, none⟩ = some (.slice A4 M.out.length k4)) (ds := []) (tf10 0) (by kernel_rfl) rfl (by kernel_rfl) ⟨z1, z2, z3, z4, z5, z6⟩ (fun hHeld => ?_)
  iterate 8
   refine nxt_ (v := ?_) (a' := ?_) rfl rfl (by kernel_rfl) (fun _ _ _ h => h) (Or.inl ⟨by rfl, ?_⟩) hHeld ?_ ?_
   rotate_left
   ·rintro w' ⟨s0, s1, s2, s3, s4, s5⟩
    go_simp
    first | done | with_reducible rfl
   rotate_left
   ·simp only [Act.put, List.setIfInBounds_toArray, List.set_cons_zero, List.set_cons_succ, i64_w, i32_w]
    first | done | rfl
  refine one_ (i := 8) (N := none) (tf10 9) rfl rfl (by kernel_rfl) (by decide) (fun K hK => ?_)
  refine skip_ (w1 := ?_) (by rfl) rfl ?_ ?_
  rotate_left
  ·go_simp
   rfl
  refine hK.out _ _ ⟨(far5d (w := w5) (a := ⟨rb, 1, none⟩) (b := w.heap.size + 1) hnB _ _ _ _ _).trans z1, (far5d (w := w5) (a := ⟨rb, 2, none⟩) (b := w.heap.size + 1) hnB _ _ _ _ _).trans z2, (far5d (w := w5) (a := ⟨rb, 3, none⟩) (b := w.heap.size + 1) hnB _ _ _ _ _).trans z3, (far5d (w := w5) (a := ⟨rb, 4, none⟩) (b := w.heap.size + 1) hnB _ _ _ _ _).trans z4, (far5d (w := w5) (a := ⟨rb, 5, none⟩) (b := w.heap.size + 1) hnB _ _ _ _ _).trans z5, (far5d (w := w5) (a := ⟨rb, 6, none⟩) (b := w.heap.size + 1) hnB _ _ _ _ _).trans z6⟩ (fun _ => ?_)
  clear hK K
  refine pxt_ (v := ?_) (a' := ?_) rfl rfl (by kernel_rfl) (fun _ _ _ h => h) (Or.inl ⟨by rfl, ?_⟩) ?_ ?_
  rotate_left
  ·intro w'
   go_simp
   first | done | with_reducible rfl
  rotate_left
  ·simp only [Act.put, List.setIfInBounds_toArray, List.set_cons_zero, List.set_cons_succ, i64_w, i32_w]
   first | done | rfl
  refine done_ (by kernel_rfl) ?_
  go_wp2_with fail
  have hB8 : Below w.heap.size w w5 := HLw.out.trans (HR.out.low.mono HLw.out.size)
  have hBz := HLw.out.size
  obtain ⟨W, hW⟩ : ∃ W : World, W = set5 w5 (w.heap.size + 1) (.int .u32 (M.conf : Nat)) (.slice A1 M.hist.length k1) (.slice A2 M.env.length k2) (.slice A3 M.inn.length k3) (.int .i64 M.stat) := ⟨_, rfl⟩
  have hk := set5_blk HZ5.out (.int .u32 (M.conf : Nat)) (.slice A1 M.hist.length k1) (.slice A2 M.env.length k2) (.slice A3 M.inn.length k3) (.int .i64 M.stat)
  have hr1 := R_set5 (Kd.R_lower HR.out.hist hBz) HZ5.out (by decide) (.int .u32 (M.conf : Nat)) (.slice A1 M.hist.length k1) (.slice A2 M.env.length k2) (.slice A3 M.inn.length k3) (.int .i64 M.stat)
  have hr2 := R_set5 (Kd.R_lower HR.out.env hBz) HZ5.out (by decide) (.int .u32 (M.conf : Nat)) (.slice A1 M.hist.length k1) (.slice A2 M.env.length k2) (.slice A3 M.inn.length k3) (.int .i64 M.stat)
  have hr3 := R_set5 (Kd.R_lower HR.out.inn hBz) HZ5.out (by decide) (.int .u32 (M.conf : Nat)) (.slice A1 M.hist.length k1) (.slice A2 M.env.length k2) (.slice A3 M.inn.length k3) (.int .i64 M.stat)
  have hr4 := R_set5 (Kd.R_lower HR.out.out hBz) HZ5.out (out_q (by decide)) (.int .u32 (M.conf : Nat)) (.slice A1 M.hist.length k1) (.slice A2 M.env.length k2) (.slice A3 M.inn.length k3) (.int .i64 M.stat)
  have hbW := set5_below hB8 (b := w.heap.size + 1) (by omega) (.int .u32 (M.conf : Nat)) (.slice A1 M.hist.length k1) (.slice A2 M.env.length k2) (.slice A3 M.inn.length k3) (.int .i64 M.stat)
  rw [← hW] at hk hr1 hr2 hr3 hr4 hbW
  unfold set5 at hW
  rw [← hW]
  clear hW q0 q1 q2 q3 q4 f0 f1 f2 f3 f4 z1 z2 z3 z4 z5 z6 hnB hB8 hBz
  refine bodyPost_ret (results_ct rfl _ _ (w.heap.size + 1) 46 #[.int .u32 _, .slice _ _ _, .slice _ _ _, .slice _ _ _, .int .i64 _] (0, 0) _ rfl (drew_blk hk) Tryz.underlying46 rfl (by kernel_rfl)) rfl ?_
  rw [← HMM.out]
  exact ⟨_, _, _, _, rfl, Kd.R_drew hr1, Kd.R_drew hr2, Kd.R_drew hr3, Kd.R_drew hr4, below_drew hbW⟩
 ·have d1 : (m.stat != 1) = true := by rw [bne_iff_ne]; exact hs
  have hM2 : M = { m with out := [] } := by rw [hM]; unfold takM; rw [if_pos hs]
  have hy := HY.out
  obtain ⟨q0, q1, q2, q3, q4⟩ : Wc.cell? ⟨w.heap.size + 1, 0, none⟩ = some (.int .u32 0) ∧ Wc.cell? ⟨w.heap.size + 1, 1, none⟩ = some (.slice none 0 0) ∧ Wc.cell? ⟨w.heap.size + 1, 2, none⟩ = some (.slice none 0 0) ∧ Wc.cell? ⟨w.heap.size + 1, 3, none⟩ = some (.slice none 0 0) ∧ Wc.cell? ⟨w.heap.size + 1, 4, none⟩ = some (.int .i64 0) := ⟨blk_cell hy 0, blk_cell hy 1, blk_cell hy 2, blk_cell hy 3, blk_cell hy 4⟩
  obtain ⟨f0, f1, f2, f3, f4⟩ : Wc.frozen? ⟨w.heap.size + 1, 0, none⟩ = false ∧ Wc.frozen? ⟨w.heap.size + 1, 1, none⟩ = false ∧ Wc.frozen? ⟨w.heap.size + 1, 2, none⟩ = false ∧ Wc.frozen? ⟨w.heap.size + 1, 3, none⟩ = false ∧ Wc.frozen? ⟨w.heap.size + 1, 4, none⟩ = false := ⟨blk_free hy 0, blk_free hy 1, blk_free hy 2, blk_free hy 3, blk_free hy 4⟩
  have HM2 := Lib.hid hM2
  clear hM hM2 hs hy
  go_wp2_with fail
  have hbz : w.heap.size ≤ w.heap.size + 2 := by omega
  obtain ⟨W, hW⟩ : ∃ W : World, W = set5 Wc (w.heap.size + 1) (.int .u32 (m.conf : Nat)) (.slice pA m.hist.length pc) (.slice qA m.env.length qc) (.slice rA m.inn.length rc) (.int .i64 m.stat) := ⟨_, rfl⟩
  have hk := set5_blk HY.out (.int .u32 (m.conf : Nat)) (.slice pA m.hist.length pc) (.slice qA m.env.length qc) (.slice rA m.inn.length rc) (.int .i64 m.stat)
  have hr1 := R_set5 (Kd.R_lower HRows.out.1 hbz) HY.out (by decide) (.int .u32 (m.conf : Nat)) (.slice pA m.hist.length pc) (.slice qA m.env.length qc) (.slice rA m.inn.length rc) (.int .i64 m.stat)
  have hr2 := R_set5 (Kd.R_lower HRows.out.2.1 hbz) HY.out (by decide) (.int .u32 (m.conf : Nat)) (.slice pA m.hist.length pc) (.slice qA m.env.length qc) (.slice rA m.inn.length rc) (.int .i64 m.stat)
  have hr3 := R_set5 (Kd.R_lower HRows.out.2.2 hbz) HY.out (by decide) (.int .u32 (m.conf : Nat)) (.slice pA m.hist.length pc) (.slice qA m.env.length qc) (.slice rA m.inn.length rc) (.int .i64 m.stat)
  have hbW := set5_below HBc.out (b := w.heap.size + 1) (by omega) (.int .u32 (m.conf : Nat)) (.slice pA m.hist.length pc) (.slice qA m.env.length qc) (.slice rA m.inn.length rc) (.int .i64 m.stat)
  rw [← hW] at hk hr1 hr2 hr3 hbW
  unfold set5 at hW
  rw [← hW]
  clear hW q0 q1 q2 q3 q4 f0 f1 f2 f3 f4 x0 x1 x2 x3 x4
  refine bodyPost_ret (results_ct rfl _ _ (w.heap.size + 1) 46 #[.int .u32 _, .slice _ _ _, .slice _ _ _, .slice _ _ _, .int .i64 _] (0, 0) _ rfl hk Tryz.underlying46 rfl (by kernel_rfl)) rfl ?_
  rw [← HMM.out, HM2.out]
  exact ⟨_, _, _, _, rfl, hr1, hr2, hr3, Kd.R_nil _ _ _ _ _, hbW⟩
end
end Go.Proofs.YtikilglbhnplaaaGreatDoor
end
section
namespace Go.Proofs.YtikilglbhnplaaaGreatDoor
open Go.RowKit Go.Proofs.YtikilglbhnplaaaGreatDoorW.PrintWords
theorem nums_l0 (l : List Int) (hl : l.length ≤ 1000000) (d : Nat) : ∀ a : Nat, a ≤ l.length → l.length - a = d → Ev (fun k => PAll.spinetref10_Nums.l0 k l l a) true := by
 induction d with
 | zero =>
  intro a ha hd
  obtain rfl : a = l.length := by omega
  refine Ev.step (fun k => rfl) ?_
  simp only [PAll.spinetref10_Nums.l0]
  exact ev_neg (by omega) (Ev.now _)
 | succ d ih =>
  intro a ha hd
  refine Ev.step (fun k => rfl) ?_
  simp only [PAll.spinetref10_Nums.l0]
  refine ev_pos (by omega) (ev_pos (by omega) (ev_pos (by omega) (ev_pos (by first | rfl | trivial) ?_)))
  rw [w64 (by omega) (by omega)]
  exact ih (a + 1) (by omega) (by omega)
theorem nums_f (l : List Int) (hl : l.length ≤ 1000000) : ∃ k, PAll.spinetref10_Nums.f k l l = some true := by
 have h := nums_l0 l hl l.length 0 (by omega) (by omega)
 have : Ev (fun k => PAll.spinetref10_Nums.f k l l) true := by
  unfold PAll.spinetref10_Nums.f
  exact ev_pos rfl h
 exact Ev.rounds this
theorem nums_any (A B : Option Addr) (c d : Nat) (l : List Int) (hl : l.length ≤ 1000000) (w : World) (h1 : NumsC w A l.length l) (hc : l.length ≤ c) (h2 : NumsC w B l.length l) (hd : l.length ≤ d) :
  Calls Tryz.prog 70 #[.slice A l.length c, .slice B l.length d] w fun e w' => e = .returned (.bool true) ∧ Below w.heap.size w w' := by
 obtain ⟨k, h⟩ := nums_f l hl
 refine (PAll.spinetref10_Nums.calls k A c l B d l true w h1 hc h2 hd h).mono ?_
 rintro e w' ⟨rfl, hw⟩
 exact ⟨rfl, hw.below⟩
theorem ints_l0 (l : List Int) (hl : l.length ≤ 1000000) (d : Nat) : ∀ a : Nat, a ≤ l.length → l.length - a = d → Ev (fun k => PAll.spinetref05_Ints.l0 k l l a) true := by
 induction d with
 | zero =>
  intro a ha hd
  obtain rfl : a = l.length := by omega
  refine Ev.step (fun k => rfl) ?_
  simp only [PAll.spinetref05_Ints.l0]
  exact ev_neg (by omega) (Ev.now _)
 | succ d ih =>
  intro a ha hd
  refine Ev.step (fun k => rfl) ?_
  simp only [PAll.spinetref05_Ints.l0]
  refine ev_pos (by omega) (ev_pos (by omega) (ev_pos (by omega) (ev_pos (by first | rfl | trivial) ?_)))
  rw [w64 (by omega) (by omega)]
  exact ih (a + 1) (by omega) (by omega)
theorem ints_f (l : List Int) (hl : l.length ≤ 1000000) : ∃ k, PAll.spinetref05_Ints.f k l l = some true := by
 have h := ints_l0 l hl l.length 0 (by omega) (by omega)
 have : Ev (fun k => PAll.spinetref05_Ints.f k l l) true := by
  unfold PAll.spinetref05_Ints.f
  exact ev_pos rfl h
 exact Ev.rounds this
theorem ints_any (A B : Option Addr) (c d : Nat) (l : List Int) (hl : l.length ≤ 1000000) (w : World) (h1 : Kd.C (Kd.int .i64) w A l.length l) (hc : l.length ≤ c) (h2 : Kd.C (Kd.int .i64) w B l.length l) (hd : l.length ≤ d) :
  Calls Tryz.prog 71 #[.slice A l.length c, .slice B l.length d] w fun e w' => e = .returned (.bool true) ∧ Below w.heap.size w w' := by
 obtain ⟨k, h⟩ := ints_f l hl
 refine (PAll.spinetref05_Ints.calls k A c l B d l true w h1 hc h2 hd h).mono ?_
 rintro e w' ⟨rfl, hw⟩
 exact ⟨rfl, hw.below⟩
end Go.Proofs.YtikilglbhnplaaaGreatDoor
end
