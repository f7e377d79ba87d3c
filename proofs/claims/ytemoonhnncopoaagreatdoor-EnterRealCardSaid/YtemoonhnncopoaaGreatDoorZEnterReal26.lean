/- Texts of this claim, merged (Elaw, ChKidsLaw, ErealLaw, Laid5, Laid5z). -/
import Derived.Deep.RegionWith
import Derived.Test.YtemoonhnncopoaaGreatDoorRows
import Derived.LaidSub
import Derived.LaidHandle
import Derived.LaidLaws
import Derived.Lib.LaidU8
import Derived.Deep.DeepLaidRun
import Derived.Test.YtemoonhnncopoaaGreatDoorZEnterReal25
import Derived.Test.YtemoonhnncopoaaGreatDoorZEnterReal18
import Derived.Test.YtemoonhnncopoaaGreatDoorZEnterReal24
import Derived.Test.YtemoonhnncopoaaGreatDoorZEnterReal21
set_option linter.unusedVariables false
set_option linter.unusedSimpArgs false
set_option maxRecDepth 100000
set_option maxHeartbeats 16000000
section
namespace Go.Proofs.YtemoonhnncopoaaGreatDoor
open Go.RowKit Go.Proofs.YtemoonhnncopoaaGreatDoorW.PrintWords Go.Proofs.YtemoonhnncopoaaGreatDoorW.PrintLast
open PX (T V)
theorem states_of {W : World} {g : Nat} {cs : Array Value} (h : W.heap[g]? = some (.cells cs 54 (0, 0))) (l : List Sta) (hl : l.length ≤ 9223372036854775807)
  (row : ∀ (j : Nat) (x : Sta), l[j]? = some x → ∃ c : List Value, c.length = 5 ∧ PAll.k54.K W x c ∧ ∀ i u, c[i]? = some u → cs[j * 5 + i]? = some u) :
  Kd.C PAll.k54 W (some ⟨g, 0, none⟩) l.length l := by
 refine ⟨rfl, hl, fun _ => ⟨_, rfl, ?_⟩⟩
 intro j p hj
 obtain ⟨c, h1, h2, h3⟩ := row j p hj
 refine ⟨c, h1, h2, fun i u hu => ?_⟩
 rw [add_at, blk_cell h]
 have := h3 i u hu
 have e : 0 + (j * (PAll.k54).sz + i) = j * 5 + i := by show 0 + (j * 5 + i) = j * 5 + i; omega
 rw [e]; exact this
theorem sta_plain {W : World} (k p : Int) : PAll.k54.K W (⟨k, p, [], [], []⟩ : Sta) [.int .i64 k, .int .i64 p, .slice none 0 0, .slice none 0 0, .slice none 0 0] :=
 PAll.k54_mk W _ (A2 := none) (c2 := 0) (Nat.le_refl _) (nilC _ W) (A3 := none) (c3 := 0) (Nat.le_refl _) (nilC _ W) (A4 := none) (c4 := 0) (Nat.le_refl _) (nilC _ W)
theorem sta_ini {W : World} (k p : Int) {A0 : Option Addr} {c0 : Nat} {i0 : List Int} (hc : i0.length ≤ c0) (hi : (Kd.int .i64).C W A0 i0.length i0) : PAll.k54.K W (⟨k, p, i0, [], []⟩ : Sta) [.int .i64 k, .int .i64 p, .slice A0 i0.length c0, .slice none 0 0, .slice none 0 0] :=
 PAll.k54_mk W _ (A2 := A0) (c2 := c0) hc hi (A3 := none) (c3 := 0) (Nat.le_refl _) (nilC _ W) (A4 := none) (c4 := 0) (Nat.le_refl _) (nilC _ W)
abbrev three8 : List Sta := [⟨2, -1, [2], [], []⟩, ⟨2, 0, [2], [], []⟩, ⟨1, 1, [], [], []⟩]
theorem chk8 : chkP 0 three8 [] = .none := by
 have a0 : stateP 0 three8 0 = 0 := by simp [stateP, parP, kidsP, kidsF, iniP, histP, inC, inF, actsP, PAll.rd_T54, rd]
 have a1 : stateP 0 three8 1 = 0 := by simp [stateP, parP, kidsP, kidsF, iniP, histP, inC, inF, actsP, PAll.rd_T54, rd]
 have a2 : stateP 0 three8 2 = 0 := by simp [stateP, parP, kidsP, kidsF, iniP, histP, inC, inF, actsP, PAll.rd_T54, rd]
 simp [chkP, findBad, a0, a1, a2]
theorem few8 : fewP three8 [] = true := by decide
theorem six8 : setP three8 [] 0 [2] = 6 := by kernel_rfl
theorem seven8 : setP three8 [] (-1) [2] = 7 := by kernel_rfl
theorem eset_nil (w : World) (H E : Option Addr) (a b c d : Nat) (fr : Int) : Calls Tryz.prog 39 #[.pointer none, .slice H a b, .int .i64 fr, .slice E c d] w fun e w' => e = .returned (.int .u32 0) ∧ w' = w := by
 go_enter Tryz.func39, Tryz.ntmps39
 go_wp2_with fail
 go_ret
 exact ⟨rfl, rfl⟩
theorem up08 (w : World) (hw : LaidZ w) : Calls Tryz.prog 35 #[] w fun e w' => e = .returned (.bool true) ∧ Below w.heap.size w w' := by
 have k6 := eqErr
 have HW := Lib.hid hw
 clear hw
 go_enter Tryz.func35, Tryz.ntmps35
 go_wp2_with fail
 have e1 : (w.alloc (.cells #[.int .i64 2] 3)).heap.size = w.heap.size + 1 := by simp
 have k1 := blk_new w (.cells #[.int .i64 2] 3)
 have b1 : Below w.heap.size w (w.alloc (.cells #[.int .i64 2] 3)) := (Below.refl _ w).alloc (Nat.le_refl _) _
 generalize w.alloc (.cells #[.int .i64 2] 3) = w1 at e1 k1 b1 ⊢
 have e2 : (w1.alloc (.cells #[.int .i64 2] 3)).heap.size = w.heap.size + 1 + 1 := by simp [e1]
 have k2 := blk_new w1 (.cells #[.int .i64 2] 3)
 have b2 : Below w1.heap.size w1 (w1.alloc (.cells #[.int .i64 2] 3)) := (Below.refl _ w1).alloc (Nat.le_refl _) _
 rw [e1] at k2
 generalize w1.alloc (.cells #[.int .i64 2] 3) = w2 at e2 k2 b2 ⊢
 have k3 := blk_new w2 (.cells #[.int .i64 2, .int .i64 (-1), .slice (some ⟨w.heap.size, 0, none⟩) 1 1, .slice none 0 0, .slice none 0 0, .int .i64 2, .int .i64 0, .slice (some ⟨w.heap.size + 1, 0, none⟩) 1 1, .slice none 0 0, .slice none 0 0, .int .i64 1, .int .i64 1, .slice none 0 0, .slice none 0 0, .slice none 0 0] 54)
 have b3 : Below w2.heap.size w2 (w2.alloc (.cells #[.int .i64 2, .int .i64 (-1), .slice (some ⟨w.heap.size, 0, none⟩) 1 1, .slice none 0 0, .slice none 0 0, .int .i64 2, .int .i64 0, .slice (some ⟨w.heap.size + 1, 0, none⟩) 1 1, .slice none 0 0, .slice none 0 0, .int .i64 1, .int .i64 1, .slice none 0 0, .slice none 0 0, .slice none 0 0] 54)) := (Below.refl _ w2).alloc (Nat.le_refl _) _
 rw [e2] at k3
 generalize w2.alloc (.cells #[.int .i64 2, .int .i64 (-1), .slice (some ⟨w.heap.size, 0, none⟩) 1 1, .slice none 0 0, .slice none 0 0, .int .i64 2, .int .i64 0, .slice (some ⟨w.heap.size + 1, 0, none⟩) 1 1, .slice none 0 0, .slice none 0 0, .int .i64 1, .int .i64 1, .slice none 0 0, .slice none 0 0, .slice none 0 0] 54) = w3 at k3 b3 ⊢
 have c1 := (b3.block _ (by omega)).trans ((b2.block _ (by omega)).trans k1)
 have c2 := (b3.block _ (by omega)).trans k2
 have HB3 := Lib.hid (below_then (below_then b1 (by omega) b2) (by omega) b3)
 have HM : Hid (ChM w3 (some ⟨w.heap.size + 1 + 1, 0, none⟩) 3 three8 none 0 []) := Lib.hid ⟨states_of k3 three8 (by decide) (fun j x hj => by
  match j, hj with
  | 0, hj =>
   obtain rfl := Option.some.inj hj
   refine ⟨_, rfl, sta_ini (i0 := [2]) 2 (-1) (Nat.le_refl _) (one_new c1), fun i u hu => ?_⟩
   match i, hu with
   | 0, hu => exact hu
   | 1, hu => exact hu
   | 2, hu => exact hu
   | 3, hu => exact hu
   | 4, hu => exact hu
   | n + 5, hu => simp at hu
  | 1, hj =>
   obtain rfl := Option.some.inj hj
   refine ⟨_, rfl, sta_ini (i0 := [2]) 2 0 (Nat.le_refl _) (one_new c2), fun i u hu => ?_⟩
   match i, hu with
   | 0, hu => exact hu
   | 1, hu => exact hu
   | 2, hu => exact hu
   | 3, hu => exact hu
   | 4, hu => exact hu
   | n + 5, hu => simp at hu
  | 2, hj =>
   obtain rfl := Option.some.inj hj
   refine ⟨_, rfl, sta_plain 1 1, fun i u hu => ?_⟩
   match i, hu with
   | 0, hu => exact hu
   | 1, hu => exact hu
   | 2, hu => exact hu
   | 3, hu => exact hu
   | 4, hu => exact hu
   | n + 5, hu => simp at hu
  | n + 3, hj => simp at hj), Nat.le_refl _, nilC _ _, Nat.le_refl _⟩
 clear e1 k1 b1 e2 k2 b2 k3 b3 c1 c2
 refine (tnew_any 0 _ none 3 0 three8 [] few8 w3 (HW.out.toLaid.below HB3.out) HM.out).mono ?_
 rintro e w4 ⟨⟨p, ev, rfl, h⟩, hb4⟩
 rcases h with ⟨_, g, rfl, rfl, hg, hT⟩ | ⟨h, _⟩
 rotate_left
 ·exact absurd chk8 h
 have HT := Lib.hid hT
 have HB4 := Lib.hid (below_then HB3.out HB3.out.size hb4)
 clear hT hb4 hg
 go_wp2_with fail
 have hal : Below w4.heap.size w4 (w4.alloc (.cells #[.int .i64 2] 3)) := (Below.refl _ w4).alloc (Nat.le_refl _) _
 have HN := Lib.hid (one_new (blk_new w4 (.cells #[.int .i64 2] 3)))
 have HB5 := Lib.hid (below_then HB4.out HB4.out.size hal)
 have HT5 := Lib.hid (HT.out.below hal)
 clear hal
 generalize w4.alloc (.cells #[.int .i64 2] 3) = w5 at HN HB5 HT5 ⊢
 refine (eset_any w5 (HW.out.below HB5.out) HT5.out chk8 few8 (H := none) (hc := 0) (hs := []) (nilC _ _) (Nat.le_refl _) (by decide) (by simp) 0 (some ⟨w4.heap.size, 0, none⟩) 1 [2] HN.out (Nat.le_refl _) (by decide)).mono ?_
 rw [six8]
 rintro e w6 ⟨rfl, _, hb6⟩
 have HB6 := Lib.hid (below_then HB5.out HB5.out.size hb6)
 have HT6 := Lib.hid (HT5.out.below hb6)
 clear hb6 HN
 go_wp2_with fail
 have hal : Below w6.heap.size w6 (w6.alloc (.cells #[.int .i64 2] 3)) := (Below.refl _ w6).alloc (Nat.le_refl _) _
 have HN := Lib.hid (one_new (blk_new w6 (.cells #[.int .i64 2] 3)))
 have HB7 := Lib.hid (below_then HB6.out HB6.out.size hal)
 have HT7 := Lib.hid (HT6.out.below hal)
 clear hal
 generalize w6.alloc (.cells #[.int .i64 2] 3) = w7 at HN HB7 HT7 ⊢
 refine (eset_any w7 (HW.out.below HB7.out) HT7.out chk8 few8 (H := none) (hc := 0) (hs := []) (nilC _ _) (Nat.le_refl _) (by decide) (by simp) (-1) (some ⟨w6.heap.size, 0, none⟩) 1 [2] HN.out (Nat.le_refl _) (by decide)).mono ?_
 rw [seven8]
 rintro e w8 ⟨rfl, _, hb8⟩
 have HB8 := Lib.hid (below_then HB7.out HB7.out.size hb8)
 clear hb8 HN
 go_wp2_with fail
 have hal : Below w8.heap.size w8 (w8.alloc (.cells #[.int .i64 2] 3)) := (Below.refl _ w8).alloc (Nat.le_refl _) _
 have HB9 := Lib.hid (below_then HB8.out HB8.out.size hal)
 clear hal
 generalize w8.alloc (.cells #[.int .i64 2] 3) = w9 at HB9 ⊢
 refine (eset_nil w9 none (some ⟨w8.heap.size, 0, none⟩) 0 0 1 1 0).mono ?_
 rintro e wa ⟨rfl, rfl⟩
 go_wp2_with fail
 go_ret
 exact ⟨rfl, HB9.out⟩
end Go.Proofs.YtemoonhnncopoaaGreatDoor
end
section
namespace Go.Proofs.YtemoonhnncopoaaGreatDoor
open Go.RowKit Go.Proofs.YtemoonhnncopoaaGreatDoorW.PrintWords
open PX (T V)
open Go.Proofs.YtemoonhnncopoaaGreatDoorW.PrintLast
theorem ints_l0 (l : List Int) (hl : l.length ≤ 1000000) (d : Nat) : ∀ a : Nat, a ≤ l.length → l.length - a = d → Ev (fun k => PAll.spinetref05_Ints.l0 k l l a) true := by
 induction d with
 | zero =>
  intro a ha hd
  obtain rfl : a = l.length := by omega
  refine Ev.step (fun k => rfl) ?_
  simp only [PAll.spinetref05_Ints.l0]
  exact ev_neg (by omega) (Ev.now _)
 | succ d ih =>
  intro a ha hd
  refine Ev.step (fun k => rfl) ?_
  simp only [PAll.spinetref05_Ints.l0]
  refine ev_pos (by omega) (ev_pos (by omega) (ev_pos (by omega) (ev_pos (by first | rfl | trivial) ?_)))
  rw [w64 (by omega) (by omega)]
  exact ih (a + 1) (by omega) (by omega)
theorem ints_f (l : List Int) (hl : l.length ≤ 1000000) : ∃ k, PAll.spinetref05_Ints.f k l l = some true := by
 have h := ints_l0 l hl l.length 0 (by omega) (by omega)
 have : Ev (fun k => PAll.spinetref05_Ints.f k l l) true := by
  unfold PAll.spinetref05_Ints.f
  exact ev_pos rfl h
 exact Ev.rounds this
theorem ints_any (A B : Option Addr) (c d : Nat) (l : List Int) (hl : l.length ≤ 1000000) (w : World) (h1 : Kd.C (Kd.int .i64) w A l.length l) (hc : l.length ≤ c) (h2 : Kd.C (Kd.int .i64) w B l.length l) (hd : l.length ≤ d) :
  Calls Tryz.prog 19 #[.slice A l.length c, .slice B l.length d] w fun e w' => e = .returned (.bool true) ∧ Below w.heap.size w w' := by
 obtain ⟨k, h⟩ := ints_f l hl
 refine (PAll.spinetref05_Ints.calls k A c l B d l true w h1 hc h2 hd h).mono ?_
 rintro e w' ⟨rfl, hw⟩
 exact ⟨rfl, hw.below⟩
end Go.Proofs.YtemoonhnncopoaaGreatDoor
end
section
namespace Go.Proofs.YtemoonhnncopoaaGreatDoor
open Go.RowKit Go.Proofs.YtemoonhnncopoaaGreatDoorW.PrintWords Go.Proofs.YtemoonhnncopoaaGreatDoorW.PrintLast
open PX (T V)
theorem u32Arg {w : World} {v : Value} {xs : List Int} (h : (Rep.int .u32).slice.ok (fun b => b < w.heap.size) w [v] xs) :
  ∃ A cap, v = .slice A xs.length cap ∧ xs.length ≤ cap ∧ (Kd.int .u32).C w A xs.length xs ∧ ∀ x ∈ xs, 0 ≤ x ∧ x < 4294967296 := by
 obtain ⟨A, cap, hv, hl, hC⟩ := repK_slice 63 (repK_int .u32) rfl _ _ _ _ h
 rw [List.map_id] at hv hl hC
 refine ⟨A, cap, by simpa using hv, hl, hC, fun x hx => ?_⟩
 obtain ⟨cs', h1⟩ := slice_all h x hx
 have := bounds_u32 h1.2
 omega
theorem EnterReal_walk (w : World) (hw : LaidZ w) (cs : Array Value) (x0 : Int × List StaT × List TraT × Unit) (v1 v2 : Value) (hs l : List Int) (h0 : RChart.ok (fun b => b < w.heap.size) w cs.toList x0) (h1 : (Rep.int .u32).slice.ok (fun b => b < w.heap.size) w [v1] hs) (h2 : (Rep.int .i64).slice.ok (fun b => b < w.heap.size) w [v2] l) :
  Calls Tryz.prog 7 #[.agg cs, v1, v2] w fun e w' => e = .returned (.bool true) ∧ Below w.heap.size w w' := by
 obtain ⟨A, ca, B, cb, st, tr, hcs, hM⟩ := chartArg h0
 obtain ⟨H, hc, rfl, hhc, hH, hhb⟩ := u32Arg h1
 obtain ⟨E, cap, rfl, hcap, hE, _⟩ := numArg h2
 rw [hcs]
 generalize x0.1 = v at *
 clear h0 hcs h1 h2
 have hb0 : Below w.heap.size w (w.alloc (.cells #[.int .i64 v, .slice A st.length ca, .slice B tr.length cb] 47)) := (Below.refl _ w).alloc (Nat.le_refl _) _
 have HB0 := Lib.hid hb0
 have HWE := Lib.hid (hw.below hb0)
 have HM := Lib.hid (hM.below hb0)
 have HH := Lib.hid (Kd.C_below hH hb0)
 have HE := Lib.hid (Kd.C_below hE hb0)
 have HHb := Lib.hid hhb
 have HG := Lib.hid (blk_new w (.cells #[.int .i64 v, .slice A st.length ca, .slice B tr.length cb] 47))
 clear hb0 hw hM hH hE hhb
 go_enter Tryz.func7, Tryz.ntmps7
 go_wp2_with fail
 generalize w.alloc (.cells #[.int .i64 v, .slice A st.length ca, .slice B tr.length cb] 47) = w0 at HB0 HWE HM HG HH HE ⊢
 have hfin : ∀ wr, Below w0.heap.size w0 wr → Below w.heap.size w wr := fun wr h => HB0.out.trans (h.mono HB0.out.size)
 have HFin := Lib.hid hfin
 clear hfin
 refine (up08 _ HWE.out).mono ?_
 rintro e w1 ⟨rfl, hb1⟩
 have HB1 := Lib.hid hb1
 have hk := (hb1.block _ (lt_of_block HG.out)).trans HG.out
 obtain ⟨y0, y1, y2⟩ : w1.cell? ⟨w.heap.size, 0, none⟩ = some (.int .i64 v) ∧ w1.cell? ⟨w.heap.size, 1, none⟩ = some (.slice A st.length ca) ∧ w1.cell? ⟨w.heap.size, 2, none⟩ = some (.slice B tr.length cb) := ⟨blk_cell hk 0, blk_cell hk 1, blk_cell hk 2⟩
 clear hk hb1
 go_wp2_with fail
 refine (fewc_any (HM.out.below HB1.out) v).mono ?_
 cases hf : fewP st tr with
 | false =>
  rintro e w2 ⟨rfl, hb2⟩
  go_wp2_with fail
  go_ret
  exact ⟨rfl, HFin.out _ (below_then HB1.out HB1.out.size hb2)⟩
 | true =>
  have HF := Lib.hid hf
  clear hf
  rintro e w2 ⟨rfl, hb2⟩
  have HB2 := Lib.hid (below_then HB1.out HB1.out.size hb2)
  clear y0 y1 y2 hb2
  by_cases c1 : (hs.length : Int) > 40
  ·have d1 : decide ((hs.length : Int) > 40) = true := decide_eq_true c1
   clear c1
   go_wp2_with fail
   go_ret
   exact ⟨rfl, HFin.out _ HB2.out⟩
  have d1 : decide ((hs.length : Int) > 40) = false := decide_eq_false c1
  by_cases c2 : (l.length : Int) > 20
  ·have d2 : decide ((l.length : Int) > 20) = true := decide_eq_true c2
   clear c1 c2
   go_wp2_with fail
   go_ret
   exact ⟨rfl, HFin.out _ HB2.out⟩
  have d2 : decide ((l.length : Int) > 20) = false := decide_eq_false c2
  have hhl : hs.length ≤ 40 := by omega
  have hll : l.length ≤ 20 := by omega
  have hk := (HB2.out.block _ (lt_of_block HG.out)).trans HG.out
  obtain ⟨y0, y1, y2⟩ : w2.cell? ⟨w.heap.size, 0, none⟩ = some (.int .i64 v) ∧ w2.cell? ⟨w.heap.size, 1, none⟩ = some (.slice A st.length ca) ∧ w2.cell? ⟨w.heap.size, 2, none⟩ = some (.slice B tr.length cb) := ⟨blk_cell hk 0, blk_cell hk 1, blk_cell hk 2⟩
  clear hk c1 c2
  go_wp2_with fail
  refine (tnew_any v A B ca cb st tr HF.out _ (HWE.out.toLaid.below HB2.out) (HM.out.below HB2.out)).mono ?_
  rintro e w3 ⟨⟨p, ev, rfl, h⟩, hb3⟩
  have HB3 := Lib.hid (below_then HB2.out HB2.out.size hb3)
  clear y0 y1 y2 hb3
  rcases h with ⟨he, g, rfl, rfl, hg, hT⟩ | ⟨he, rfl, hev⟩
  rotate_left
  ·rcases er_some hev he with ⟨c, rfl⟩ | ⟨c, rfl⟩
   all_goals
    clear hev he
    go_wp2_with fail
    go_ret
    exact ⟨rfl, HFin.out _ HB3.out⟩
  have HT3 := Lib.hid hT
  have HGood := Lib.hid he
  clear hT he hg
  have hk := (HB3.out.block _ (lt_of_block HG.out)).trans HG.out
  obtain ⟨y0, y1, y2⟩ : w3.cell? ⟨w.heap.size, 0, none⟩ = some (.int .i64 v) ∧ w3.cell? ⟨w.heap.size, 1, none⟩ = some (.slice A st.length ca) ∧ w3.cell? ⟨w.heap.size, 2, none⟩ = some (.slice B tr.length cb) := ⟨blk_cell hk 0, blk_cell hk 1, blk_cell hk 2⟩
  clear hk
  have HRL := Lib.hid (real_len HGood.out hs l)
  have HX : Hid (∃ R, realP st hs l = R) := Lib.hid ⟨_, rfl⟩
  go_wp2_with fail
  refine start_ (n := 13) (S := fun w' => w'.cell? ⟨w.heap.size, 0, none⟩ = some (.int .i64 v) ∧ w'.cell? ⟨w.heap.size, 1, none⟩ = some (.slice A st.length ca) ∧ w'.cell? ⟨w.heap.size, 2, none⟩ = some (.slice B tr.length cb)) (ds := [9, 10]) #[false, false, false, false, false, false, false, false, false, false, false, false, false] (by kernel_rfl) rfl rfl ⟨y0, y1, y2⟩ (fun hHeld => ?_)
  refine pure_ (i := 0) (N := some 43) (v := ?_) (a' := ?_) #[true, false, false, false, false, false, false, false, false, false, false, false, false] rfl rfl (by kernel_rfl) (fun _ _ _ h => h) (Or.inl ⟨by rfl, ?_⟩) ?_ ?_
  rotate_left
  ·intro w'
   go_simp
   with_reducible rfl
  rotate_left
  ·simp only [Act.put, List.setIfInBounds_toArray, List.set_cons_zero, List.set_cons_succ, i64_w, i32_w]
   rfl
  refine pure_ (i := 1) (N := some 44) (v := ?_) (a' := ?_) #[true, true, false, false, false, false, false, false, false, false, false, false, false] rfl rfl (by kernel_rfl) (fun _ _ _ h => h) (Or.inl ⟨by rfl, ?_⟩) ?_ ?_
  rotate_left
  ·intro w'
   go_simp
   with_reducible rfl
  rotate_left
  ·simp only [Act.put, List.setIfInBounds_toArray, List.set_cons_zero, List.set_cons_succ, i64_w, i32_w]
   rfl
  refine pure_ (i := 2) (N := some 45) (v := ?_) (a' := ?_) #[true, true, true, false, false, false, false, false, false, false, false, false, false] rfl rfl (by kernel_rfl) (fun _ _ _ h => h) (Or.inl ⟨by rfl, ?_⟩) ?_ ?_
  rotate_left
  ·intro w'
   go_simp
   with_reducible rfl
  rotate_left
  ·simp only [Act.put, List.setIfInBounds_toArray, List.set_cons_zero, List.set_cons_succ, i64_w, i32_w]
   rfl
  refine pure_ (i := 3) (N := some 46) (v := ?_) (a' := ?_) #[true, true, true, true, false, false, false, false, false, false, false, false, false] rfl rfl (by kernel_rfl) (fun _ _ _ h => h) (Or.inl ⟨by rfl, ?_⟩) ?_ ?_
  rotate_left
  ·intro w'
   go_simp
   with_reducible rfl
  rotate_left
  ·simp only [Act.put, List.setIfInBounds_toArray, List.set_cons_zero, List.set_cons_succ, i64_w, i32_w]
   rfl
  refine pure_ (i := 4) (N := some 47) (v := ?_) (a' := ?_) #[true, true, true, true, true, false, false, false, false, false, false, false, false] rfl rfl (by kernel_rfl) (fun _ _ _ h => h) (Or.inl ⟨by rfl, ?_⟩) ?_ ?_
  rotate_left
  ·intro w'
   go_simp
   with_reducible rfl
  rotate_left
  ·simp only [Act.put, List.setIfInBounds_toArray, List.set_cons_zero, List.set_cons_succ, i64_w, i32_w]
   rfl
  refine take_ (i := 6) (N := some 49) (v := ?_) (a' := ?_) #[true, true, true, true, true, false, true, false, false, false, false, false, false] rfl rfl (by kernel_rfl) (fun _ _ _ h => h) (Or.inl ⟨by rfl, ?_⟩) hHeld ?_ ?_
  rotate_left
  ·rintro w' ⟨s0, s1, s2⟩
   go_simp
   with_reducible rfl
  rotate_left
  ·simp only [Act.put, List.setIfInBounds_toArray, List.set_cons_zero, List.set_cons_succ, i64_w, i32_w]
   rfl
  refine pure_ (i := 7) (N := some 50) (v := ?_) (a' := ?_) #[true, true, true, true, true, false, true, true, false, false, false, false, false] rfl rfl (by kernel_rfl) (fun _ _ _ h => h) (Or.inl ⟨by rfl, ?_⟩) ?_ ?_
  rotate_left
  ·intro w'
   go_simp
   with_reducible rfl
  rotate_left
  ·simp only [Act.put, List.setIfInBounds_toArray, List.set_cons_zero, List.set_cons_succ, i64_w, i32_w]
   rfl
  refine pure_ (i := 8) (N := some 51) (v := ?_) (a' := ?_) #[true, true, true, true, true, false, true, true, true, false, false, false, false] rfl rfl (by kernel_rfl) (fun _ _ _ h => h) (Or.inl ⟨by rfl, ?_⟩) ?_ ?_
  rotate_left
  ·intro w'
   go_simp
   with_reducible rfl
  rotate_left
  ·simp only [Act.put, List.setIfInBounds_toArray, List.set_cons_zero, List.set_cons_succ, i64_w, i32_w]
   rfl
  refine one_ (i := 5) (N := some 48) #[true, true, true, true, true, true, true, true, true, false, false, false, false] rfl rfl (by kernel_rfl) (by decide) (fun K hK => ?_)
  refine goes_ Tryz.func36 (by kernel_rfl) rfl #[.pointer (some ⟨g, 0, none⟩), .slice H hs.length hc, .slice E l.length cap] (by rfl) rfl rfl (by first | rfl | (go_simp; done) | (go_simp; exact ⟨rfl, rfl⟩) | (go_simp; rfl)) ?_
  refine (real_any _ (HWE.out.below (below_drewN' HB3.out 1)) (HT3.out.below (below_drewN' (Below.refl _ w3) 1)) HGood.out HF.out (Kd.C_below HH.out (below_drewN' HB3.out 1)) hhc (by omega) HHb.out E cap l (Kd.C_below HE.out (below_drewN' HB3.out 1)) hcap (by omega)).mono ?_
  rintro e1 w4 ⟨u, rfl, hu, hb4⟩
  obtain ⟨P, pc, rfl⟩ := Kd.R_slice hu
  obtain ⟨_, hpc, hP⟩ := Kd.R_reads' hu
  have HB4 := Lib.hid (below_then HB3.out HB3.out.size (below_then (below_drewN' (Below.refl _ w3) 1) (Nat.le_refl _) hb4))
  have HP := Lib.hid hP
  have hk := (HB4.out.block _ (lt_of_block HG.out)).trans HG.out
  refine ⟨_, rfl, hK.out _ _ ⟨blk_cell hk 0, blk_cell hk 1, blk_cell hk 2⟩ (fun hS4 => ?_)⟩
  clear hK K hHeld hb4 hu hP hk y0 y1 y2
  refine last_ (i := 9) (N := some 52) #[true, true, true, true, true, true, true, true, true, true, false, false, false] rfl rfl (by kernel_rfl) (by decide) (fun K hK => ?_)
  refine goes_ Tryz.func37 (by kernel_rfl) rfl #[ckV v A B st.length tr.length ca cb, .slice H hs.length hc, .slice E l.length cap] (by rfl) rfl rfl (by first | rfl | (go_simp; done) | (go_simp; exact ⟨rfl, rfl⟩) | (go_simp; rfl)) ?_
  refine (rreal_any v _ ⟨HM.out.below HB4.out, Kd.C_below HH.out HB4.out, hhc, by omega, HHb.out⟩ HGood.out E cap l (Kd.C_below HE.out HB4.out) hcap (by omega)).mono ?_
  rintro e1 w5 ⟨u, rfl, hu, hb5⟩
  obtain ⟨P2, pc2, rfl⟩ := Kd.R_slice hu
  obtain ⟨_, hpc2, hP2⟩ := Kd.R_reads' hu
  have HB5 := Lib.hid (below_then HB4.out HB4.out.size hb5)
  have HP2 := Lib.hid hP2
  have HP1 := Lib.hid (Kd.C_below HP.out hb5)
  refine ⟨_, rfl, hK.out _ _ ?_⟩
  clear hK K hS4 hb5 hu hP2
  refine last_ (i := 10) (N := some 53) #[true, true, true, true, true, true, true, true, true, true, true, false, false] rfl rfl (by kernel_rfl) (by decide) (fun K hK => ?_)
  refine goes_ Tryz.func19 (by kernel_rfl) rfl #[.slice P (realP st hs l).length pc, .slice P2 (realP st hs l).length pc2] (by rfl) rfl rfl (by first | rfl | (go_simp; done) | (go_simp; exact ⟨rfl, rfl⟩) | (go_simp; rfl)) ?_
  refine (ints_any P P2 pc pc2 (realP st hs l) (by have := HRL.out; omega) _ HP1.out hpc HP2.out hpc2).mono ?_
  rintro e1 w6 ⟨rfl, hb6⟩
  have HB6 := Lib.hid (below_then HB5.out HB5.out.size hb6)
  refine ⟨_, rfl, hK.out _ _ ?_⟩
  clear hK K hb6
  refine pure_ (i := 11) (N := some 54) (v := ?_) (a' := ?_) #[true, true, true, true, true, true, true, true, true, true, true, true, false] rfl rfl (by kernel_rfl) (fun _ _ _ h => h) (Or.inl ⟨by rfl, ?_⟩) ?_ ?_
  rotate_left
  ·intro w'
   go_simp
   with_reducible rfl
  rotate_left
  ·simp only [Act.put, List.setIfInBounds_toArray, List.set_cons_zero, List.set_cons_succ, i64_w, i32_w]
   rfl
  refine pure_ (i := 12) (N := some 6) (v := ?_) (a' := ?_) #[true, true, true, true, true, true, true, true, true, true, true, true, true] rfl rfl (by kernel_rfl) (fun _ _ _ h => h) (Or.inl ⟨by rfl, ?_⟩) ?_ ?_
  rotate_left
  ·intro w'
   go_simp
   with_reducible rfl
  rotate_left
  ·simp only [Act.put, List.setIfInBounds_toArray, List.set_cons_zero, List.set_cons_succ, i64_w, i32_w]
   rfl
  refine done_ (by kernel_rfl) ?_
  go_wp2_with fail
  go_ret
  exact ⟨rfl, HFin.out _ HB6.out⟩
end Go.Proofs.YtemoonhnncopoaaGreatDoor
end
section
namespace Go.Proofs.YtemoonhnncopoaaGreatDoor
open Go.ChangeShapes Go.WideShapes Go.RowKit PX Go.Proofs.YtemoonhnncopoaaGreatDoorW.PrintWords
namespace Door
abbrev laid5 : List (String × DataW Unit) := [("math/bits.deBruijn32tab", Rows.laid_math_bits_deBruijn32tab), ("math/bits.deBruijn64tab", Rows.laid_math_bits_deBruijn64tab), ("internal/strconv.uint64pow10", Rows.laid_internal_strconv_uint64pow10), ("strconv.ErrRange", Rows.laid_strconv_ErrRange), ("strconv.ErrSyntax", Rows.laid_strconv_ErrSyntax)]
theorem gRange : Tryz.prog.globalNamed "strconv.ErrRange" = some 3 := by kernel_rfl
theorem gRangeT : (Tryz.prog.globals[3]?).map (·.type) = some 37 := by kernel_rfl
theorem gPow : Tryz.prog.globalNamed "internal/strconv.uint64pow10" = some 4 := by kernel_rfl
theorem gPowT : (Tryz.prog.globals[4]?).map (·.type) = some 261 := by kernel_rfl
theorem powT : Tryz.prog.underlying 261 = some (.array 20 170) := by kernel_rfl
theorem powIs {H : Type} : (Rows.laid_internal_strconv_uint64pow10 : DataW H) = Lib.tabData .u64 Lib.pow10Tab := rfl
theorem laid_of_met5 {W : World} (h : laidMet Tryz.prog laid5 W) : Laid W := by
 obtain ⟨g, t, cs, fuel, p, h1, h2, h3, h4⟩ := Lib.laidMet.reads h (n := "strconv.ErrRange") (d := Rows.laid_strconv_ErrRange) (.tail _ (.tail _ (.tail _ (.head _))))
 obtain rfl := Option.some.inj (gRange.symm.trans h1)
 obtain rfl := Option.some.inj (gRangeT.symm.trans h2)
 obtain ⟨_, u, v, he, _, _⟩ := iface_of_trod Tryz.underlying37 h4
 have hc : cs = #[.iface u v] := Array.eq_one_of_toList he
 subst hc
 obtain ⟨g, t, cs, fuel, p, k1, k2, k3, k4⟩ := Lib.laidMet.reads h (n := "internal/strconv.uint64pow10") (d := Rows.laid_internal_strconv_uint64pow10) (.tail _ (.tail _ (.head _)))
 obtain rfl := Option.some.inj (gPow.symm.trans k1)
 obtain rfl := Option.some.inj (gPowT.symm.trans k2)
 refine ⟨⟨u, v, h3⟩, ?_⟩
 unfold Lib.TabIs
 rw [powIs] at k4
 rw [k3, ← Lib.cells_of_tab powT (by kernel_rfl) (by kernel_rfl) (by kernel_rfl) k4]
theorem laid_of5 {W : World} (h : laidMetH Tryz.prog laid5 W) : Laid W := laid_of_met5 (laidMetH_iff.1 h).1
def cellsOfData : DataW Unit → Array Value
 | .agg l => (l.map fun | .lit (.int k z) => Value.int k z | _ => .nilIface).toArray
 | _ => #[]
noncomputable def laidWorld (os : Os) : World :=
 let N := (World.holding Tryz.prog os ⟨#[], #[], []⟩).heap.size
 let w0 := World.holding Tryz.prog os ⟨#[.cells #[.string ⟨#[118, 97, 108, 117, 101, 32, 111, 117, 116, 32, 111, 102, 32, 114, 97, 110, 103, 101]⟩] 253, .cells #[.string ⟨#[105, 110, 118, 97, 108, 105, 100, 32, 115, 121, 110, 116, 97, 120]⟩] 253], #[], []⟩
 let put (h : Array Obj) (g : Nat) (cs : Array Value) : Array Obj := h.modify g fun
  | .cells _ t frozen => .cells cs t frozen
  | o => o
 { w0 with heap := put (put (put (put (put (put w0.heap
   1 (cellsOfData Rows.laid_math_bits_deBruijn32tab)) 5 (cellsOfData Rows.laid_math_bits_deBruijn64tab)) 4 (cellsOfData Rows.laid_internal_strconv_uint64pow10))
   0 #[.iface 213 (.agg #[.pointer (some ⟨6, 37, none⟩)])]) 3 #[.iface 251 (.pointer (some ⟨N, 0, none⟩))]) 2 #[.iface 251 (.pointer (some ⟨N + 1, 0, none⟩))] }
theorem met5 (os : Os) (args : Array Value) : laidMet Tryz.prog laid5 ((laidWorld os).forCall (fun _ _ => 0) ⟨#[], args, []⟩).memory :=
 laidMet_of_run3 10 (by kernel_rfl) (by kernel_rfl) (by kernel_rfl)
theorem met5H (os : Os) (args : Array Value) : laidMetH Tryz.prog laid5 ((laidWorld os).forCall (fun _ _ => 0) ⟨#[], args, []⟩).memory :=
 laidMetH_of_parts (met5 os args) (by kernel_rfl)
end Door
end Go.Proofs.YtemoonhnncopoaaGreatDoor
end
section
namespace Go.Proofs.YtemoonhnncopoaaGreatDoor
open Go.ChangeShapes Go.WideShapes Go.RowKit PX Go.Proofs.YtemoonhnncopoaaGreatDoorW.PrintWords
namespace Door
theorem gTzT : (Tryz.prog.globals[1]?).map (·.type) = some 228 := by kernel_rfl
theorem tzT : Tryz.prog.underlying 228 = some (.array 32 5) := by kernel_rfl
theorem tzIs {H : Type} : (Rows.laid_math_bits_deBruijn32tab : DataW H) = Lib.tabData .u8 (Lib.deBruijn32tab.map Int.ofNat) := rfl
theorem laid_of5z {W : World} (h : laidMetH Tryz.prog laid5 W) : LaidZ W := by
 refine ⟨laid_of5 h, ?_⟩
 obtain ⟨g, t, cs, fuel, p, k1, k2, k3, k4⟩ := Lib.laidMet.reads (laidMetH_iff.1 h).1 (n := "math/bits.deBruijn32tab") (d := Rows.laid_math_bits_deBruijn32tab) (.head _)
 obtain rfl := Option.some.inj (gTz.symm.trans k1)
 obtain rfl := Option.some.inj (gTzT.symm.trans k2)
 unfold Lib.TabIs
 rw [tzIs] at k4
 rw [k3, ← Lib.cells_of_tab tzT (by kernel_rfl) (by kernel_rfl) (by kernel_rfl) k4]
end Door
end Go.Proofs.YtemoonhnncopoaaGreatDoor
end
