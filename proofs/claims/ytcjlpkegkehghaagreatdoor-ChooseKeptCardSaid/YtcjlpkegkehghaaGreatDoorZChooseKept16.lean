/- Texts of this claim, merged (Tset, Tbel, Chop, Epl, Ebit, Tnew, Tord, Lvs, Town, Rap, Lea, Rdy). -/
import Derived.Laws.BitsAllLaws
import Derived.Shelf.Spec.TrailingZeros
import Derived.Lib.LaidTab
import Derived.Test.YtcjlpkegkehghaaGreatDoorZChooseKept15
import Derived.Test.YtcjlpkegkehghaaGreatDoorZChooseKept10
import Derived.Test.YtcjlpkegkehghaaGreatDoorZChooseKept12
import Derived.Test.YtcjlpkegkehghaaGreatDoorZChooseKept8
import Derived.Test.YtcjlpkegkehghaaGreatDoorZChooseKept9
set_option linter.unusedVariables false
set_option linter.unusedSimpArgs false
set_option maxRecDepth 100000
set_option maxHeartbeats 32000000
section
namespace Go.Proofs.YtcjlpkegkehghaaGreatDoor
open Go.RowKit Go.Proofs.YtcjlpkegkehghaaGreatDoorW.PrintWords
open PX (T V)
theorem idx_ev (l : List Int) (a : Int) (hl : l.length ≤ 1000000) (d : Nat) : ∀ i : Nat, i ≤ l.length → l.length - i = d → ∃ r : Int, Ev (fun k => PAll.slices_Index_int_int.l0 k l a (l.length : Int) i) r ∧ decide (r ≥ 0) = (l.drop i).contains a := by
 induction d with
 | zero =>
  intro i hi hd
  obtain rfl : i = l.length := by omega
  refine ⟨-1, Ev.step (fun k => rfl) ?_, by rw [List.drop_length]; rfl⟩
  simp only [PAll.slices_Index_int_int.l0]
  exact ev_neg (by omega) (Ev.now _)
 | succ d ih =>
  intro i hi hd
  have hlt : i < l.length := by omega
  have hr : rd l (i : Int) = l[i] := by simp [rd, List.getD_eq_getElem?_getD, List.getElem?_eq_getElem hlt]
  rw [List.drop_eq_getElem_cons hlt, List.contains_cons]
  by_cases he : a = l[i]
  ·refine ⟨(i : Int), Ev.step (fun k => rfl) ?_, ?_⟩
   ·simp only [PAll.slices_Index_int_int.l0]
    refine ev_pos (by omega) (ev_pos (by omega) (ev_pos (by omega) ?_))
    rw [hr]
    exact ev_pos he (Ev.now _)
   ·rw [show (a == l[i]) = true by simp [he], Bool.true_or]; exact decide_eq_true (by omega)
  ·obtain ⟨r, h1, h2⟩ := ih (i + 1) (by omega) (by omega)
   refine ⟨r, Ev.step (fun k => rfl) ?_, ?_⟩
   ·simp only [PAll.slices_Index_int_int.l0]
    refine ev_pos (by omega) (ev_pos (by omega) (ev_pos (by omega) ?_))
    rw [hr]
    refine ev_neg he ?_
    rw [w64 (by omega) (by omega)]
    exact h1
   ·rw [h2, show (a == l[i]) = false by simp [he], Bool.false_or]
theorem has_ev (l : List Int) (a : Int) (hl : l.length ≤ 1000000) : Ev (fun k => PAll.slices_Contains_int_int.f k l a) (l.contains a) := by
 obtain ⟨r, h1, h2⟩ := idx_ev l a hl l.length 0 (by omega) (by omega)
 rw [List.drop_zero] at h2
 rw [← h2]
 exact Ev.bind h1 (Ev.now _)
theorem drawn_below {w w' : World} (h : Drawn0 w w') : Below w.heap.size w w' := by
 obtain ⟨n, rfl⟩ := h
 exact below_drewN' (Below.refl _ _) n
section
variable {g : Nat} {v : Int} {st : List Sta} {tr : List Tra} {w : World}
theorem thas_any (A : Option Addr) (c : Nat) (l : List Int) (a : Int) (hl : l.length ≤ 1000000) (hc : l.length ≤ c) (hC : (Kd.int .i64).C w A l.length l) :
  Calls Tryz.prog 67 #[.slice A l.length c, .int .i64 a] w fun e w' => e = .returned (.bool (l.contains a)) ∧ Below w.heap.size w w' := by
 obtain ⟨k, hk⟩ := Ev.rounds (has_ev l a hl)
 refine (PAll.slices_Contains_int_int.calls k A c l a _ w hC hc hk).mono ?_
 rintro e w' ⟨rfl, hb⟩
 exact ⟨rfl, drawn_below hb⟩
theorem tin_any (h : TrM w g v st tr) (ha : Ahead st) (hl : st.length ≤ 1000) (a b : Int) : Calls Tryz.prog 71 #[.pointer (some ⟨g, 0, none⟩), .int .i64 a, .int .i64 b] w fun e w' => e = .returned (.bool (decide (0 ≤ b) && inC st a b)) ∧ Below w.heap.size w w' := by
 have H := Lib.hid h
 have HR : Hid ((upP st a).contains b = (decide (0 ≤ b) && inC st a b)) := Lib.hid (tin_eq ha a b)
 have HA := Lib.hid ha
 have hlen : (upP st a).length ≤ 1000000 := by
  by_cases c : thS st a
  ·have := upF_len st (a.toNat + 1) a
   have := c.1
   have := c.2
   unfold upP; omega
  ·rw [upP_eq ha, if_neg (fun h => c h.1)]; simp
 clear h ha
 go_enter Tryz.func71, Tryz.ntmps71
 go_wp2_with fail
 refine (tup_any H.out HA.out hl a).mono ?_
 rintro e w1 ⟨u, rfl, hu, hb1⟩
 obtain ⟨A, cap, rfl⟩ := Kd.R_slice hu
 obtain ⟨_, hcap, hC⟩ := Kd.R_reads' hu
 have HC := Lib.hid hC
 have HB1 := Lib.hid hb1
 clear hu hC hb1
 go_wp2_with fail
 refine (thas_any A cap (upP st a) b hlen hcap HC.out).mono ?_
 rintro e w2 ⟨rfl, hb2⟩
 go_wp2_with fail
 go_ret
 exact ⟨by rw [← HR.out]; simp, below_then HB1.out HB1.out.size hb2⟩
end
def setN (st : List Sta) (p : Int → Bool) : Nat → Nat
 | 0 => 0
 | n + 1 => setN st p n + if (rdS st (n : Int)).f0 < 5 ∧ p (n : Int) = true then 2 ^ n else 0
theorem setN_lt (st : List Sta) (p : Int → Bool) (n : Nat) : setN st p n < 2 ^ n := by
 induction n with
 | zero => simp [setN]
 | succ n ih =>
  simp only [setN]
  rw [Nat.pow_succ]
  split <;> omega
theorem or_new {x q : Nat} (h : x < 2 ^ q) (hq : q < 32) : bits .or .u32 (x : Int) (2 ^ q % 4294967296) = ((x + 2 ^ q : Nat) : Int) := by
 have h2 : 2 ^ q < 4294967296 := Nat.lt_of_lt_of_le (Nat.pow_lt_pow_right (by omega) hq) (by decide)
 have h3 : ((2 : Int) ^ q % 4294967296) = ((2 ^ q : Nat) : Int) := by
  have : ((2 : Int) ^ q) = ((2 ^ q : Nat) : Int) := by simp
  rw [this]
  omega
 rw [h3, u32_or_nat x (2 ^ q) (by omega) h2, Nat.or_comm]
 have := Nat.two_pow_add_eq_or_of_lt h 1
 rw [Nat.mul_one] at this
 rw [← this, Nat.add_comm]
def Asks (F : Nat) (g1 g2 : Nat) (w : World) (n : Nat) (p : Int → Bool) : Prop :=
 ∀ wr, Below w.heap.size w wr → ∀ s : Nat, s < n → Calls Tryz.prog F #[.int .i64 (s : Int), .pointer (some ⟨g1, 0, none⟩), .pointer (some ⟨g2, 0, none⟩)] wr fun e w' => e = .returned (.bool (p (s : Int))) ∧ Below wr.heap.size wr w'
section
variable {g : Nat} {v : Int} {st : List Sta} {tr : List Tra} {w : World}
theorem tset_any (h : TrM w g v st tr) (hl : st.length ≤ 24) (F g1 g2 : Nat) (hrun : ∀ args w, (callFunc F args).run Tryz.prog w = .ok (.enter F args) w) (p : Int → Bool) (hp : Asks F g1 g2 w st.length p) :
  Calls Tryz.prog 85 #[.pointer (some ⟨g, 0, none⟩), .func (.func F) #[] #[.pointer (some ⟨g1, 0, none⟩), .pointer (some ⟨g2, 0, none⟩)]] w fun e w' => e = .returned (.int .u32 (setN st p st.length : Nat)) ∧ Below w.heap.size w w' := by
 have HP := Lib.hid hp
 obtain ⟨A, ca, B, cb, h1, h2⟩ := h
 have y1 : w.cell? ⟨g, 1, none⟩ = some (.slice A st.length ca) := blk_cell h1 1
 have HCs := Lib.hid h2.cs
 clear hp h1 h2
 go_enter Tryz.func85, Tryz.ntmps85
 go_wp2_with fail
 go_loopw [5, 14] (fun o x wr => ∃ q : Nat, x = .int .i64 q ∧ q ≤ st.length ∧ o = .int .u32 (setN st p q : Nat) ∧ Hid (Below w.heap.size w wr)) (fun _ x _ => st.length - (intOf x).toNat)
 case atStart => exact ⟨0, rfl, Nat.zero_le _, rfl, Lib.hid (Below.refl _ _)⟩
 case round =>
  obtain ⟨q, rfl, hq, rfl, HB⟩ := hrel
  by_cases hlt : q < st.length
  ·have p1 : ((q : Int) < (st.length : Int)) = True := eq_true (by omega)
   obtain ⟨ad, A2, c2, A3, c3, A4, c4, rfl, q0, q1, q2, q3, q4, _⟩ := PAll.at_T93 (Kd.C_below HCs.out HB.out) (q : Int) (by omega) (by omega)
   rw [Int.toNat_natCast] at q0 q1 q2 q3 q4
   have HAl := Lib.hid ((HB.out.alloc HB.out.size (.cells #[.int .i64 (PAll.rd_T93 st q).f0, .int .i64 (PAll.rd_T93 st q).f1, .slice A2 (PAll.rd_T93 st q).f2.length c2, .slice A3 (PAll.rd_T93 st q).f3.length c3, .slice A4 (PAll.rd_T93 st q).f4.length c4] 93)))
   by_cases hk : (PAll.rd_T93 st q).f0 < 5
   ·have d1 : decide ((PAll.rd_T93 st q).f0 < 5) = true := decide_eq_true hk
    go_wp2_with fail
    refine (HP.out _ HAl.out q hlt).mono ?_
    cases hpq : p (q : Int) with
    | true =>
     have HS : Hid (setN st p (q + 1) = setN st p q + 2 ^ q) := Lib.hid (by simp only [setN]; rw [if_pos ⟨hk, hpq⟩])
     have HLt := Lib.hid (setN_lt st p q)
     have hq24 : q < 32 := by omega
     clear hpq
     rintro e w2 ⟨rfl, hb2⟩
     have HB2 := Lib.hid (below_then HAl.out HAl.out.size hb2)
     clear hb2
     go_wp2_with fail
     go_roundw
     case rel => exact ⟨q + 1, by go_num, by omega, by rw [HS.out, or_new HLt.out hq24], HB2⟩
     case measure => simp [intOf]; omega
    | false =>
     have HS : Hid (setN st p (q + 1) = setN st p q) := Lib.hid (by simp only [setN]; rw [if_neg (fun h => by rw [hpq] at h; cases h.2)]; rfl)
     clear hpq
     rintro e w2 ⟨rfl, hb2⟩
     have HB2 := Lib.hid (below_then HAl.out HAl.out.size hb2)
     clear hb2
     go_wp2_with fail
     go_roundw
     case rel => exact ⟨q + 1, by go_num, by omega, by rw [HS.out], HB2⟩
     case measure => simp [intOf]; omega
   ·have d1 : decide ((PAll.rd_T93 st q).f0 < 5) = false := decide_eq_false hk
    have HS : Hid (setN st p (q + 1) = setN st p q) := Lib.hid (by simp only [setN]; rw [if_neg (fun h => hk h.1)]; rfl)
    go_wp2_with fail
    go_roundw
    case rel => exact ⟨q + 1, by go_num, by omega, by rw [HS.out], HAl⟩
    case measure => simp [intOf]; omega
  ·obtain rfl : q = st.length := by omega
   have p1 : ((st.length : Int) < (st.length : Int)) = False := eq_false (by omega)
   go_wp2_with fail
   go_ret
   exact ⟨rfl, HB.out⟩
end
end Go.Proofs.YtcjlpkegkehghaaGreatDoor
end
section
namespace Go.Proofs.YtcjlpkegkehghaaGreatDoor
open Go.RowKit Go.Proofs.YtcjlpkegkehghaaGreatDoorW.PrintWords Go.Proofs.YtcjlpkegkehghaaGreatDoorW.PrintLast
open PX (T V)
abbrev inP (st : List Sta) (a b : Int) : Bool := decide (0 ≤ b) && inC st a b
section
variable {g : Nat} {v : Int} {st : List Sta} {tr : List Tra} {w : World}
theorem belfn_any (h : TrM w g v st tr) (ha : Ahead st) (hl : st.length ≤ 1000) (g1 g2 : Nat) (s x : Int) (h1 : w.heap[g1]? = some (.cells #[.pointer (some ⟨g, 0, none⟩)] 30 (0, 0))) (h2 : w.heap[g2]? = some (.cells #[.int .i64 s] 3 (0, 0))) :
  Calls Tryz.prog 86 #[.int .i64 x, .pointer (some ⟨g1, 0, none⟩), .pointer (some ⟨g2, 0, none⟩)] w fun e w' => e = .returned (.bool (inP st x s)) ∧ Below w.heap.size w w' := by
 have H := Lib.hid h
 have HA := Lib.hid ha
 have y1 : w.cell? ⟨g1, 0, none⟩ = some (.pointer (some ⟨g, 0, none⟩)) := blk_cell h1 0
 have y2 : w.cell? ⟨g2, 0, none⟩ = some (.int .i64 s) := blk_cell h2 0
 clear h ha h1 h2
 go_enter Tryz.func86, Tryz.ntmps86
 go_wp2_with fail
 refine (tin_any H.out HA.out hl x s).mono ?_
 rintro e w1 ⟨rfl, hb1⟩
 go_wp2_with fail
 go_ret
 exact ⟨rfl, hb1⟩
theorem joinfn_any (h : TrM w g v st tr) (ha : Ahead st) (hl : st.length ≤ 1000) (g1 g2 : Nat) (s x : Int) (h1 : w.heap[g1]? = some (.cells #[.pointer (some ⟨g, 0, none⟩)] 30 (0, 0))) (h2 : w.heap[g2]? = some (.cells #[.int .i64 s] 3 (0, 0))) :
  Calls Tryz.prog 82 #[.int .i64 x, .pointer (some ⟨g1, 0, none⟩), .pointer (some ⟨g2, 0, none⟩)] w fun e w' => e = .returned (.bool (!inP st x s)) ∧ Below w.heap.size w w' := by
 have H := Lib.hid h
 have HA := Lib.hid ha
 have y1 : w.cell? ⟨g1, 0, none⟩ = some (.pointer (some ⟨g, 0, none⟩)) := blk_cell h1 0
 have y2 : w.cell? ⟨g2, 0, none⟩ = some (.int .i64 s) := blk_cell h2 0
 clear h ha h1 h2
 go_enter Tryz.func82, Tryz.ntmps82
 go_wp2_with fail
 refine (tin_any H.out HA.out hl x s).mono ?_
 rintro e w1 ⟨rfl, hb1⟩
 go_wp2_with fail
 go_ret
 exact ⟨by simp [inP], hb1⟩
def belP (st : List Sta) (s : Int) : Nat := setN st (fun x => inP st x s) st.length
theorem tbel_any (h : TrM w g v st tr) (ha : Ahead st) (hl : st.length ≤ 24) (s : Int) :
  Calls Tryz.prog 35 #[.pointer (some ⟨g, 0, none⟩), .int .i64 s] w fun e w' => e = .returned (.int .u32 (belP st s : Nat)) ∧ Below w.heap.size w w' := by
 have hmf : ∀ (fn : Fn) (first cap : Array Value) (w : World), (Instr.makeFunc fn first cap).run Tryz.prog w = .ok (.func fn first cap) w := fun _ _ _ _ => rfl
 have hrun : ∀ args w, (callFunc 86 args).run Tryz.prog w = .ok (.enter 86 args) w := fun _ _ => rfl
 have hb0 : Below w.heap.size w ((w.alloc (.cells #[.pointer (some ⟨g, 0, none⟩)] 30)).alloc (.cells #[.int .i64 s] 3)) := ((Below.refl _ w).alloc (Nat.le_refl _) _).alloc (by simp) _
 have HB0 := Lib.hid hb0
 obtain ⟨hk1, hk2, hlt0, hsz⟩ := boxed2 (Below.refl _ ((w.alloc (.cells #[.pointer (some ⟨g, 0, none⟩)] 30)).alloc (.cells #[.int .i64 s] 3)))
 have HK1 := Lib.hid hk1
 have HK2 := Lib.hid hk2
 have y1 : ((w.alloc (.cells #[.pointer (some ⟨g, 0, none⟩)] 30)).alloc (.cells #[.int .i64 s] 3)).cell? ⟨w.heap.size, 0, none⟩ = some (.pointer (some ⟨g, 0, none⟩)) := blk_cell hk1 0
 have H := Lib.hid (h.below hb0)
 have HA := Lib.hid ha
 clear h ha hb0 hk1 hk2
 go_enter Tryz.func35, Tryz.ntmps35
 go_wp2_with fail
 generalize (w.alloc (.cells #[.pointer (some ⟨g, 0, none⟩)] 30)).alloc (.cells #[.int .i64 s] 3) = w0 at HB0 HK1 HK2 y1 H hlt0 ⊢
 have HAs : Hid (Asks 86 w.heap.size (w.heap.size + 1) w0 st.length (fun x => inP st x s)) := Lib.hid (fun wr hb x hx => belfn_any (H.out.below hb) HA.out (by omega) w.heap.size (w.heap.size + 1) s x ((hb.block _ (lt_of_block HK1.out)).trans HK1.out) ((hb.block _ (lt_of_block HK2.out)).trans HK2.out))
 go_wp2_with fail
 refine (tset_any H.out hl 86 w.heap.size (w.heap.size + 1) hrun _ HAs.out).mono ?_
 rintro e w1 ⟨rfl, hb1⟩
 go_wp2_with fail
 go_ret
 exact ⟨rfl, below_then HB0.out HB0.out.size hb1⟩
end
theorem addr0 (a : Addr) : a.add 0 = a := by cases a; simp [Addr.add]
def firstAt (p : Int → Bool) : List Int → Int → Int
 | [], _ => -1
 | a :: l, i => if p a = true then i else firstAt p l (i + 1)
theorem firstAt_pos (p : Int → Bool) (l : List Int) : ∀ i : Int, 0 ≤ i → decide (firstAt p l i ≥ 0) = l.any p := by
 induction l with
 | nil => intro i h; rfl
 | cons a l ih =>
  intro i h
  simp only [List.any_cons]
  by_cases hp : p a = true
  ·have e : firstAt p (a :: l) i = i := if_pos hp
   rw [e, hp, Bool.true_or]; exact decide_eq_true h
  ·have e : firstAt p (a :: l) i = firstAt p l (i + 1) := if_neg hp
   rw [e, Bool.eq_false_iff.mpr hp, Bool.false_or]; exact ih (i + 1) (by omega)
def AsksL (F : Nat) (g1 g2 : Nat) (w : World) (l : List Int) (p : Int → Bool) : Prop :=
 ∀ wr, Below w.heap.size w wr → ∀ x, x ∈ l → Calls Tryz.prog F #[.int .i64 x, .pointer (some ⟨g1, 0, none⟩), .pointer (some ⟨g2, 0, none⟩)] wr fun e w' => e = .returned (.bool (p x)) ∧ Below wr.heap.size wr w'
section
variable {w : World}
theorem fidx_any (F g1 g2 : Nat) (hrun : ∀ args w, (callFunc F args).run Tryz.prog w = .ok (.enter F args) w) (S : Option Addr) (c : Nat) (l : List Int) (hS : (Kd.int .i64).C w S l.length l) (hc : l.length ≤ c) (hl : l.length ≤ 1000000) (p : Int → Bool) (hp : AsksL F g1 g2 w l p) :
  Calls Tryz.prog 133 #[.slice S l.length c, .func (.func F) #[] #[.pointer (some ⟨g1, 0, none⟩), .pointer (some ⟨g2, 0, none⟩)]] w fun e w' => e = .returned (.int .i64 (firstAt p l 0)) ∧ Below w.heap.size w w' := by
 have HP := Lib.hid hp
 have HS := Lib.hid hS
 clear hS hp
 go_enter Tryz.func133, Tryz.ntmps133
 go_wp2_with fail
 go_loopw [8] (fun i wr => ∃ q : Nat, i = .int .i64 q ∧ q ≤ l.length ∧ Hid (Below w.heap.size w wr) ∧ Hid (firstAt p l 0 = firstAt p (l.drop q) q)) (fun i _ => l.length - (intOf i).toNat)
 case atStart => exact ⟨0, rfl, Nat.zero_le _, Lib.hid (Below.refl _ _), Lib.hid (by simp)⟩
 case round =>
  obtain ⟨q, rfl, hq, HB, HE⟩ := hrel
  by_cases hlt : q < l.length
  ·obtain ⟨ad, rfl, a0⟩ := nums_at (Kd.C_below HS.out HB.out) q hlt
   have hds : l.drop q = l[q] :: l.drop (q + 1) := List.drop_eq_getElem_cons hlt
   have HE2 := HE.out
   rw [hds] at HE2
   have HMe := Lib.hid (show l[q] ∈ l from List.getElem_mem hlt)
   have p1 : ((q : Int) < (l.length : Int)) = True := eq_true (by omega)
   clear hds HE
   generalize l[q] = a at *
   have HE := Lib.hid HE2
   clear HE2
   go_wp2_with fail
   refine (HP.out _ HB.out a HMe.out).mono ?_
   cases hp : p a with
   | true =>
    have HE3 : Hid (firstAt p l 0 = (q : Int)) := Lib.hid (by have := HE.out; simp only [firstAt] at this; rw [if_pos hp] at this; exact this)
    clear hp
    rintro e w2 ⟨rfl, hb2⟩
    have HB2 := Lib.hid (below_then HB.out HB.out.size hb2)
    clear hb2 a0
    go_wp2_with fail
    go_ret
    exact ⟨by rw [HE3.out]; rfl, HB2.out⟩
   | false =>
    have HE3 : Hid (firstAt p l 0 = firstAt p (l.drop (q + 1)) ((q + 1 : Nat) : Int)) := Lib.hid (by have := HE.out; simp only [firstAt] at this; rw [if_neg (by rw [hp]; simp)] at this; rw [this]; rfl)
    clear hp
    rintro e w2 ⟨rfl, hb2⟩
    have HB2 := Lib.hid (below_then HB.out HB.out.size hb2)
    clear hb2 a0
    go_wp2_with fail
    go_roundw
    case rel => exact ⟨q + 1, by go_num, by omega, HB2, HE3⟩
    case measure => simp [intOf]; omega
  ·obtain rfl : q = l.length := by omega
   have HE3 : Hid (firstAt p l 0 = -1) := Lib.hid (by rw [HE.out, List.drop_length]; rfl)
   go_wp2_with fail
   go_ret
   exact ⟨by rw [HE3.out]; rfl, HB.out⟩
theorem fhas_any (F g1 g2 : Nat) (hrun : ∀ args w, (callFunc F args).run Tryz.prog w = .ok (.enter F args) w) (S : Option Addr) (c : Nat) (l : List Int) (hS : (Kd.int .i64).C w S l.length l) (hc : l.length ≤ c) (hl : l.length ≤ 1000000) (p : Int → Bool) (hp : AsksL F g1 g2 w l p) :
  Calls Tryz.prog 83 #[.slice S l.length c, .func (.func F) #[] #[.pointer (some ⟨g1, 0, none⟩), .pointer (some ⟨g2, 0, none⟩)]] w fun e w' => e = .returned (.bool (l.any p)) ∧ Below w.heap.size w w' := by
 have HP := Lib.hid hp
 have HS := Lib.hid hS
 have HR := Lib.hid (firstAt_pos p l 0 (Int.le_refl _))
 clear hS hp
 go_enter Tryz.func83, Tryz.ntmps83
 go_wp2_with fail
 refine (fidx_any F g1 g2 hrun S c l HS.out hc hl p HP.out).mono ?_
 rintro e w1 ⟨rfl, hb1⟩
 go_wp2_with fail
 go_ret
 exact ⟨by rw [← HR.out]; rfl, hb1⟩
end
def joinF (st : List Sta) (l : List Int) : List Int → Int
 | [] => -1
 | s :: r => if kindP st s = 2 ∧ l.any (fun x => !inP st x s) = false then s else joinF st l r
def joinP (st : List Sta) (l : List Int) : Int := match l with | [] => -1 | a :: _ => joinF st l (upP st a)
section
variable {g : Nat} {v : Int} {st : List Sta} {tr : List Tra} {w : World}
theorem tjoin_any (h : TrM w g v st tr) (ha : Ahead st) (hl : st.length ≤ 1000) (S : Option Addr) (c : Nat) (l : List Int) (hS : (Kd.int .i64).C w S l.length l) (hc : l.length ≤ c) (hll : l.length ≤ 1000000) :
  Calls Tryz.prog 32 #[.pointer (some ⟨g, 0, none⟩), .slice S l.length c] w fun e w' => e = .returned (.int .i64 (joinP st l)) ∧ Below w.heap.size w w' := by
 have hmf : ∀ (fn : Fn) (first cap : Array Value) (w : World), (Instr.makeFunc fn first cap).run Tryz.prog w = .ok (.func fn first cap) w := fun _ _ _ _ => rfl
 have hrun : ∀ args w, (callFunc 82 args).run Tryz.prog w = .ok (.enter 82 args) w := fun _ _ => rfl
 have hb0 : Below w.heap.size w (w.alloc (.cells #[.pointer (some ⟨g, 0, none⟩)] 30)) := (Below.refl _ w).alloc (Nat.le_refl _) _
 have HB0 := Lib.hid hb0
 have hk1 := blk_new w (.cells #[.pointer (some ⟨g, 0, none⟩)] 30)
 have HK1 := Lib.hid hk1
 have y1 : (w.alloc (.cells #[.pointer (some ⟨g, 0, none⟩)] 30)).cell? ⟨w.heap.size, 0, none⟩ = some (.pointer (some ⟨g, 0, none⟩)) := blk_cell hk1 0
 have H := Lib.hid (h.below hb0)
 have HA := Lib.hid ha
 have HS := Lib.hid (Kd.C_below hS hb0)
 clear h hb0 hk1 hS
 by_cases hz : l.length = 0
 ·obtain rfl : l = [] := List.eq_nil_of_length_eq_zero hz
  go_enter Tryz.func32, Tryz.ntmps32
  go_wp2_with fail
  go_ret
  exact ⟨rfl, HB0.out⟩
 have d1 : ((l.length : Int) == 0) = false := by rw [beq_eq_false_iff_ne]; omega
 have hpos : 0 < l.length := by omega
 obtain ⟨ad, rfl, a0⟩ := nums_at HS.out 0 hpos
 replace a0 : (w.alloc (.cells #[.pointer (some ⟨g, 0, none⟩)] 30)).cell? ad = some (.int .i64 (l[0]'hpos)) := by rw [addr0] at a0; exact a0
 have hup : (upP st (l[0]'hpos)).length ≤ 1000000 := by
  by_cases c : thS st (l[0]'hpos)
  ·have := upF_len st ((l[0]'hpos).toNat + 1) (l[0]'hpos)
   have := c.1
   have := c.2
   unfold upP; omega
  ·rw [upP_eq ha, if_neg (fun h => c h.1)]; simp
 have HJ : Hid (joinP st l = joinF st l (upP st (l[0]'hpos))) := Lib.hid (by cases l with | nil => simp at hz | cons a r => rfl)
 have p0 : ((0 : Int) < (l.length : Int)) = True := eq_true (by omega)
 have p0' : (0 < l.length) = True := eq_true (by omega)
 generalize l[0]'hpos = a at *
 clear hz hpos
 go_enter Tryz.func32, Tryz.ntmps32
 go_wp2_with fail
 generalize w.alloc (.cells #[.pointer (some ⟨g, 0, none⟩)] 30) = w0 at HB0 HK1 y1 H HS a0 ⊢
 have HB1 := Lib.hid (below_drew HB0.out)
 refine start_ (n := 7) (S := fun w' => w'.cell? ⟨w.heap.size, 0, none⟩ = some (.pointer (some ⟨g, 0, none⟩)) ∧ w'.cell? ad = some (.int .i64 a)) (ds := [4]) (tf7 0) (by kernel_rfl) rfl (by kernel_rfl) ⟨y1, a0⟩ (fun hHeld => ?_)
 refine nxt_ (v := ?_) (a' := ?_) rfl rfl (by kernel_rfl) (fun _ _ _ h => h) (Or.inl ⟨by rfl, ?_⟩) hHeld ?_ ?_
 rotate_left
 ·rintro w' ⟨s0, s1⟩
  go_simp
  first | done | with_reducible rfl
 rotate_left
 ·simp only [Act.put, List.setIfInBounds_toArray, List.set_cons_zero, List.set_cons_succ, i64_w, i32_w]
  first | done | rfl
 iterate 2
  refine pxt_ (v := ?_) (a' := ?_) rfl rfl (by kernel_rfl) (fun _ _ _ h => h) (Or.inl ⟨by rfl, ?_⟩) ?_ ?_
  rotate_left
  ·intro w'
   go_simp
   first | done | with_reducible rfl
  rotate_left
  ·simp only [Act.put, List.setIfInBounds_toArray, List.set_cons_zero, List.set_cons_succ, i64_w, i32_w]
   first | done | rfl
 refine nxt_ (v := ?_) (a' := ?_) rfl rfl (by kernel_rfl) (fun _ _ _ h => h) (Or.inl ⟨by rfl, ?_⟩) hHeld ?_ ?_
 rotate_left
 ·rintro w' ⟨s0, s1⟩
  go_simp
  first | done | with_reducible rfl
 rotate_left
 ·simp only [Act.put, List.setIfInBounds_toArray, List.set_cons_zero, List.set_cons_succ, i64_w, i32_w]
  first | done | rfl
 refine pure_ (i := 6) (N := some 17) (v := ?_) (a' := ?_) (bm7 79) rfl rfl (by kernel_rfl) (fun _ _ _ h => h) (Or.inl ⟨by rfl, ?_⟩) ?_ ?_
 rotate_left
 ·intro w'
  go_simp
  with_reducible rfl
 rotate_left
 ·simp only [Act.put, List.setIfInBounds_toArray, List.set_cons_zero, List.set_cons_succ, i64_w, i32_w]
  rfl
 refine last_ (i := 4) (N := some 15) (bm7 95) rfl rfl (by kernel_rfl) (by decide) (fun K hK => ?_)
 refine goes_ Tryz.func29 (by kernel_rfl) rfl #[.pointer (some ⟨g, 0, none⟩), .int .i64 a] (by rfl) rfl rfl (by first | rfl | (go_simp; done) | (go_simp; exact ⟨rfl, rfl⟩) | (go_simp; rfl)) ?_
 refine (tup_any (H.out.below (below_drew (Below.refl _ _))) HA.out hl a).mono ?_
 rintro e1 w1 ⟨u, rfl, hu, hb⟩
 refine ⟨_, rfl, hK.out _ _ ?_⟩
 clear hK K
 obtain ⟨B, cap, rfl⟩ := Kd.R_slice hu
 obtain ⟨_, hcap, hC⟩ := Kd.R_reads' hu
 have HC := Lib.hid hC
 have HB2 := Lib.hid (HB1.out.trans (hb.mono HB1.out.size))
 have HH := Lib.hid (H.out.below (Below.trans (below_drew (Below.refl _ _)) hb))
 have HS2 := Lib.hid (Kd.C_below HS.out (Below.trans (below_drew (Below.refl _ _)) hb))
 have HK2 := Lib.hid ((hb.block _ (lt_of_block HK1.out)).trans HK1.out)
 clear hb hu hC
 refine pure_ (i := 5) (N := some 16) (v := ?_) (a' := ?_) (tf7 7) rfl rfl (by kernel_rfl) (fun _ _ _ h => h) (Or.inl ⟨by rfl, ?_⟩) ?_ ?_
 rotate_left
 ·intro w'
  go_simp
  with_reducible rfl
 rotate_left
 ·simp only [Act.put, List.setIfInBounds_toArray, List.set_cons_zero, List.set_cons_succ, i64_w, i32_w]
  rfl
 refine done_ (by kernel_rfl) ?_
 go_wp2_with fail
 clear H HS HK1 HB0 HB1 y1 a0 hHeld
 go_loopw [17] (fun i wr => ∃ q : Nat, i = .int .i64 q ∧ q ≤ (upP st a).length ∧ Hid (Below w1.heap.size w1 wr) ∧ Hid (joinP st l = joinF st l ((upP st a).drop q))) (fun i _ => (upP st a).length - (intOf i).toNat)
 case atStart => exact ⟨0, rfl, Nat.zero_le _, Lib.hid (Below.refl _ _), Lib.hid (by rw [HJ.out, List.drop_zero])⟩
 case round =>
  clear HJ
  obtain ⟨q, rfl, hq, HB, HE⟩ := hrel
  have hfin : Below w.heap.size w wr := below_then HB2.out HB2.out.size HB.out
  have HFin := Lib.hid hfin
  clear hfin
  by_cases hlt : q < (upP st a).length
  ·obtain ⟨ad2, rfl, a1⟩ := nums_at (Kd.C_below HC.out HB.out) q hlt
   have hds : (upP st a).drop q = (upP st a)[q] :: (upP st a).drop (q + 1) := List.drop_eq_getElem_cons hlt
   have HE2 := HE.out
   rw [hds] at HE2
   have p1 : ((q : Int) < ((upP st a).length : Int)) = True := eq_true (by omega)
   clear hds HE
   generalize (upP st a)[q] = s at *
   have HE := Lib.hid HE2
   clear HE2
   have hal : Below wr.heap.size wr (wr.alloc (.cells #[.int .i64 s] 3)) := (Below.refl _ wr).alloc (Nat.le_refl _) _
   have hk3 := blk_new wr (.cells #[.int .i64 s] 3)
   have HAl := Lib.hid hal
   have HK3 := Lib.hid hk3
   have HK4 := Lib.hid ((hal.block _ (by have := HB.out.size; have := lt_of_block HK2.out; omega)).trans ((HB.out.block _ (lt_of_block HK2.out)).trans HK2.out))
   have z1 : (wr.alloc (.cells #[.int .i64 s] 3)).cell? ⟨w.heap.size, 0, none⟩ = some (.pointer (some ⟨g, 0, none⟩)) := blk_cell HK4.out 0
   have z2 : (wr.alloc (.cells #[.int .i64 s] 3)).cell? ⟨wr.heap.size, 0, none⟩ = some (.int .i64 s) := blk_cell hk3 0
   clear hal hk3
   go_wp2_with fail
   generalize wr.alloc (.cells #[.int .i64 s] 3) = w2 at HAl HK3 HK4 z1 z2 ⊢
   have HH2 := Lib.hid (HH.out.below (below_then HB.out HB.out.size HAl.out))
   have HBb := Lib.hid (below_then HB.out HB.out.size HAl.out)
   refine (tkind_any HH2.out s).mono ?_
   rintro e3 w3 ⟨rfl, hb3⟩
   have HB3 := Lib.hid (below_then HBb.out HBb.out.size hb3)
   have HH3 := Lib.hid (HH2.out.below hb3)
   have HK33 := Lib.hid ((hb3.block _ (lt_of_block HK3.out)).trans HK3.out)
   have HK34 := Lib.hid ((hb3.block _ (lt_of_block HK4.out)).trans HK4.out)
   have z3 : w3.cell? ⟨wr.heap.size, 0, none⟩ = some (.int .i64 s) := blk_cell HK33.out 0
   clear hb3 z1 z2
   by_cases hk : kindP st s = 2
   ·have d2 : (kindP st s == 2) = true := by simp [hk]
    have HAs : Hid (AsksL 82 w.heap.size wr.heap.size w3 l (fun x => !inP st x s)) := Lib.hid (fun wx hb x hx => joinfn_any (HH3.out.below hb) HA.out hl w.heap.size wr.heap.size s x ((hb.block _ (lt_of_block HK34.out)).trans HK34.out) ((hb.block _ (lt_of_block HK33.out)).trans HK33.out))
    go_wp2_with fail
    refine (fhas_any 82 w.heap.size wr.heap.size hrun (some ad) c l (Kd.C_below HS2.out HB3.out) hc hll _ HAs.out).mono ?_
    cases hany : l.any (fun x => !inP st x s) with
    | false =>
     have HR : Hid (joinP st l = s) := Lib.hid (by rw [HE.out]; simp only [joinF]; rw [if_pos ⟨hk, hany⟩])
     clear hany hk
     rintro e4 w4 ⟨rfl, hb4⟩
     have z4 : w4.cell? ⟨wr.heap.size, 0, none⟩ = some (.int .i64 s) := blk_cell ((hb4.block _ (lt_of_block HK33.out)).trans HK33.out) 0
     have HB4 := Lib.hid (below_then HB3.out HB3.out.size hb4)
     clear hb4
     go_wp2_with fail
     go_ret
     exact ⟨by rw [HR.out]; rfl, below_then HB2.out HB2.out.size HB4.out⟩
    | true =>
     have HR : Hid (joinP st l = joinF st l ((upP st a).drop (q + 1))) := Lib.hid (by rw [HE.out]; simp only [joinF]; rw [if_neg (fun h => by rw [hany] at h; cases h.2)])
     clear hany hk
     rintro e4 w4 ⟨rfl, hb4⟩
     have HB4 := Lib.hid (below_then HB3.out HB3.out.size hb4)
     clear hb4
     go_wp2_with fail
     go_roundw
     case rel => exact ⟨q + 1, by go_num, by omega, HB4, HR⟩
     case measure => simp [intOf]; omega
   ·have d2 : (kindP st s == 2) = false := by simp [hk]
    have HR : Hid (joinP st l = joinF st l ((upP st a).drop (q + 1))) := Lib.hid (by rw [HE.out]; simp only [joinF]; rw [if_neg (fun h => hk h.1)])
    go_wp2_with fail
    go_roundw
    case rel => exact ⟨q + 1, by go_num, by omega, HB3, HR⟩
    case measure => simp [intOf]; omega
  ·obtain rfl : q = (upP st a).length := by omega
   have HR : Hid (joinP st l = -1) := Lib.hid (by rw [HE.out, List.drop_length]; rfl)
   go_wp2_with fail
   go_ret
   exact ⟨by rw [HR.out]; rfl, HFin.out⟩
end
end Go.Proofs.YtcjlpkegkehghaaGreatDoor
end
section
namespace Go.Proofs.YtcjlpkegkehghaaGreatDoor
open Go.RowKit Go.Proofs.YtcjlpkegkehghaaGreatDoorW.PrintWords
abbrev rdT (tr : List Tra) (i : Int) : Tra := PAll.rd_T46 tr i
abbrev thT (tr : List Tra) (i : Int) : Prop := 0 ≤ i ∧ i < (tr.length : Int)
def lvN (st : List Sta) (set : Nat) : Nat → List Int
 | 0 => []
 | q + 1 => lvN st set q ++ if set.testBit q = true ∧ ((rdS st (q : Int)).f0 = 1 ∨ (rdS st (q : Int)).f0 = 4) then [(q : Int)] else []
def lvP (st : List Sta) (set : Nat) : List Int := lvN st set st.length
def reaP (st : List Sta) (tr : List Tra) (i : Int) : Int :=
 if ¬ thT tr i ∨ (rdT tr i).f3 = [] then -1
 else if (rdT tr i).f4 = true ∧ kindP st (rdT tr i).f0 = 2 ∧ ((rdT tr i).f3.map (ownP st)).any (fun s => !inP st s (rdT tr i).f0) = false then (rdT tr i).f0
 else joinP st ((rdT tr i).f3.map (ownP st) ++ [(rdT tr i).f0])
def leaP (st : List Sta) (tr : List Tra) (set : Nat) (i : Int) : Nat := if reaP st tr i = -1 then 0 else set &&& belP st (reaP st tr i)
def claP (st : List Sta) (tr : List Tra) (set : Nat) (i k : Int) : Bool := decide (leaP st tr set i &&& leaP st tr set k ≠ 0)
noncomputable def rdyP (x : Tra) (env : List Int) (ev : Int) : Bool × Bool :=
 if x.f1 ≠ ev ∨ x.f2.toList.isEmpty = true then (x.f1 == ev, false)
 else if (ofR (parseT x.f2) env).2.ok && (ofR (parseT x.f2) env).1.1 == 2 then ((ofR (parseT x.f2) env).1.2 == 1, false) else (false, true)
def one01 (b : Bool) (n : Nat) : Nat := if b = true then n + 1 else n
noncomputable def scT (env : List Int) (ev s : Int) : List Tra → Int → Nat → Int × Nat
 | [], _, n => (-1, n)
 | x :: r, i, n => if x.f0 ≠ s then scT env ev s r (i + 1) n else if (rdyP x env ev).1 = true then (i, one01 (rdyP x env ev).2 n) else scT env ev s r (i + 1) (one01 (rdyP x env ev).2 n)
noncomputable def scS (tr : List Tra) (env : List Int) (ev : Int) : List Int → Nat → Int × Nat
 | [], n => (-1, n)
 | s :: r, n => if 0 ≤ (scT env ev s tr 0 n).1 then scT env ev s tr 0 n else scS tr env ev r (scT env ev s tr 0 n).2
def addI (out : List Int) (i : Int) : List Int := if i < 0 ∨ out.contains i = true then out else out ++ [i]
noncomputable def gaF (st : List Sta) (tr : List Tra) (env : List Int) (ev : Int) : List Int → List Int → Nat → List Int × Nat
 | [], out, n => (out, n)
 | a :: r, out, n => gaF st tr env ev r (addI out (scS tr env ev (a :: upP st a) n).1) (scS tr env ev (a :: upP st a) n).2
noncomputable def gaP (st : List Sta) (tr : List Tra) (set : Nat) (env : List Int) (ev : Int) : List Int × Nat := gaF st tr env ev (lvP st set) [] 0
def siK (st : List Sta) (tr : List Tra) (set : Nat) (i : Int) : List Int → List Int → Bool × List Int
 | [], g => (true, g)
 | k :: r, g => if claP st tr set i k = false then siK st tr set i r g else if inP st (rdT tr i).f0 (rdT tr k).f0 = false then (false, g) else siK st tr set i r (g ++ [k])
def sift (kept g : List Int) (i : Int) : List Int := kept.filter (fun k => !g.contains k) ++ [i]
def siF (st : List Sta) (tr : List Tra) (set : Nat) : List Int → List Int → List Int
 | [], kept => kept
 | i :: r, kept => if ¬ thT tr i then siF st tr set r kept else siF st tr set r (if (siK st tr set i kept []).1 = true then sift kept (siK st tr set i kept []).2 i else kept)
def siP (st : List Sta) (tr : List Tra) (set : Nat) (l : List Int) : List Int := siF st tr set l []
section
variable {st : List Sta} {tr : List Tra} {set : Nat} {env : List Int} {ev : Int}
theorem rdT_at {tr : List Tra} {i : Nat} (h : i < tr.length) : rdT tr (i : Int) = tr[i] := by
 simp [rdT, PAll.rd_T46, List.getD_eq_getElem?_getD, List.getElem?_eq_getElem h]
theorem rdy_fine {x : Tra} (h : (rdyP x env ev).1 = true) : (rdyP x env ev).2 = false := by
 unfold rdyP at h ⊢
 split
 ·rfl
 ·rename_i c
  rw [if_neg c] at h
  split
  ·rfl
  ·rename_i c2; rw [if_neg c2] at h; cases h
theorem rdy_bare {x : Tra} (h : x.f2.toList.isEmpty = true) : (rdyP x env ev).2 = false := by
 unfold rdyP; rw [if_pos (.inr h)]
theorem scT_ok (s : Int) (full : List Tra) (r : List Tra) : ∀ (i n : Nat), full.drop i = r → 0 ≤ (scT env ev s r i n).1 →
  thT full (scT env ev s r i n).1 ∧ (rdT full (scT env ev s r i n).1).f0 = s ∧ (rdyP (rdT full (scT env ev s r i n).1) env ev).1 = true := by
 induction r with
 | nil => intro i n _ h; simp only [scT] at h; omega
 | cons x r ih =>
  intro i n hd h
  have hi : i < full.length := by
   refine Nat.lt_of_not_le (fun hn => ?_)
   rw [List.drop_eq_nil_of_le hn] at hd; cases hd
  have hx : full[i] = x := by rw [List.drop_eq_getElem_cons hi] at hd; exact (List.cons.inj hd).1
  have hr : full.drop (i + 1) = r := by rw [List.drop_eq_getElem_cons hi] at hd; exact (List.cons.inj hd).2
  simp only [scT] at h ⊢
  by_cases c : x.f0 ≠ s
  ·rw [if_pos c] at h ⊢
   have := ih (i + 1) n hr (by simpa using h)
   simpa using this
  ·rw [if_neg c] at h ⊢
   by_cases c2 : (rdyP x env ev).1 = true
   ·rw [if_pos c2]
    refine ⟨⟨by omega, by simp only; omega⟩, ?_, ?_⟩
    ·simp only; rw [rdT_at hi, hx]; exact Classical.not_not.1 c
    ·simp only; rw [rdT_at hi, hx]; exact c2
   ·rw [if_neg c2] at h ⊢
    have := ih (i + 1) (one01 (rdyP x env ev).2 n) hr (by simpa using h)
    simpa using this
theorem scT_none (s : Int) (r : List Tra) : ∀ (i : Int) (n : Nat), (∀ x ∈ r, x.f2.toList.isEmpty = true) → (scT env ev s r i n).2 = n := by
 induction r with
 | nil => intro i n _; rfl
 | cons x r ih =>
  intro i n h
  have hb := rdy_bare (env := env) (ev := ev) (h x (List.mem_cons_self ..))
  have hr := fun m => ih (i + 1) m (fun y hy => h y (List.mem_cons_of_mem _ hy))
  simp only [scT, hb]
  split
  ·exact hr n
  ·split
   ·rfl
   ·exact hr n
theorem scS_ok (l : List Int) : ∀ n : Nat, 0 ≤ (scS tr env ev l n).1 → thT tr (scS tr env ev l n).1 ∧ (rdT tr (scS tr env ev l n).1).f0 ∈ l ∧ (rdyP (rdT tr (scS tr env ev l n).1) env ev).1 = true := by
 induction l with
 | nil => intro n h; simp only [scS] at h; omega
 | cons s l ih =>
  intro n h
  simp only [scS] at h ⊢
  by_cases c : 0 ≤ (scT env ev s tr 0 n).1
  ·rw [if_pos c]
   obtain ⟨h1, h2, h3⟩ := scT_ok (env := env) (ev := ev) s tr tr 0 n rfl c
   exact ⟨h1, List.mem_cons.2 (.inl h2), h3⟩
  ·rw [if_neg c] at h ⊢
   obtain ⟨h1, h2, h3⟩ := ih _ h
   exact ⟨h1, List.mem_cons_of_mem _ h2, h3⟩
theorem scS_none (hg : ∀ x ∈ tr, x.f2.toList.isEmpty = true) (l : List Int) : ∀ n : Nat, (scS tr env ev l n).2 = n := by
 induction l with
 | nil => intro n; rfl
 | cons s l ih =>
  intro n
  have h := fun m => scT_none (env := env) (ev := ev) s tr 0 m hg
  simp only [scS]
  split
  ·exact h n
  ·rw [ih, h n]
def GaOk (st : List Sta) (tr : List Tra) (set : Nat) (env : List Int) (ev : Int) (i : Int) : Prop :=
 thT tr i ∧ (rdyP (rdT tr i) env ev).1 = true ∧ ∃ a, a ∈ lvP st set ∧ (rdT tr i).f0 ∈ a :: upP st a
theorem gaF_ok (l : List Int) : ∀ (out : List Int) (n : Nat), (∀ a ∈ l, a ∈ lvP st set) → out.Nodup → (∀ i ∈ out, GaOk st tr set env ev i) →
  (gaF st tr env ev l out n).1.Nodup ∧ ∀ i ∈ (gaF st tr env ev l out n).1, GaOk st tr set env ev i := by
 induction l with
 | nil => intro out n _ h1 h2; exact ⟨h1, h2⟩
 | cons a l ih =>
  intro out n ha h1 h2
  simp only [gaF]
  have hsc := scS_ok (tr := tr) (env := env) (ev := ev) (a :: upP st a) n
  have hn : (addI out (scS tr env ev (a :: upP st a) n).1).Nodup ∧ ∀ i ∈ addI out (scS tr env ev (a :: upP st a) n).1, GaOk st tr set env ev i := by
   unfold addI
   split
   ·exact ⟨h1, h2⟩
   ·rename_i c
    have c1 : 0 ≤ (scS tr env ev (a :: upP st a) n).1 := by
     refine Int.not_lt.1 (fun h => c (.inl h))
    have c2 : (scS tr env ev (a :: upP st a) n).1 ∉ out := fun h => c (.inr (by simpa using h))
    obtain ⟨k1, k2, k3⟩ := hsc c1
    refine ⟨List.nodup_append.2 ⟨h1, by simp, fun x hx y hy => ?_⟩, fun i hi => ?_⟩
    ·rw [List.mem_singleton] at hy; subst hy; intro e; exact c2 (e ▸ hx)
    ·rcases List.mem_append.1 hi with hi | hi
     ·exact h2 i hi
     ·rw [List.mem_singleton] at hi; subst hi
      exact ⟨k1, k3, a, ha a (List.mem_cons_self ..), k2⟩
  exact ih _ _ (fun b hb => ha b (List.mem_cons_of_mem _ hb)) hn.1 hn.2
theorem ga_ok : (gaP st tr set env ev).1.Nodup ∧ ∀ i ∈ (gaP st tr set env ev).1, GaOk st tr set env ev i :=
 gaF_ok (lvP st set) [] 0 (fun a h => h) List.nodup_nil (fun i h => by cases h)
theorem gaF_none (hg : ∀ x ∈ tr, x.f2.toList.isEmpty = true) (l : List Int) : ∀ (out : List Int) (n : Nat), (gaF st tr env ev l out n).2 = n := by
 induction l with
 | nil => intro out n; rfl
 | cons a l ih => intro out n; simp only [gaF]; rw [ih, scS_none hg]
theorem ga_none (hg : ∀ x ∈ tr, x.f2.toList.isEmpty = true) : (gaP st tr set env ev).2 = 0 := gaF_none hg _ _ _
theorem siK_ok (i : Int) (l : List Int) : ∀ g : List Int, (siK st tr set i l g).1 = true → (∀ k ∈ g, k ∈ (siK st tr set i l g).2) ∧ ∀ k ∈ l, claP st tr set i k = true → k ∈ (siK st tr set i l g).2 := by
 induction l with
 | nil => intro g _; exact ⟨fun k h => h, fun k h => by cases h⟩
 | cons k l ih =>
  intro g h
  simp only [siK] at h ⊢
  by_cases c : claP st tr set i k = false
  ·rw [if_pos c] at h ⊢
   obtain ⟨h1, h2⟩ := ih g h
   refine ⟨h1, fun j hj hc => ?_⟩
   rcases List.mem_cons.1 hj with rfl | hj
   ·rw [c] at hc; cases hc
   ·exact h2 j hj hc
  ·rw [if_neg c] at h ⊢
   by_cases c2 : inP st (rdT tr i).f0 (rdT tr k).f0 = false
   ·rw [if_pos c2] at h; cases h
   ·rw [if_neg c2] at h ⊢
    obtain ⟨h1, h2⟩ := ih (g ++ [k]) h
    refine ⟨fun j hj => h1 j (List.mem_append_left _ hj), fun j hj hc => ?_⟩
    rcases List.mem_cons.1 hj with rfl | hj
    ·exact h1 _ (List.mem_append_right _ (List.mem_singleton.2 rfl))
    ·exact h2 j hj hc
def Apart (st : List Sta) (tr : List Tra) (set : Nat) (l : List Int) : Prop := l.Pairwise (fun k i => claP st tr set i k = false ∧ i ≠ k)
theorem siF_ok (L : List Int) (l : List Int) : ∀ kept : List Int, l.Nodup → (∀ i ∈ l, i ∉ kept) → Apart st tr set kept → (∀ i ∈ kept, i ∈ L) → (∀ i ∈ l, i ∈ L) →
  Apart st tr set (siF st tr set l kept) ∧ ∀ i ∈ siF st tr set l kept, i ∈ L := by
 induction l with
 | nil => intro kept _ _ h1 h2 _; exact ⟨h1, h2⟩
 | cons i l ih =>
  intro kept hnd hni hap hk hl
  have hnd' := (List.nodup_cons.1 hnd)
  simp only [siF]
  have hl' := fun j hj => hl j (List.mem_cons_of_mem _ hj)
  by_cases c : ¬ thT tr i
  ·rw [if_pos c]
   exact ih kept hnd'.2 (fun j hj => hni j (List.mem_cons_of_mem _ hj)) hap hk hl'
  ·rw [if_neg c]
   by_cases c2 : (siK st tr set i kept []).1 = true
   ·rw [if_pos c2]
    obtain ⟨_, hs⟩ := siK_ok i kept [] c2
    refine ih _ hnd'.2 (fun j hj hm => ?_) ?_ (fun j hj => ?_) hl'
    ·unfold sift at hm
     rcases List.mem_append.1 hm with hm | hm
     ·exact hni j (List.mem_cons_of_mem _ hj) (List.mem_filter.1 hm).1
     ·rw [List.mem_singleton] at hm; subst hm; exact hnd'.1 hj
    ·unfold sift Apart
     refine List.pairwise_append.2 ⟨List.Pairwise.filter _ hap, List.pairwise_singleton .., fun k hk2 j hj => ?_⟩
     rw [List.mem_singleton] at hj; subst hj
     obtain ⟨m1, m2⟩ := List.mem_filter.1 hk2
     refine ⟨Bool.eq_false_iff.2 (fun h => ?_), fun e => hni j (List.mem_cons_self ..) (e ▸ m1)⟩
     have := hs k m1 h
     simp only [Bool.not_eq_true', List.contains_eq_mem, decide_eq_false_iff_not] at m2
     exact m2 this
    ·unfold sift at hj
     rcases List.mem_append.1 hj with hj | hj
     ·exact hk j (List.mem_filter.1 hj).1
     ·rw [List.mem_singleton] at hj; subst hj; exact hl j (List.mem_cons_self ..)
   ·rw [if_neg c2]
    exact ih kept hnd'.2 (fun j hj => hni j (List.mem_cons_of_mem _ hj)) hap hk hl'
theorem si_ok {l : List Int} (hl : l.Nodup) : Apart st tr set (siP st tr set l) ∧ ∀ i ∈ siP st tr set l, i ∈ l :=
 siF_ok l l [] hl (fun i _ h => by cases h) List.Pairwise.nil (fun i h => by cases h) (fun i h => h)
theorem siF_some (l : List Int) : ∀ kept : List Int, kept ≠ [] → siF st tr set l kept ≠ [] := by
 induction l with
 | nil => intro kept h; exact h
 | cons i l ih =>
  intro kept h
  simp only [siF]
  split
  ·exact ih kept h
  ·refine ih _ ?_
   split
   ·unfold sift; simp
   ·exact h
theorem si_some {l : List Int} (hl : ∀ i ∈ l, thT tr i) (h : l ≠ []) : siP st tr set l ≠ [] := by
 cases l with
 | nil => exact absurd rfl h
 | cons i l =>
  unfold siP
  simp only [siF]
  rw [if_neg (fun h => h (hl i (List.mem_cons_self ..)))]
  have : (siK st tr set i [] []).1 = true := rfl
  rw [if_pos this]
  exact siF_some l _ (by unfold sift; simp)
end
end Go.Proofs.YtcjlpkegkehghaaGreatDoor
end
section
namespace Go.Proofs.YtcjlpkegkehghaaGreatDoor.Ent
structure Shp where
 n : Nat
 kind : Int → Int
 par : Int → Int
 ini : Int → Int
 kids : Int → List Int
 bel : Int → Nat
 up : Int → List Int
 stands : Int → List Int
abbrev ES := Nat × Nat
def has (S : Nat) (x : Int) : Prop := 0 ≤ x ∧ S.testBit x.toNat = true
def cnt (n : Nat) (S : Nat) : Nat := ((List.range n).filter (fun x => S.testBit x)).length
structure ShOk (sh : Shp) (In : Int → Int → Prop) : Prop where
 few : sh.n ≤ 24
 parent : ∀ s : Int, 0 < s → s < sh.n → 0 ≤ sh.par s ∧ sh.par s < s
 root : sh.par 0 = -1
 kinds : ∀ s : Int, 0 ≤ s → s < sh.n → 1 ≤ sh.kind s ∧ sh.kind s ≤ 6
 inner : ∀ s : Int, 0 < s → s < sh.n → sh.kind (sh.par s) = 2 ∨ sh.kind (sh.par s) = 3
 kid : ∀ s k : Int, k ∈ sh.kids s ↔ 0 < k ∧ k < sh.n ∧ sh.par k = s ∧ sh.kind k < 5
 some : ∀ s : Int, 0 ≤ s → s < sh.n → sh.kind s = 2 ∨ sh.kind s = 3 → ∃ k, k ∈ sh.kids s
 ins : ∀ a b : Int, In a b ↔ 0 < a ∧ a < sh.n ∧ 0 ≤ b ∧ (sh.par a = b ∨ In (sh.par a) b)
 below : ∀ s x : Int, has (sh.bel s) x ↔ In x s ∧ sh.kind x < 5
 ups : ∀ s : Int, 0 ≤ s → s < sh.n → sh.up s = if 0 < s then sh.par s :: sh.up (sh.par s) else []
 init : ∀ s : Int, 0 ≤ s → s < sh.n → sh.kind s = 2 → In (sh.ini s) s ∧ sh.kind (sh.ini s) < 5
 loss : ∃ L : Int → Nat, (∀ c : Int, L c ≤ 32) ∧ ∀ c : Int, 0 < c → c < sh.n → L (sh.par c) + (sh.kids (sh.par c)).length ≤ L c
section
variable {sh : Shp} {In : Int → Int → Prop} (ok : ShOk sh In)
include ok
abbrev at' (In : Int → Int → Prop) (x k : Int) : Prop := x = k ∨ In x k
end
def Cont (In : Int → Int → Prop) (S : Nat) (k : Int) : Prop := ∃ x, has S x ∧ at' In x k
structure Inv (sh : Shp) (In : Int → Int → Prop) (S : Nat) (E : Int → Prop) : Prop where
 sub : ∀ x : Int, has S x → x < sh.n ∧ sh.kind x < 5
 one : ∀ s : Int, 0 ≤ s → s < sh.n → sh.kind s = 2 → ∀ k j : Int, k ∈ sh.kids s → j ∈ sh.kids s → Cont In S k → Cont In S j → k = j
 need2 : ∀ s : Int, has S s → ¬ E s → sh.kind s = 2 → ∃ k, k ∈ sh.kids s ∧ Cont In S k
 need3 : ∀ s : Int, has S s → ¬ E s → sh.kind s = 3 → ∀ k : Int, k ∈ sh.kids s → Cont In S k
def pot (sh : Shp) (S : ES) : Nat := S.2 + 64 * cnt sh.n S.1
structure Dn (sh : Shp) (In : Int → Int → Prop) (E : Int → Prop) (S S' : ES) (s : Int) : Prop where
 inv : Inv sh In S'.1 E
 more : ∀ x : Int, has S.1 x → has S'.1 x
 self : has S'.1 s
 new : ∀ x : Int, has S'.1 x → has S.1 x ∨ x = s ∨ (In x s ∧ has S'.1 (sh.par x))
 left : S'.2 ≤ S.2
 pot : pot sh S ≤ pot sh S' + 1
end Go.Proofs.YtcjlpkegkehghaaGreatDoor.Ent
end
section
namespace Go.Proofs.YtcjlpkegkehghaaGreatDoor
open Go.RowKit Go.Proofs.YtcjlpkegkehghaaGreatDoorW.PrintWords
open PX (T V)
structure LaidZ (w : World) : Prop extends Laid w where
 tz : Lib.TabIs Tryz.prog w "math/bits.deBruijn32tab" .u8 (Lib.deBruijn32tab.map Int.ofNat)
end Go.Proofs.YtcjlpkegkehghaaGreatDoor
end
section
namespace Go.Proofs.YtcjlpkegkehghaaGreatDoor
open Go.RowKit Go.Proofs.YtcjlpkegkehghaaGreatDoorW.PrintWords
open PX (T V)
theorem few_s {st : List Sta} {tr : List Tra} (h : fewP st tr = true) : (∀ x ∈ st, x.f2.length ≤ 1000 ∧ x.f3.length ≤ 1000 ∧ x.f4.length ≤ 1000) ∧ ∀ x ∈ tr, x.f3.length ≤ 1000 ∧ x.f5.length ≤ 1000 := by
 simp only [fewP, Bool.and_eq_true, decide_eq_true_eq, List.all_eq_true] at h
 obtain ⟨⟨⟨h1, h2⟩, h3⟩, h4⟩ := h
 refine ⟨fun x hx => ?_, fun x hx => ?_⟩
 ·have := h3 x hx
  simp only [fewS, fewAP, Bool.and_eq_true, decide_eq_true_eq, List.all_eq_true] at this
  omega
 ·have := h4 x hx
  simp only [fewT, fewAP, Bool.and_eq_true, decide_eq_true_eq, List.all_eq_true] at this
  omega
theorem erV_low {B B' : Nat} {w : World} {v : Value} {e : Er} (h : ErV B w v e) (hB : B' ≤ B) : ErV B' w v e := by
 cases e with
 | none => exact h
 | code c => exact h
 | spot a c => obtain ⟨g, h1, h2, h3⟩ := h; exact ⟨g, h1, by omega, h3⟩
theorem good_ahead {v : Int} {st : List Sta} {tr : List Tra} (h : chkP v st tr = .none) : Ahead st := by
 obtain ⟨_, h2, _⟩ := chk_none h
 exact ahead_of h2
theorem tnew_any (v : Int) (A B : Option Addr) (ca cb : Nat) (st : List Sta) (tr : List Tra) (hF : fewP st tr = true) (w : World) (hw : Laid w) (hM : ChM w A ca st B cb tr) :
  Calls Tryz.prog 17 #[ckV v A B st.length tr.length ca cb] w fun e w' => (∃ p ev, e = .returned (.tuple #[p, ev]) ∧ ((chkP v st tr = .none ∧ ∃ g, p = .pointer (some ⟨g, 0, none⟩) ∧ ev = .nilIface ∧ w.heap.size ≤ g ∧ TrM w' g v st tr) ∨ (chkP v st tr ≠ .none ∧ p = .pointer none ∧ ErV w.heap.size w' ev (chkP v st tr)))) ∧ Below w.heap.size w w' := by
 have k6 := eqErr
 have hb0 : Below w.heap.size w (w.alloc (.cells #[.int .i64 v, .slice A st.length ca, .slice B tr.length cb] 25)) := (Below.refl _ w).alloc (Nat.le_refl _) _
 have HB0 := Lib.hid hb0
 have HW := Lib.hid (hw.below hb0)
 have HM := Lib.hid (hM.below hb0)
 have HG := Lib.hid (blk_new w (.cells #[.int .i64 v, .slice A st.length ca, .slice B tr.length cb] 25))
 obtain ⟨hfc, hl1, hl2⟩ := few_of hF
 obtain ⟨hS, hT⟩ := few_s hF
 have HFC := Lib.hid hfc
 have HSl := Lib.hid hS
 have HTl := Lib.hid hT
 clear hb0 hw hM hfc hS hT
 go_enter Tryz.func17, Tryz.ntmps17
 go_wp2_with fail
 generalize w.alloc (.cells #[.int .i64 v, .slice A st.length ca, .slice B tr.length cb] 25) = w0 at HB0 HW HM HG ⊢
 have hk := HG.out
 obtain ⟨y0, y1, y2⟩ : w0.cell? ⟨w.heap.size, 0, none⟩ = some (.int .i64 v) ∧ w0.cell? ⟨w.heap.size, 1, none⟩ = some (.slice A st.length ca) ∧ w0.cell? ⟨w.heap.size, 2, none⟩ = some (.slice B tr.length cb) := ⟨blk_cell hk 0, blk_cell hk 1, blk_cell hk 2⟩
 clear hk
 go_wp2_with fail
 refine (check_any v A B ca cb st tr HFC.out _ HW.out HM.out).mono ?_
 rintro e w1 ⟨ev, rfl, hev, hb1⟩
 have HB1 := Lib.hid (below_then HB0.out HB0.out.size hb1)
 by_cases he : chkP v st tr = .none
 ·obtain rfl := er_nil hev he
  have HE := Lib.hid he
  have hk := (hb1.block _ (lt_of_block HG.out)).trans HG.out
  clear y0 y1 y2
  obtain ⟨y0, y1, y2⟩ : w1.cell? ⟨w.heap.size, 0, none⟩ = some (.int .i64 v) ∧ w1.cell? ⟨w.heap.size, 1, none⟩ = some (.slice A st.length ca) ∧ w1.cell? ⟨w.heap.size, 2, none⟩ = some (.slice B tr.length cb) := ⟨blk_cell hk 0, blk_cell hk 1, blk_cell hk 2⟩
  have HM1 := Lib.hid (HM.out.below hb1)
  clear he hev hk hb1
  go_wp2_with fail
  refine (copied_any v A B ca cb st tr (by have := (chk_none HE.out).1; omega) (by omega) (by omega) HSl.out HTl.out _ HM1.out).mono ?_
  rintro e w2 ⟨A', ca', B', cb', rfl, hM2, hb2⟩
  have HB2 := Lib.hid (below_then HB1.out HB1.out.size hb2)
  have hal : Below w2.heap.size w2 (w2.alloc (.cells #[.int .i64 v, .slice A' st.length ca', .slice B' tr.length cb'] 98)) := (Below.refl _ w2).alloc (Nat.le_refl _) _
  have HTr := Lib.hid (show TrM (w2.alloc (.cells #[.int .i64 v, .slice A' st.length ca', .slice B' tr.length cb'] 98)) w2.heap.size v st tr from ⟨A', ca', B', cb', blk_new w2 _, hM2.below hal⟩)
  have HB3 := Lib.hid (below_then HB2.out HB2.out.size hal)
  clear hM2 hal hb2
  go_wp2_with fail
  go_ret2
  exact ⟨⟨_, _, rfl, .inl ⟨HE.out, _, rfl, rfl, HB2.out.size, HTr.out⟩⟩, HB3.out⟩
 ·have HE := Lib.hid he
  have HEv := Lib.hid (erV_low hev HB0.out.size)
  rcases er_some hev he with ⟨c, rfl⟩ | ⟨c, rfl⟩
  all_goals
   clear he hev
   go_wp2_with fail
   go_ret2
   exact ⟨⟨_, _, rfl, .inr ⟨HE.out, rfl, HEv.out⟩⟩, HB1.out⟩
end Go.Proofs.YtcjlpkegkehghaaGreatDoor
end
section
namespace Go.Proofs.YtcjlpkegkehghaaGreatDoor
open Go.RowKit Go.Proofs.YtcjlpkegkehghaaGreatDoorW.PrintWords
open PX (T V)
theorem good_kind {v : Int} {st : List Sta} {tr : List Tra} (h : chkP v st tr = .none) {s : Int} (hs : thS st s) : 1 ≤ (rdS st s).f0 ∧ (rdS st s).f0 ≤ 6 := by
 have := (chk_none h).2.1 s hs.1 hs.2
 unfold stateP at this
 split at this
 ·omega
 ·rename_i h1
  simp only [not_or] at h1
  obtain ⟨h1, h2, _⟩ := h1
  show 1 ≤ (PAll.rd_T93 st s).f0 ∧ (PAll.rd_T93 st s).f0 ≤ 6
  omega
end Go.Proofs.YtcjlpkegkehghaaGreatDoor
end
section
namespace Go.Proofs.YtcjlpkegkehghaaGreatDoor
open Go.RowKit Go.Proofs.YtcjlpkegkehghaaGreatDoorW.PrintWords
open PX (T V)
theorem lvN_len (st : List Sta) (set q : Nat) : (lvN st set q).length ≤ q := by
 induction q with
 | zero => simp [lvN]
 | succ q ih =>
  simp only [lvN, List.length_append]
  split <;> simp <;> omega
theorem bit_at {set q : Nat} (h : set < 4294967296) : bits BinOp.and IntKind.u32 ((set : Int) / 2 ^ q) 1 = if set.testBit q = true then 1 else 0 := by
 have e : ((set : Int) / 2 ^ q) = ((set / 2 ^ q : Nat) : Int) := by simp
 have h2 : set / 2 ^ q < 4294967296 := Nat.lt_of_le_of_lt (Nat.div_le_self _ _) h
 rw [e, show (1 : Int) = ((1 : Nat) : Int) from rfl, u32_and_nat _ 1 h2 (by decide), nat_mask1, Nat.testBit_eq_decide_div_mod_eq]
 by_cases c : set / 2 ^ q % 2 = 1
 ·rw [c]; simp
 ·have : set / 2 ^ q % 2 = 0 := by omega
  rw [this]; simp
section
variable {g : Nat} {v : Int} {st : List Sta} {tr : List Tra} {w : World}
theorem tlv_any (h : TrM w g v st tr) (hl : st.length ≤ 24) (set : Nat) (hset : set < 4294967296) :
  Calls Tryz.prog 65 #[.pointer (some ⟨g, 0, none⟩), .int .u32 (set : Nat)] w fun e w' => ∃ u, e = .returned u ∧ InnR w' w.heap.size u (lvP st set) ∧ Below w.heap.size w w' := by
 obtain ⟨A, ca, B, cb, h1, h2⟩ := h
 have y1 : w.cell? ⟨g, 1, none⟩ = some (.slice A st.length ca) := blk_cell h1 1
 have HCs := Lib.hid h2.cs
 clear h1 h2
 go_enter Tryz.func65, Tryz.ntmps65
 go_wp2_with fail
 go_loopw [5, 14] (fun o x wr => ∃ q : Nat, x = .int .i64 q ∧ q ≤ st.length ∧ Hid (InnR wr w.heap.size o (lvN st set q)) ∧ Hid (Below w.heap.size w wr)) (fun _ x _ => st.length - (intOf x).toNat)
 case atStart => exact ⟨0, rfl, Nat.zero_le _, Lib.hid (Kd.R_nil _ _ _ _ _), Lib.hid (Below.refl _ _)⟩
 case round =>
  obtain ⟨q, rfl, hq, HO, HB⟩ := hrel
  by_cases hlt : q < st.length
  ·have p1 : ((q : Int) < (st.length : Int)) = True := eq_true (by omega)
   obtain ⟨ad, A2, c2, A3, c3, A4, c4, rfl, q0, q1, q2, q3, q4, _⟩ := PAll.at_T93 (Kd.C_below HCs.out HB.out) (q : Int) (by omega) (by omega)
   rw [Int.toNat_natCast] at q0 q1 q2 q3 q4
   have hsz := HB.out.size
   have HB1 := Lib.hid (HB.out.alloc HB.out.size (.cells #[.int .i64 (PAll.rd_T93 st q).f0, .int .i64 (PAll.rd_T93 st q).f1, .slice A2 (PAll.rd_T93 st q).f2.length c2, .slice A3 (PAll.rd_T93 st q).f3.length c3, .slice A4 (PAll.rd_T93 st q).f4.length c4] 93))
   have HO1 := Lib.hid (Kd.R_alloc HO.out (.cells #[.int .i64 (PAll.rd_T93 st q).f0, .int .i64 (PAll.rd_T93 st q).f1, .slice A2 (PAll.rd_T93 st q).f2.length c2, .slice A3 (PAll.rd_T93 st q).f3.length c3, .slice A4 (PAll.rd_T93 st q).f4.length c4] 93))
   have hsz1 := HB1.out.size
   obtain ⟨AO, cO, rfl⟩ := Kd.R_slice HO.out
   by_cases hb : set.testBit q = true
   ·have d0 : (bits BinOp.and IntKind.u32 ((set : Int) / 2 ^ q) 1 == 1) = true := by rw [bit_at hset, if_pos hb]; rfl
    by_cases hk : (PAll.rd_T93 st q).f0 = 1 ∨ (PAll.rd_T93 st q).f0 = 4
    ·have HS : Hid (lvN st set (q + 1) = lvN st set q ++ [(q : Int)]) := Lib.hid (by simp only [lvN]; rw [if_pos ⟨hb, hk⟩])
     have hlen := lvN_len st set q
     have hac : (lvN st set q).length < 1000000 := by omega
     by_cases h1 : (PAll.rd_T93 st q).f0 = 1
     ·have d1 : ((PAll.rd_T93 st q).f0 == 1) = true := by simp [h1]
      clear hb hk h1 hlen
      go_wp2_with (at_builtin; refine inn_append rfl (.tmp 34) (.tmp 36) rfl w.heap.size _ (lvN st set q) (q : Int) rfl _ rfl (by simp) HO1.out hsz1 hac ?_)
      intro v1 w2 h1 h2 h3
      have HB2 := Lib.hid (HB1.out.trans h2)
      have HO2 := Lib.hid h1
      go_wp2_with fail
      go_roundw
      case rel => exact ⟨q + 1, by go_num, by omega, by rw [HS.out]; exact HO2, HB2⟩
      case measure => simp [intOf]; omega
     ·have d1 : ((PAll.rd_T93 st q).f0 == 1) = false := by simp [h1]
      have d2 : ((PAll.rd_T93 st q).f0 == 4) = true := by simp [hk.resolve_left h1]
      clear hb hk h1 hlen
      go_wp2_with (at_builtin; refine inn_append rfl (.tmp 34) (.tmp 36) rfl w.heap.size _ (lvN st set q) (q : Int) rfl _ rfl (by simp) HO1.out hsz1 hac ?_)
      intro v1 w2 h1 h2 h3
      have HB2 := Lib.hid (HB1.out.trans h2)
      have HO2 := Lib.hid h1
      go_wp2_with fail
      go_roundw
      case rel => exact ⟨q + 1, by go_num, by omega, by rw [HS.out]; exact HO2, HB2⟩
      case measure => simp [intOf]; omega
    ·have HS : Hid (lvN st set (q + 1) = lvN st set q) := Lib.hid (by simp only [lvN]; rw [if_neg (fun h => hk h.2), List.append_nil])
     have d1 : ((PAll.rd_T93 st q).f0 == 1) = false := by simp; exact fun h => hk (.inl h)
     have d2 : ((PAll.rd_T93 st q).f0 == 4) = false := by simp; exact fun h => hk (.inr h)
     have HO2 := HO1
     have HAl := HB1
     clear hb hk
     go_wp2_with fail
     go_roundw
     case rel => exact ⟨q + 1, by go_num, by omega, by rw [HS.out]; exact HO2, HAl⟩
     case measure => simp [intOf]; omega
   ·have d0 : (bits BinOp.and IntKind.u32 ((set : Int) / 2 ^ q) 1 == 1) = false := by rw [bit_at hset, if_neg hb]; rfl
    have HS : Hid (lvN st set (q + 1) = lvN st set q) := Lib.hid (by simp only [lvN]; rw [if_neg (fun h => hb h.1), List.append_nil])
    have HO2 := HO1
    have HAl := HB1
    clear hb
    go_wp2_with fail
    go_roundw
    case rel => exact ⟨q + 1, by go_num, by omega, by rw [HS.out]; exact HO2, HAl⟩
    case measure => simp [intOf]; omega
  ·obtain rfl : q = st.length := by omega
   have p1 : ((st.length : Int) < (st.length : Int)) = False := eq_false (by omega)
   go_wp2_with fail
   go_ret
   exact ⟨_, rfl, HO.out, HB.out⟩
end
end Go.Proofs.YtcjlpkegkehghaaGreatDoor
end
section
namespace Go.Proofs.YtcjlpkegkehghaaGreatDoor
open Go.RowKit Go.Proofs.YtcjlpkegkehghaaGreatDoorW.PrintWords Go.Proofs.YtcjlpkegkehghaaGreatDoorW.PrintLast
open PX (T V)
theorem RowQ.steps {α : Type} {d : Kd α} {e base g q : Nat} {ok : Nat → Prop} {w wr wr' : World} {cs : Array Value} {xs : List α} (h : RowQ d e w wr base ok g cs xs q) (hm : ∀ k, base ≤ k → wr'.heap[k]? = wr.heap[k]?) (hg : base ≤ g) : RowQ d e w wr' base ok g cs xs q :=
 ⟨(hm g hg).trans h.1, fun j x hj => by
  obtain ⟨c, h1, h2, h3, h4⟩ := h.2 j x hj
  exact ⟨c, h1, h2, fun hlt => d.M_mono (fun _ hk => hk.1) (d.M_move (fun k hk => hm k hk.2.1) (d.M_bound (h3 hlt))), h4⟩⟩
def TypAt (w : World) (b t n : Nat) : Prop := ∃ cs : Array Value, w.heap[b]? = some (.cells cs t (0, 0)) ∧ n ≤ cs.size
def Shp (w : World) (base g : Nat) (st : List Sta) : Prop :=
 ∃ cs : Array Value, w.heap[g]? = some (.cells cs 93 (0, 0)) ∧ st.length * 5 ≤ cs.size ∧ ∀ (j : Nat) (x : Sta), st[j]? = some x → ∃ A c, cs[j * 5 + 2]? = some (.slice A x.f2.length c) ∧ x.f2.length ≤ c ∧ (0 < x.f2.length → ∃ b, A = some ⟨b, 0, none⟩ ∧ base ≤ b ∧ TypAt w b 3 x.f2.length)
theorem Shp.low {w : World} {base base' g : Nat} {st : List Sta} (h : Shp w base g st) (hb : base' ≤ base) : Shp w base' g st := by
 obtain ⟨cs, h1, h2, h3⟩ := h
 refine ⟨cs, h1, h2, fun j x hj => ?_⟩
 obtain ⟨A, c, q1, q2, q3⟩ := h3 j x hj
 refine ⟨A, c, q1, q2, fun hp => ?_⟩
 obtain ⟨b', r1, r2, r3⟩ := q3 hp
 exact ⟨b', r1, Nat.le_trans hb r2, r3⟩
theorem shp_of {w w' : World} {base g : Nat} {cs : Array Value} {ok : Nat → Prop} {st : List Sta} (hn : 0 < st.length) (h : RowQ PAll.k93 93 w w' base ok g cs st st.length) : Shp w' base g st := by
 refine ⟨cs, h.1, ?_, fun j x hj => ?_⟩
 ·obtain ⟨c, h1, h2, _, _⟩ := h.2 (st.length - 1) st[st.length - 1] (List.getElem?_eq_getElem (by omega))
  have h1' : c.length = 5 := h1
  have := h2 4 c[4] (List.getElem?_eq_getElem (by omega))
  have hlt := (Array.getElem?_eq_some_iff.1 this).1
  have e : (PAll.k93).sz = 5 := rfl
  rw [e] at hlt
  omega
 ·obtain ⟨c, h1, h2, h3, _⟩ := h.2 j x hj
  obtain ⟨v2, v3, v4, rfl, r2, _, _⟩ := PAll.k93_openM (h3 (List.getElem?_eq_some_iff.1 hj).1)
  obtain ⟨A, cap, rfl⟩ := Kd.R_slice r2
  refine ⟨A, cap, h2 2 _ rfl, (Kd.R_reads' r2).2.1, fun hp => ?_⟩
  obtain ⟨b, cap', e, hb, _, ci, hc⟩ := Kd.R_form r2 hp
  injection e with e1 e2 e3
  subst e1
  refine ⟨b, rfl, hb, ci, hc, ?_⟩
  obtain ⟨ad, had, hr⟩ := (Kd.R_reads' r2).2.2.2.2 hp
  obtain rfl : ad = ⟨b, 0, none⟩ := (Option.some.inj had).symm
  obtain ⟨c', k1, k2, k3⟩ := hr (x.f2.length - 1) x.f2[x.f2.length - 1] (List.getElem?_eq_getElem (by omega))
  have k1' : c'.length = 1 := k1
  have := k3 0 c'[0] (List.getElem?_eq_getElem (by omega))
  rw [add_at, blk_cell hc] at this
  have hlt := (Array.getElem?_eq_some_iff.1 this).1
  have e : (Kd.int .i64).sz = 1 := rfl
  rw [e] at hlt
  omega
theorem typ_of {w w' : World} {base g : Nat} {cs : Array Value} {ok : Nat → Prop} {tr : List Tra} (hn : 0 < tr.length) (h : RowQ PAll.k46 46 w w' base ok g cs tr tr.length) : TypAt w' g 46 (tr.length * 6) := by
 refine ⟨cs, h.1, ?_⟩
 obtain ⟨c, h1, h2, _, _⟩ := h.2 (tr.length - 1) tr[tr.length - 1] (List.getElem?_eq_getElem (by omega))
 have h1' : c.length = 6 := h1
 have := h2 5 c[5] (List.getElem?_eq_getElem (by omega))
 have hlt := (Array.getElem?_eq_some_iff.1 this).1
 have e : (PAll.k46).sz = 6 := rfl
 rw [e] at hlt
 omega
theorem tchart_any {g : Nat} {v : Int} {st : List Sta} {tr : List Tra} {w : World} (h : TrM w g v st tr) (hst : 0 < st.length) (hs : st.length ≤ 1000) (ht : tr.length ≤ 1000) (hS : ∀ x ∈ st, x.f2.length ≤ 1000 ∧ x.f3.length ≤ 1000 ∧ x.f4.length ≤ 1000) (hT : ∀ x ∈ tr, x.f3.length ≤ 1000 ∧ x.f5.length ≤ 1000) :
  Calls Tryz.prog 64 #[.pointer (some ⟨g, 0, none⟩)] w fun e w' => ∃ gS ca' B' cb', e = .returned (ckV v (some ⟨gS, 0, none⟩) B' st.length tr.length ca' cb') ∧ ChM w' (some ⟨gS, 0, none⟩) ca' st B' cb' tr ∧ Below w.heap.size w w' ∧ w.heap.size ≤ gS ∧ Shp w' w.heap.size gS st ∧ ∃ gT, w.heap.size ≤ gT ∧ (0 < tr.length → B' = some ⟨gT, 0, none⟩ ∧ TypAt w' gT 46 (tr.length * 6)) := by
 obtain ⟨A, ca, B, cb, h1, h2⟩ := h
 have hb0 : Below w.heap.size w (w.alloc (.cells #[.int .i64 0, .slice none 0 0, .slice none 0 0] 25)) := (Below.refl _ w).alloc (Nat.le_refl _) _
 have hk := (hb0.block _ (lt_of_block h1)).trans h1
 have HB0 := Lib.hid hb0
 have HM := Lib.hid (h2.below hb0)
 have HK := Lib.hid (blk_new w (.cells #[.int .i64 0, .slice none 0 0, .slice none 0 0] 25))
 obtain ⟨y0, y1, y2⟩ : (w.alloc (.cells #[.int .i64 0, .slice none 0 0, .slice none 0 0] 25)).cell? ⟨g, 0, none⟩ = some (.int .i64 v) ∧ (w.alloc (.cells #[.int .i64 0, .slice none 0 0, .slice none 0 0] 25)).cell? ⟨g, 1, none⟩ = some (.slice A st.length ca) ∧ (w.alloc (.cells #[.int .i64 0, .slice none 0 0, .slice none 0 0] 25)).cell? ⟨g, 2, none⟩ = some (.slice B tr.length cb) := ⟨blk_cell hk 0, blk_cell hk 1, blk_cell hk 2⟩
 have HSl := Lib.hid hS
 have HTl := Lib.hid hT
 clear h1 h2 hb0 hk hS hT
 go_enter Tryz.func64, Tryz.ntmps64
 go_wp2_with fail
 generalize w.alloc (.cells #[.int .i64 0, .slice none 0 0, .slice none 0 0] 25) = w0 at HB0 HM HK y0 y1 y2 ⊢
 go_wp2_with fail
 refine (copied_own v A B ca cb st tr hst hs ht HSl.out HTl.out _ HM.out).mono ?_
 rintro e w1 ⟨A', ca', B', cb', rfl, hM, hb1, ⟨gS, csS, ok, rfl, hgS, hQ⟩, hTT⟩
 have hk := (hb1.block _ (lt_of_block HK.out)).trans HK.out
 have hwS : w.heap.size ≤ gS := Nat.le_trans HB0.out.size hgS
 have hS1 := shp_of hst hQ
 obtain ⟨cS, hcS, _, _⟩ := hS1
 have hlt := lt_of_block HK.out
 have hne : ∀ b, w0.heap.size ≤ b → b ≠ w.heap.size := fun b hb e => by omega
 have HB1 := Lib.hid (below_then HB0.out HB0.out.size hb1)
 obtain ⟨c0, c1, c2⟩ : w1.cell? ⟨w.heap.size, 0, none⟩ = some (.int .i64 0) ∧ w1.cell? ⟨w.heap.size, 1, none⟩ = some (.slice none 0 0) ∧ w1.cell? ⟨w.heap.size, 2, none⟩ = some (.slice none 0 0) := ⟨blk_cell hk 0, blk_cell hk 1, blk_cell hk 2⟩
 have f0 := blk_free hk 0
 have f1 := blk_free hk 1
 have f2 := blk_free hk 2
 have HKk := Lib.hid hk
 have HMm := Lib.hid hM
 have HQq := Lib.hid hQ
 have HTq := Lib.hid hTT
 have HNe := Lib.hid hne
 clear hk hM hQ hTT hcS hlt hb1 hne
 go_wp2_with fail
 have hst3 : ∀ j, j ≠ w.heap.size → (((w1.setCell ⟨w.heap.size, 0, none⟩ (.int .i64 v)).setCell ⟨w.heap.size, 1, none⟩ (.slice (some ⟨gS, 0, none⟩) st.length ca')).setCell ⟨w.heap.size, 2, none⟩ (.slice B' tr.length cb')).heap[j]? = w1.heap[j]? := fun j hj => (Below.heap_setCell _ ⟨w.heap.size, 2, none⟩ _ j hj).trans ((Below.heap_setCell _ ⟨w.heap.size, 1, none⟩ _ j hj).trans (Below.heap_setCell _ ⟨w.heap.size, 0, none⟩ _ j hj))
 have hstb : ∀ k, w0.heap.size ≤ k → _ := fun k hk => hst3 k (HNe.out k hk)
 have hQ2 := HQq.out.steps hstb hgS
 refine bodyPost_ret (results_cell_row rfl _ _ w.heap.size 25 #[.int .i64 v, .slice (some ⟨gS, 0, none⟩) st.length ca', .slice B' tr.length cb'] (0, 0) _ rfl (blk_set (blk_set (blk_set HKk.out 0 (.int .i64 v)) 1 (.slice (some ⟨gS, 0, none⟩) st.length ca')) 2 (.slice B' tr.length cb')) Tryz.underlying25 rfl (by kernel_rfl)) rfl ?_
 refine ⟨gS, ca', B', cb', rfl, ⟨hQ2.reads rfl (by omega), HMm.out.sc, ?_, HMm.out.tc⟩, ((HB1.out.setCell (p := ⟨w.heap.size, 0, none⟩) (Nat.le_refl _) _).setCell (p := ⟨w.heap.size, 1, none⟩) (Nat.le_refl _) _).setCell (p := ⟨w.heap.size, 2, none⟩) (Nat.le_refl _) _, hwS, (shp_of hst hQ2).low HB0.out.size, ?_⟩
 ·by_cases h : 0 < tr.length
  ·obtain ⟨gT, csT, okT, e1, hgT, hQt⟩ := HTq.out h
   subst e1
   exact (hQt.steps hstb hgT).reads rfl (by omega)
  ·exact ⟨rfl, by omega, fun h' => absurd h' h⟩
 ·by_cases h : 0 < tr.length
  ·obtain ⟨gT, csT, okT, e1, hgT, hQt⟩ := HTq.out h
   exact ⟨gT, Nat.le_trans HB0.out.size hgT, fun _ => ⟨e1, typ_of h (hQt.steps hstb hgT)⟩⟩
  ·exact ⟨w.heap.size, Nat.le_refl _, fun h' => absurd h' h⟩
end Go.Proofs.YtcjlpkegkehghaaGreatDoor
end
section
namespace Go.Proofs.YtcjlpkegkehghaaGreatDoor
open Go.RowKit Go.Proofs.YtcjlpkegkehghaaGreatDoorW.PrintWords Go.Proofs.YtcjlpkegkehghaaGreatDoorW.PrintLast
section
variable {P : Program} {ops : Array Oper} {Q : Exit → Act → World → Prop}
theorem val_ {oi : Oper} {N : Option Tmp} {a : Act} {w w1 : World} {v : Value} {K : Act → World → Prop} (hw : Region.wanted oi (yielded ops a.tmps) = true) (hN : oi.dst = N) (hrun : (execOp a.eval oi).run P w = .ok (.value v) w1)
  (h : K (a.put N v) w1) : if Region.wanted oi (yielded ops a.tmps) = true then Oper.wp P oi a w K Q else K (a.put N undef) w := by
 rw [if_pos hw]
 unfold Oper.wp
 rw [hrun]
 show K (a.put oi.dst v) w1
 rw [hN]
 exact h
end
section
variable {ops : Array Oper} {Q : Exit → Act → World → Prop} {rest : List Oper} {a : Act} {o : Oper}
theorem inn_app_row {W : World} (hgd : o.guard = none) (s x : Operand)
  (ho : o.op = .call { callee := .builtin .append, args := #[s, x], argTypes := #[35, 35] })
  (B : Nat) (v : Value) (xs ys : List Int) (A : Option Addr) (m c : Nat) (hs : a.eval s = v) (hx : a.eval x = .slice A m c) (hm : ys.length = m)
  (HO : InnR W B v xs) (HR : NumsC W A m ys) (hB : B ≤ W.heap.size) (hl : xs.length + m < 1000000)
  (h : ∀ v1 w1, InnR w1 B v1 (xs ++ ys) → Below B W w1 → W.grownBy w1 v.ownBlock → wpList Tryz.prog ops Q rest (a.put o.dst v1) w1) :
  wpList Tryz.prog ops Q (o :: rest) a W :=
 Kd.R_append_row (Value.int .i64) (0 : Int) (w0 := W) B hgd s x 35 3 (.int .i64 0) 8 ho Tryz.underlying35 (by kernel_rfl) rfl (by decide) v xs ys A m c (fun _ => True) hs hx (fun _ _ => trivial) HO HR (Below.refl _ _) hB (by omega) (fun v1 w1 h1 h2 h3 _ => h v1 w1 h1 h2 h3)
end
theorem inn_at {w : World} {B gl n cap : Nat} {xs : List Int} (h : InnR w B (.slice (some ⟨gl, 0, none⟩) n cap) xs) (q : Nat) (hq : q < xs.length) : w.cell? ⟨gl, q, none⟩ = some (.int .i64 xs[q]) ∧ w.frozen? ⟨gl, q, none⟩ = false := by
 obtain ⟨rfl, _, hC⟩ := Kd.R_reads' h
 have h2 := Kd.R_celln (0 : Int) h (q : Int) (by omega) (by omega)
 obtain ⟨ad, e, hc⟩ := nums_at hC q hq
 obtain rfl := Option.some.inj e
 rw [Int.toNat_natCast] at h2
 refine ⟨?_, h2.2⟩
 rwa [show (⟨gl, 0, none⟩ : Addr).add q = ⟨gl, q, none⟩ by simp only [Addr.add]; split <;> simp_all] at hc
theorem inn_put {w : World} {B gl n cap : Nat} {xs : List Int} (h : InnR w B (.slice (some ⟨gl, 0, none⟩) n cap) xs) (q : Nat) (x : Int) : InnR (w.setCell ⟨gl, q, none⟩ (.int .i64 x)) B (.slice (some ⟨gl, 0, none⟩) n cap) (xs.set q x) := by
 have := Kd.R_putn h (q : Int) x
 rwa [Int.toNat_natCast] at this
end Go.Proofs.YtcjlpkegkehghaaGreatDoor
end
section
namespace Go.Proofs.YtcjlpkegkehghaaGreatDoor
open Go.RowKit Go.Proofs.YtcjlpkegkehghaaGreatDoorW.PrintWords Go.Proofs.YtcjlpkegkehghaaGreatDoorW.PrintLast
open PX (T V)
theorem trans_fact {v : Int} {st : List Sta} {tr : List Tra} (h : chkP v st tr = .none) {i : Int} (hi : thT tr i) :
  (0 < (rdT tr i).f0 ∧ (rdT tr i).f0 < (st.length : Int) ∧ (rdS st (rdT tr i).f0).f0 ≤ 3) ∧ tgtP st (rdT tr i).f3 = true ∧ ((rdT tr i).f2.toList.isEmpty = false → typP (rdT tr i).f2 2 v = true) ∧ actsP v (rdT tr i).f5 = true := by
 have h1 := (chk_none h).2.2 i hi.1 hi.2
 change transP v st (rdT tr i) = 0 at h1
 generalize rdT tr i = t at *
 unfold transP at h1
 split at h1
 ·cases h1
 ·rename_i c1
  split at h1
  ·cases h1
  ·split at h1
   ·cases h1
   ·rename_i c3
    split at h1
    ·cases h1
    ·rename_i c4
     split at h1
     ·cases h1
     ·rename_i c5
      obtain ⟨n1, n2, n3⟩ : t.f0 ≠ 0 ∧ (0 ≤ t.f0 ∧ t.f0 < (st.length : Int)) ∧ ¬ 3 < (PAll.rd_T93 st t.f0).f0 := ⟨fun h => c1 (.inl h), Classical.not_not.1 (fun h => c1 (.inr (.inl h))), fun h => c1 (.inr (.inr h))⟩
      refine ⟨⟨by omega, n2.2, Int.not_lt.1 n3⟩, by simpa using c3, fun he => ?_, by simpa using c5⟩
      cases hy : typP t.f2 2 v
      ·exact absurd ⟨he, hy⟩ c4
      ·rfl
theorem map_step (f : Int → Int) (l : List Int) (q : Nat) (h : q < l.length) : ((l.take q).map f ++ l.drop q).set q (f l[q]) = (l.take (q + 1)).map f ++ l.drop (q + 1) := by
 have e : q - ((l.take q).map f).length = 0 := by simp; omega
 rw [List.set_append_right _ _ (by simp; omega), e, List.drop_eq_getElem_cons h, List.set_cons_zero, List.take_succ_eq_append_getElem h, List.map_append, List.append_assoc]
 rfl
theorem tgtF_in {st : List Sta} (l : List Int) : ∀ pre : List Int, tgtF st pre l = true → ∀ a ∈ l, 0 < a ∧ a < (st.length : Int) := by
 induction l with
 | nil => intro pre _ a h; cases h
 | cons b l ih =>
  intro pre h a ha
  simp only [tgtF] at h
  split at h
  ·cases h
  ·rename_i c
   split at h
   ·rcases List.mem_cons.1 ha with rfl | ha
    ·omega
    ·exact ih _ h a ha
   ·cases h
theorem tgt_fact {st : List Sta} {l : List Int} (h : tgtP st l = true) : l.length ≤ 3 ∧ ∀ a ∈ l, 0 < a ∧ a < (st.length : Int) := by
 unfold tgtP at h
 split at h
 ·cases h
 ·exact ⟨by omega, tgtF_in l [] h⟩
section
variable {g : Nat} {v : Int} {st : List Sta} {tr : List Tra} {w : World}
theorem reafn_any (h : TrM w g v st tr) (ha : Ahead st) (hl : st.length ≤ 1000) (g1 g2 : Nat) (x0 s : Int) (cs : Array Value) (h1 : w.heap[g1]? = some (.cells #[.pointer (some ⟨g, 0, none⟩)] 30 (0, 0))) (h2 : w.heap[g2]? = some (.cells cs 46 (0, 0))) (hc : cs[0]? = some (.int .i64 x0)) :
  Calls Tryz.prog 150 #[.int .i64 s, .pointer (some ⟨g1, 0, none⟩), .pointer (some ⟨g2, 0, none⟩)] w fun e w' => e = .returned (.bool (!inP st s x0)) ∧ Below w.heap.size w w' := by
 have H := Lib.hid h
 have HA := Lib.hid ha
 have y1 : w.cell? ⟨g1, 0, none⟩ = some (.pointer (some ⟨g, 0, none⟩)) := blk_cell h1 0
 have y2 : w.cell? ⟨g2, 0, none⟩ = some (.int .i64 x0) := (blk_cell h2 0).trans hc
 clear h ha h1 h2 hc
 go_enter Tryz.func150, Tryz.ntmps150
 go_wp2_with fail
 refine (tin_any H.out HA.out hl s x0).mono ?_
 rintro e w1 ⟨rfl, hb1⟩
 go_wp2_with fail
 go_ret
 exact ⟨by simp [inP], hb1⟩
theorem reach_any (h : TrM w g v st tr) (good : chkP v st tr = .none) (hF : fewP st tr = true) (i : Int) :
  Calls Tryz.prog 101 #[.pointer (some ⟨g, 0, none⟩), .int .i64 i] w fun e w' => e = .returned (.int .i64 (reaP st tr i)) ∧ Below w.heap.size w w' := by
 have hmf : ∀ (fn : Fn) (first cap : Array Value) (w : World), (Instr.makeFunc fn first cap).run Tryz.prog w = .ok (.func fn first cap) w := fun _ _ _ _ => rfl
 have hrun : ∀ args w, (callFunc 150 args).run Tryz.prog w = .ok (.enter 150 args) w := fun _ _ => rfl
 have hb0 : Below w.heap.size w (w.alloc (.cells #[.pointer (some ⟨g, 0, none⟩)] 30)) := (Below.refl _ w).alloc (Nat.le_refl _) _
 have hk0 := blk_new w (.cells #[.pointer (some ⟨g, 0, none⟩)] 30)
 have HB0 := Lib.hid hb0
 have HK0 := Lib.hid hk0
 have y1 : (w.alloc (.cells #[.pointer (some ⟨g, 0, none⟩)] 30)).cell? ⟨w.heap.size, 0, none⟩ = some (.pointer (some ⟨g, 0, none⟩)) := blk_cell hk0 0
 have H0 := Lib.hid (h.below hb0)
 have HGood := Lib.hid good
 have HA := Lib.hid (good_ahead good)
 obtain ⟨⟨_, _, hn1, hn, hn2⟩, _⟩ := chk_none good
 obtain ⟨hS, hTr⟩ := few_s hF
 clear hb0 hk0 h good hF
 go_enter Tryz.func101, Tryz.ntmps101
 go_wp2_with fail
 generalize w.alloc (.cells #[.pointer (some ⟨g, 0, none⟩)] 30) = w0 at HB0 HK0 y1 H0 ⊢
 refine (tchart_any H0.out (by omega) (by omega) (by omega) hS hTr).mono ?_
 rintro e w1 ⟨gS, ca, B, cb, rfl, hM, hb1, _, _, _⟩
 generalize (some ⟨gS, 0, none⟩ : Option Addr) = A at hM ⊢
 have hal : Below w1.heap.size w1 (w1.alloc (.cells #[.int .i64 v, .slice A st.length ca, .slice B tr.length cb] 25)) := (Below.refl _ w1).alloc (Nat.le_refl _) _
 have hkc := blk_new w1 (.cells #[.int .i64 v, .slice A st.length ca, .slice B tr.length cb] 25)
 have HB2 := Lib.hid (below_then hb1 hb1.size hal)
 have HM := Lib.hid (hM.below hal)
 have HKC := Lib.hid hkc
 have z1 : (w1.alloc (.cells #[.int .i64 v, .slice A st.length ca, .slice B tr.length cb] 25)).cell? ⟨w1.heap.size, 1, none⟩ = some (.slice A st.length ca) := blk_cell hkc 1
 have z2 : (w1.alloc (.cells #[.int .i64 v, .slice A st.length ca, .slice B tr.length cb] 25)).cell? ⟨w1.heap.size, 2, none⟩ = some (.slice B tr.length cb) := blk_cell hkc 2
 clear hM hb1 hkc hal y1 hS hTr
 by_cases c1 : i < 0
 ·have d1 : decide (i < 0) = true := decide_eq_true c1
  have HR : Hid (reaP st tr i = -1) := Lib.hid (if_pos (.inl (fun h => by have := h.1; omega)))
  clear c1
  go_wp2_with fail
  go_ret
  exact ⟨by rw [HR.out]; rfl, below_then HB0.out HB0.out.size HB2.out⟩
 by_cases c2 : (tr.length : Int) ≤ i
 ·have d1 : decide (i < 0) = false := decide_eq_false c1
  have d2 : decide (i ≥ (tr.length : Int)) = true := decide_eq_true c2
  have d2' : decide ((tr.length : Int) ≤ i) = true := decide_eq_true c2
  have HR : Hid (reaP st tr i = -1) := Lib.hid (if_pos (.inl (fun h => by have := h.2; omega)))
  clear c1 c2
  go_wp2_with fail
  go_ret
  exact ⟨by rw [HR.out]; rfl, below_then HB0.out HB0.out.size HB2.out⟩
 have hth : thT tr i := ⟨by omega, by omega⟩
 have d1 : decide (i < 0) = false := decide_eq_false c1
 have d2 : decide (i ≥ (tr.length : Int)) = false := decide_eq_false c2
 have d2' : decide ((tr.length : Int) ≤ i) = false := decide_eq_false c2
 have p0 : (0 ≤ i) = True := eq_true (by omega)
 have p1 : (i < (tr.length : Int)) = True := eq_true (by omega)
 obtain ⟨ad, A3, c3, A5, c5, rfl, q0, q1, q2, q3, q4, q5, l3, g3, l5, g5⟩ := PAll.at_T46 HM.out.ct i (by omega) (by omega)
 obtain ⟨⟨t1, t2, t3⟩, t4, _⟩ := trans_fact HGood.out hth
 obtain ⟨t5, t6⟩ := tgt_fact t4
 have hRe : reaP st tr i = if (rdT tr i).f3 = [] then -1 else if (rdT tr i).f4 = true ∧ kindP st (rdT tr i).f0 = 2 ∧ ((rdT tr i).f3.map (ownP st)).any (fun s => !inP st s (rdT tr i).f0) = false then (rdT tr i).f0
   else joinP st ((rdT tr i).f3.map (ownP st) ++ [(rdT tr i).f0]) := by
  unfold reaP
  by_cases e : (rdT tr i).f3 = []
  ·rw [if_pos (.inr e), if_pos e]
  ·rw [if_neg (by rintro (h | h); exact h hth; exact e h), if_neg e]
 generalize hX : rdT tr i = x at t1 t2 t3 t4 t5 t6 hRe
 have hX' : PAll.rd_T46 tr i = x := hX
 rw [hX'] at q0 q1 q2 q3 q4 q5 l3 g3 l5 g5
 clear hX'
 have HRe := Lib.hid hRe
 clear hRe hX c1 c2
 obtain ⟨so, ev, gu, ts, itn, ac⟩ := x
 simp only at q0 q1 q2 q3 q4 q5 l3 g3 l5 g5 t1 t2 t3 t4 t5 t6 HRe
 by_cases c3' : ts = []
 ·subst c3'
  have HR : Hid (reaP st tr i = -1) := Lib.hid (by rw [HRe.out, if_pos rfl])
  clear HRe
  go_wp2_with fail
  go_ret
  exact ⟨by rw [HR.out]; rfl, below_then HB0.out HB0.out.size HB2.out⟩
 have hpos : 0 < ts.length := List.length_pos_iff.2 c3'
 have d3 : ((ts.length : Int) == 0) = false := by rw [beq_eq_false_iff_ne]; omega
 have hRe := HRe.out
 rw [if_neg c3'] at hRe
 have HRe := Lib.hid hRe
 clear hRe c3'
 have hal : Below (w1.alloc (.cells #[.int .i64 v, .slice A st.length ca, (.slice (some ad) tr.length cb)] 25)).heap.size (w1.alloc (.cells #[.int .i64 v, .slice A st.length ca, (.slice (some ad) tr.length cb)] 25)) ((w1.alloc (.cells #[.int .i64 v, .slice A st.length ca, (.slice (some ad) tr.length cb)] 25)).alloc (.cells #[.int .i64 so, .int .i64 ev, .string gu, .slice A3 ts.length c3, .bool itn, .slice A5 ac.length c5] 46)) := (Below.refl _ _).alloc (Nat.le_refl _) _
 have hkx := blk_new (w1.alloc (.cells #[.int .i64 v, .slice A st.length ca, (.slice (some ad) tr.length cb)] 25)) (.cells #[.int .i64 so, .int .i64 ev, .string gu, .slice A3 ts.length c3, .bool itn, .slice A5 ac.length c5] 46)
 have hsz : (w1.alloc (.cells #[.int .i64 v, .slice A st.length ca, (.slice (some ad) tr.length cb)] 25)).heap.size = w1.heap.size + 1 := by simp
 have hkc3 := (hal.block _ (lt_of_block HKC.out)).trans HKC.out
 have HB3 := Lib.hid (below_then HB2.out HB2.out.size hal)
 have HG3 := Lib.hid (Kd.C_below g3 hal)
 have HM3 := Lib.hid (HM.out.below hal)
 rw [hsz] at hkx
 have x3 : ((w1.alloc (.cells #[.int .i64 v, .slice A st.length ca, (.slice (some ad) tr.length cb)] 25)).alloc (.cells #[.int .i64 so, .int .i64 ev, .string gu, .slice A3 ts.length c3, .bool itn, .slice A5 ac.length c5] 46)).cell? ⟨w1.heap.size + 1, 3, none⟩ = some (.slice A3 ts.length c3) := blk_cell hkx 3
 have HKX := Lib.hid hkx
 have HKC3 := Lib.hid hkc3
 clear g3 g5 hal hkx hkc3 t4 hsz
 go_wp2_with fail
 generalize (w1.alloc (.cells #[.int .i64 v, .slice A st.length ca, (.slice (some ad) tr.length cb)] 25)).alloc (.cells #[.int .i64 so, .int .i64 ev, .string gu, .slice A3 ts.length c3, .bool itn, .slice A5 ac.length c5] 46) = w3 at HB3 HG3 HM3 HKX HKC3 x3 ⊢
 refine (cloneIn A3 c3 ts.length ts rfl w3 l3 HG3.out (by omega)).mono ?_
 rintro e w4 ⟨u, rfl, hu, hb4⟩
 obtain ⟨gl, cl, rfl, hgl, _⟩ := Kd.R_form hu hpos
 have HU := Lib.hid hu
 have HB4 := Lib.hid hb4
 have HT6 := Lib.hid t6
 have HK0' := Lib.hid ((HB3.out.block _ (lt_of_block HK0.out)).trans HK0.out)
 clear hu hb4 x3 t6 HG3 q0 q1 q2 q3 q4 q5 HKC HM z1 z2 HK0
 go_wp2_with fail
 go_loopw [44] (fun k wr => ∃ q : Nat, k = .int .i64 q ∧ q ≤ ts.length ∧ Hid (InnR wr w3.heap.size (.slice (some ⟨gl, 0, none⟩) ts.length cl) ((ts.take q).map (ownP st) ++ ts.drop q)) ∧ Hid (Below w3.heap.size w3 wr)) (fun k _ => ts.length - (intOf k).toNat)
 case atStart => exact ⟨0, rfl, Nat.zero_le _, Lib.hid (by simpa using HU.out), HB4⟩
 case round =>
  clear HU HB4
  obtain ⟨q, rfl, hq, HU, HB4⟩ := hrel
  have HKX4 := Lib.hid ((HB4.out.block _ (lt_of_block HKX.out)).trans HKX.out)
  have HKC4 := Lib.hid ((HB4.out.block _ (lt_of_block HKC3.out)).trans HKC3.out)
  have HM4 := Lib.hid (HM3.out.below HB4.out)
  by_cases hlt : q < ts.length
  ·have p2 : ((q : Int) < (ts.length : Int)) = True := eq_true (by omega)
   have z1 : wr.cell? ⟨w1.heap.size, 1, none⟩ = some (.slice A st.length ca) := blk_cell HKC4.out 1
   have hll : ((ts.take q).map (ownP st) ++ ts.drop q).length = ts.length := by simp; omega
   obtain ⟨u0, u1⟩ := inn_at HU.out q (by omega)
   have hat : ((ts.take q).map (ownP st) ++ ts.drop q)[q]'(by omega) = ts[q] := by
    rw [List.getElem_append_right (by simp; omega)]
    simp [List.getElem_drop, Nat.min_eq_left hq]
   rw [hat] at u0
   have hnx := map_step (ownP st) ts q hlt
   have hsame : ownP st ts[q] = ts[q] → ((ts.take q).map (ownP st) ++ ts.drop q) = (ts.take (q + 1)).map (ownP st) ++ ts.drop (q + 1) := by
    intro h
    rw [← hnx, h, ← hat]
    exact (List.set_getElem_self _).symm
   have HNx := Lib.hid hnx
   have HSm := Lib.hid hsame
   obtain ⟨s0, s1⟩ := HT6.out ts[q] (List.getElem_mem hlt)
   clear hat hnx hsame hll
   generalize ts[q] = s at *
   have hks := good_kind HGood.out (s := s) ⟨by omega, s1⟩
   obtain ⟨ad2, B2, e2, B3, e3, B4, e4, rfl, k0, k1, _⟩ := PAll.at_T93 HM4.out.cs s (by omega) s1
   have p3 : (0 ≤ s) = True := eq_true (by omega)
   have p4 : (s < (st.length : Int)) = True := eq_true s1
   by_cases hk : 5 ≤ (PAll.rd_T93 st s).f0
   ·have d1 : decide ((PAll.rd_T93 st s).f0 ≥ 5) = true := decide_eq_true hk
    have d1' : decide (5 ≤ (PAll.rd_T93 st s).f0) = true := decide_eq_true hk
    have hown : ownP st s = (PAll.rd_T93 st s).f1 := by
     unfold ownP
     rw [if_pos (show histP (PAll.rd_T93 st s).f0 = true by
      unfold histP
      rcases (show (PAll.rd_T93 st s).f0 = 5 ∨ (PAll.rd_T93 st s).f0 = 6 by have := hks; change _ ∧ (PAll.rd_T93 st s).f0 ≤ 6 at this; omega) with e | e <;> rw [e] <;> rfl)]
    have HN2 := Lib.hid (HNx.out.symm.trans (by rw [hown]))
    clear hk hown HNx HSm
    go_wp2_with fail
    have hput := inn_put HU.out q (PAll.rd_T93 st s).f1
    have HU2 : Hid (InnR (wr.setCell ⟨gl, q, none⟩ (.int .i64 (PAll.rd_T93 st s).f1)) w3.heap.size (.slice (some ⟨gl, 0, none⟩) ts.length cl) ((ts.take (q + 1)).map (ownP st) ++ ts.drop (q + 1))) := Lib.hid (by rw [HN2.out]; exact hput)
    have HB5 := Lib.hid (HB4.out.setCell (p := ⟨gl, q, none⟩) hgl (.int .i64 (PAll.rd_T93 st s).f1))
    go_roundw
    case rel => exact ⟨q + 1, by go_num, by omega, HU2, HB5⟩
    case measure => simp [intOf]; omega
   ·have d1 : decide ((PAll.rd_T93 st s).f0 ≥ 5) = false := decide_eq_false hk
    have d1' : decide (5 ≤ (PAll.rd_T93 st s).f0) = false := decide_eq_false hk
    have hown : ownP st s = s := by
     unfold ownP
     rw [if_neg]
     unfold histP
     simp only [Bool.or_eq_true, beq_iff_eq]
     omega
    have HU2 : Hid (InnR wr w3.heap.size (.slice (some ⟨gl, 0, none⟩) ts.length cl) ((ts.take (q + 1)).map (ownP st) ++ ts.drop (q + 1))) := Lib.hid (by rw [← HSm.out hown]; exact HU.out)
    clear hk hown HNx HSm HU
    go_wp2_with fail
    go_roundw
    case rel => exact ⟨q + 1, by go_num, by omega, HU2, HB4⟩
    case measure => simp [intOf]; omega
  ·obtain rfl : q = ts.length := by omega
   have p2 : ((ts.length : Int) < (ts.length : Int)) = False := eq_false (by omega)
   have HUe : Hid (InnR wr w3.heap.size (.slice (some ⟨gl, 0, none⟩) ts.length cl) (ts.map (ownP st))) := Lib.hid (by have := HU.out; simpa using this)
   clear HU
   have HKa := Lib.hid ((HB4.out.block _ (lt_of_block HK0'.out)).trans HK0'.out)
   have HKb := HKX4
   have hla := lt_of_block HK0'.out
   have hlb := lt_of_block HKX.out
   have y1 : wr.cell? ⟨w.heap.size, 0, none⟩ = some (.pointer (some ⟨g, 0, none⟩)) := blk_cell HKa.out 0
   have x0 : wr.cell? ⟨w1.heap.size + 1, 0, none⟩ = some (.int .i64 so) := blk_cell HKX4.out 0
   have x4 : wr.cell? ⟨w1.heap.size + 1, 4, none⟩ = some (.bool itn) := blk_cell HKX4.out 4
   have HTr := Lib.hid (H0.out.below (below_then HB3.out HB3.out.size HB4.out))
   cases itn with
   | false =>
    have HRj : Hid (reaP st tr i = joinP st (ts.map (ownP st) ++ [so])) := Lib.hid (by rw [HRe.out, if_neg (fun h => by cases h.1)])
    go_wp2_with fail
    have hlj : ((ts.map (ownP st)) ++ [so]).length ≤ 1000 := by simp; omega
    have hsz7 := HB4.out.size
    have hl7 : (ts.map (ownP st)).length < 1000000 := by simp; omega
    have HUd := Lib.hid (Kd.R_drew HUe.out)
    have HTd := Lib.hid (HTr.out.below (below_drew (Below.refl _ _)))
    have HBd := Lib.hid (below_drew HB4.out)
    refine start_ (n := 8) (S := fun w' => w'.cell? ⟨w.heap.size, 0, none⟩ = some (.pointer (some ⟨g, 0, none⟩)) ∧ w'.cell? ⟨w1.heap.size + 1, 0, none⟩ = some (.int .i64 so)) (ds := [6]) (tf8 0) (by kernel_rfl) rfl (by kernel_rfl) ⟨y1, x0⟩ (fun hHeld => ?_)
    refine nxt_ (v := ?_) (a' := ?_) rfl rfl (by kernel_rfl) (fun _ _ _ h => h) (Or.inl ⟨by rfl, ?_⟩) hHeld ?_ ?_
    rotate_left
    ·rintro w' ⟨s0, s1⟩
     go_simp
     first | done | with_reducible rfl
    rotate_left
    ·simp only [Act.put, List.setIfInBounds_toArray, List.set_cons_zero, List.set_cons_succ, i64_w, i32_w]
     first | done | rfl
    iterate 2
     refine pxt_ (v := ?_) (a' := ?_) rfl rfl (by kernel_rfl) (fun _ _ _ h => h) (Or.inl ⟨by rfl, ?_⟩) ?_ ?_
     rotate_left
     ·intro w'
      go_simp
      first | done | with_reducible rfl
     rotate_left
     ·simp only [Act.put, List.setIfInBounds_toArray, List.set_cons_zero, List.set_cons_succ, i64_w, i32_w]
      first | done | rfl
    refine nxt_ (v := ?_) (a' := ?_) rfl rfl (by kernel_rfl) (fun _ _ _ h => h) (Or.inl ⟨by rfl, ?_⟩) hHeld ?_ ?_
    rotate_left
    ·rintro w' ⟨s0, s1⟩
     go_simp
     first | done | with_reducible rfl
    rotate_left
    ·simp only [Act.put, List.setIfInBounds_toArray, List.set_cons_zero, List.set_cons_succ, i64_w, i32_w]
     first | done | rfl
    refine one_ (i := 4) (N := some 88) (tf8 5) rfl rfl (by kernel_rfl) (by decide) (fun K hK => ?_)
    refine val_ (v := ?_) (w1 := wr.drew.alloc (.cells #[.int .i64 so] 3)) (by rfl) rfl ?_ ?_
    rotate_left 1
    ·go_simp
     rfl
    refine hK.out _ _ ⟨blk_cell (blk_alloc _ (blk_drew HKa.out)) 0, blk_cell (blk_alloc _ (blk_drew HKb.out)) 0⟩ (fun _ => ?_)
    clear hK K
    refine one_ (i := 5) (N := some 89) (tf8 6) rfl rfl (by kernel_rfl) (by decide) (fun K hK => ?_)
    refine inn_step (W := wr.drew) rfl (.tmp 85) (.tmp 88) rfl w3.heap.size _ (ts.map (ownP st)) so rfl _ rfl (by rfl) HUd.out hsz7 hl7 ?_
    intro v1 w7 h1 h2 h3
    obtain ⟨Aj, cj, rfl⟩ := Kd.R_slice h1
    obtain ⟨_, hcj, hCj⟩ := Kd.R_reads' h1
    refine hK.out _ _ ⟨blk_cell ((h2.block _ hla).trans (blk_drew HKa.out)) 0, blk_cell ((h2.block _ hlb).trans (blk_drew HKb.out)) 0⟩ (fun _ => ?_)
    clear hK K
    refine last_ (i := 6) (N := some 90) (tf8 7) rfl rfl (by kernel_rfl) (by decide) (fun K hK => ?_)
    refine goes_ Tryz.func32 (by kernel_rfl) rfl #[.pointer (some ⟨g, 0, none⟩), .slice Aj (ts.map (ownP st) ++ [so]).length cj] (by rfl) rfl rfl (by first | rfl | (go_simp; done) | (go_simp; exact ⟨rfl, rfl⟩) | (go_simp; rfl)) ?_
    refine (tjoin_any (H0.out.below (below_then HB3.out HB3.out.size (HBd.out.trans h2))) HA.out (by omega) Aj cj (ts.map (ownP st) ++ [so]) hCj hcj (by omega)).mono ?_
    rintro e8 w8 ⟨rfl, hb8⟩
    refine ⟨_, rfl, hK.out _ _ ?_⟩
    clear hK K
    have HB8 := Lib.hid (below_then (HBd.out.trans h2) (Nat.le_trans HBd.out.size h2.size) hb8)
    refine pxt_ (v := ?_) (a' := ?_) rfl rfl (by kernel_rfl) (fun _ _ _ h => h) (Or.inl ⟨by rfl, ?_⟩) ?_ ?_
    rotate_left
    ·intro w'
     go_simp
     first | done | with_reducible rfl
    rotate_left
    ·simp only [Act.put, List.setIfInBounds_toArray, List.set_cons_zero, List.set_cons_succ, i64_w, i32_w]
     first | done | rfl
    refine done_ (by kernel_rfl) ?_
    go_wp2_with fail
    go_ret
    exact ⟨by rw [HRj.out]; rfl, below_then HB0.out HB0.out.size (below_then HB3.out HB3.out.size HB8.out)⟩
   | true =>
    go_wp2_with fail
    refine (tkind_any HTr.out so).mono ?_
    rintro e w5 ⟨rfl, hb5⟩
    have HB5 := Lib.hid (below_then HB4.out HB4.out.size hb5)
    have HU5 := Lib.hid (Kd.R_below HUe.out hb5)
    have HT5 := Lib.hid (HTr.out.below hb5)
    have ka5 := (hb5.block _ (lt_of_block HKa.out)).trans HKa.out
    have kb5 := (hb5.block _ (lt_of_block HKb.out)).trans HKb.out
    have HKa := Lib.hid ka5
    have HKb := Lib.hid kb5
    have y1 : w5.cell? ⟨w.heap.size, 0, none⟩ = some (.pointer (some ⟨g, 0, none⟩)) := blk_cell ka5 0
    have x0 : w5.cell? ⟨w1.heap.size + 1, 0, none⟩ = some (.int .i64 so) := blk_cell kb5 0
    clear hb5 ka5 kb5 HUe HTr
    by_cases hk : kindP st so = 2
    ·have d2 : (kindP st so == 2) = true := by simp [hk]
     have HAs : Hid (AsksL 150 w.heap.size (w1.heap.size + 1) w5 (ts.map (ownP st)) (fun s => !inP st s so)) := Lib.hid (fun wx hb x hx => reafn_any (HT5.out.below hb) HA.out (by omega) w.heap.size (w1.heap.size + 1) so x _ ((hb.block _ (lt_of_block HKa.out)).trans HKa.out) ((hb.block _ (lt_of_block HKb.out)).trans HKb.out) rfl)
     obtain ⟨hn5, hc5, hC5⟩ := Kd.R_reads' HU5.out
     have hcon := fhas_any 150 w.heap.size (w1.heap.size + 1) hrun (some ⟨gl, 0, none⟩) cl (ts.map (ownP st)) hC5 (by rw [← hn5]; exact hc5) (by rw [← hn5]; omega) _ HAs.out
     rw [← hn5] at hcon
     have HCon := Lib.hid hcon
     clear hcon hC5 hn5 hc5
     go_wp2_with fail
     refine HCon.out.mono ?_
     cases hany : (ts.map (ownP st)).any (fun s => !inP st s so) with
     | false =>
      have HR : Hid (reaP st tr i = so) := Lib.hid (by rw [HRe.out, if_pos ⟨by trivial, hk, hany⟩])
      clear hany hk
      rintro e w6 ⟨rfl, hb6⟩
      have x0 : w6.cell? ⟨w1.heap.size + 1, 0, none⟩ = some (.int .i64 so) := blk_cell ((hb6.block _ (lt_of_block HKb.out)).trans HKb.out) 0
      have HB6 := Lib.hid (below_then HB5.out HB5.out.size hb6)
      clear hb6
      go_wp2_with fail
      go_ret
      exact ⟨by rw [HR.out]; rfl, below_then HB0.out HB0.out.size (below_then HB3.out HB3.out.size HB6.out)⟩
     | true =>
      have HRj : Hid (reaP st tr i = joinP st (ts.map (ownP st) ++ [so])) := Lib.hid (by rw [HRe.out, if_neg (fun h => by rw [hany] at h; cases h.2.2)])
      clear hany hk
      rintro e w6 ⟨rfl, hb6⟩
      have HB6 := Lib.hid (below_then HB5.out HB5.out.size hb6)
      have HU6 := Lib.hid (Kd.R_below HU5.out hb6)
      have HT6 := Lib.hid (HT5.out.below hb6)
      have ka6 := (hb6.block _ (lt_of_block HKa.out)).trans HKa.out
      have kb6 := (hb6.block _ (lt_of_block HKb.out)).trans HKb.out
      have HKa := Lib.hid ka6
      have HKb := Lib.hid kb6
      have y1 : w6.cell? ⟨w.heap.size, 0, none⟩ = some (.pointer (some ⟨g, 0, none⟩)) := blk_cell ka6 0
      have x0 : w6.cell? ⟨w1.heap.size + 1, 0, none⟩ = some (.int .i64 so) := blk_cell kb6 0
      clear hb6 ka6 kb6
      go_wp2_with fail
      have hlj : ((ts.map (ownP st)) ++ [so]).length ≤ 1000 := by simp; omega
      have hsz7 := HB6.out.size
      have hl7 : (ts.map (ownP st)).length < 1000000 := by simp; omega
      have HUd := Lib.hid (Kd.R_drew HU6.out)
      have HTd := Lib.hid (HT6.out.below (below_drew (Below.refl _ _)))
      have HBd := Lib.hid (below_drew HB6.out)
      refine start_ (n := 8) (S := fun w' => w'.cell? ⟨w.heap.size, 0, none⟩ = some (.pointer (some ⟨g, 0, none⟩)) ∧ w'.cell? ⟨w1.heap.size + 1, 0, none⟩ = some (.int .i64 so)) (ds := [6]) (tf8 0) (by kernel_rfl) rfl (by kernel_rfl) ⟨y1, x0⟩ (fun hHeld => ?_)
      refine nxt_ (v := ?_) (a' := ?_) rfl rfl (by kernel_rfl) (fun _ _ _ h => h) (Or.inl ⟨by rfl, ?_⟩) hHeld ?_ ?_
      rotate_left
      ·rintro w' ⟨s0, s1⟩
       go_simp
       first | done | with_reducible rfl
      rotate_left
      ·simp only [Act.put, List.setIfInBounds_toArray, List.set_cons_zero, List.set_cons_succ, i64_w, i32_w]
       first | done | rfl
      iterate 2
       refine pxt_ (v := ?_) (a' := ?_) rfl rfl (by kernel_rfl) (fun _ _ _ h => h) (Or.inl ⟨by rfl, ?_⟩) ?_ ?_
       rotate_left
       ·intro w'
        go_simp
        first | done | with_reducible rfl
       rotate_left
       ·simp only [Act.put, List.setIfInBounds_toArray, List.set_cons_zero, List.set_cons_succ, i64_w, i32_w]
        first | done | rfl
      refine nxt_ (v := ?_) (a' := ?_) rfl rfl (by kernel_rfl) (fun _ _ _ h => h) (Or.inl ⟨by rfl, ?_⟩) hHeld ?_ ?_
      rotate_left
      ·rintro w' ⟨s0, s1⟩
       go_simp
       first | done | with_reducible rfl
      rotate_left
      ·simp only [Act.put, List.setIfInBounds_toArray, List.set_cons_zero, List.set_cons_succ, i64_w, i32_w]
       first | done | rfl
      refine one_ (i := 4) (N := some 88) (tf8 5) rfl rfl (by kernel_rfl) (by decide) (fun K hK => ?_)
      refine val_ (v := ?_) (w1 := w6.drew.alloc (.cells #[.int .i64 so] 3)) (by rfl) rfl ?_ ?_
      rotate_left 1
      ·go_simp
       rfl
      refine hK.out _ _ ⟨blk_cell (blk_alloc _ (blk_drew HKa.out)) 0, blk_cell (blk_alloc _ (blk_drew HKb.out)) 0⟩ (fun _ => ?_)
      clear hK K
      refine one_ (i := 5) (N := some 89) (tf8 6) rfl rfl (by kernel_rfl) (by decide) (fun K hK => ?_)
      refine inn_step (W := w6.drew) rfl (.tmp 85) (.tmp 88) rfl w3.heap.size _ (ts.map (ownP st)) so rfl _ rfl (by rfl) HUd.out hsz7 hl7 ?_
      intro v1 w7 h1 h2 h3
      obtain ⟨Aj, cj, rfl⟩ := Kd.R_slice h1
      obtain ⟨_, hcj, hCj⟩ := Kd.R_reads' h1
      refine hK.out _ _ ⟨blk_cell ((h2.block _ hla).trans (blk_drew HKa.out)) 0, blk_cell ((h2.block _ hlb).trans (blk_drew HKb.out)) 0⟩ (fun _ => ?_)
      clear hK K
      refine last_ (i := 6) (N := some 90) (tf8 7) rfl rfl (by kernel_rfl) (by decide) (fun K hK => ?_)
      refine goes_ Tryz.func32 (by kernel_rfl) rfl #[.pointer (some ⟨g, 0, none⟩), .slice Aj (ts.map (ownP st) ++ [so]).length cj] (by rfl) rfl rfl (by first | rfl | (go_simp; done) | (go_simp; exact ⟨rfl, rfl⟩) | (go_simp; rfl)) ?_
      refine (tjoin_any (H0.out.below (below_then HB3.out HB3.out.size (HBd.out.trans h2))) HA.out (by omega) Aj cj (ts.map (ownP st) ++ [so]) hCj hcj (by omega)).mono ?_
      rintro e8 w8 ⟨rfl, hb8⟩
      refine ⟨_, rfl, hK.out _ _ ?_⟩
      clear hK K
      have HB8 := Lib.hid (below_then (HBd.out.trans h2) (Nat.le_trans HBd.out.size h2.size) hb8)
      refine pxt_ (v := ?_) (a' := ?_) rfl rfl (by kernel_rfl) (fun _ _ _ h => h) (Or.inl ⟨by rfl, ?_⟩) ?_ ?_
      rotate_left
      ·intro w'
       go_simp
       first | done | with_reducible rfl
      rotate_left
      ·simp only [Act.put, List.setIfInBounds_toArray, List.set_cons_zero, List.set_cons_succ, i64_w, i32_w]
       first | done | rfl
      refine done_ (by kernel_rfl) ?_
      go_wp2_with fail
      go_ret
      exact ⟨by rw [HRj.out]; rfl, below_then HB0.out HB0.out.size (below_then HB3.out HB3.out.size HB8.out)⟩
    ·have d2 : (kindP st so == 2) = false := by simp [hk]
     have HRj : Hid (reaP st tr i = joinP st (ts.map (ownP st) ++ [so])) := Lib.hid (by rw [HRe.out, if_neg (fun h => hk h.2.1)])
     clear hk
     go_wp2_with fail
     have hlj : ((ts.map (ownP st)) ++ [so]).length ≤ 1000 := by simp; omega
     have hsz7 := HB5.out.size
     have hl7 : (ts.map (ownP st)).length < 1000000 := by simp; omega
     have HUd := Lib.hid (Kd.R_drew HU5.out)
     have HTd := Lib.hid (HT5.out.below (below_drew (Below.refl _ _)))
     have HBd := Lib.hid (below_drew HB5.out)
     refine start_ (n := 8) (S := fun w' => w'.cell? ⟨w.heap.size, 0, none⟩ = some (.pointer (some ⟨g, 0, none⟩)) ∧ w'.cell? ⟨w1.heap.size + 1, 0, none⟩ = some (.int .i64 so)) (ds := [6]) (tf8 0) (by kernel_rfl) rfl (by kernel_rfl) ⟨y1, x0⟩ (fun hHeld => ?_)
     refine nxt_ (v := ?_) (a' := ?_) rfl rfl (by kernel_rfl) (fun _ _ _ h => h) (Or.inl ⟨by rfl, ?_⟩) hHeld ?_ ?_
     rotate_left
     ·rintro w' ⟨s0, s1⟩
      go_simp
      first | done | with_reducible rfl
     rotate_left
     ·simp only [Act.put, List.setIfInBounds_toArray, List.set_cons_zero, List.set_cons_succ, i64_w, i32_w]
      first | done | rfl
     iterate 2
      refine pxt_ (v := ?_) (a' := ?_) rfl rfl (by kernel_rfl) (fun _ _ _ h => h) (Or.inl ⟨by rfl, ?_⟩) ?_ ?_
      rotate_left
      ·intro w'
       go_simp
       first | done | with_reducible rfl
      rotate_left
      ·simp only [Act.put, List.setIfInBounds_toArray, List.set_cons_zero, List.set_cons_succ, i64_w, i32_w]
       first | done | rfl
     refine nxt_ (v := ?_) (a' := ?_) rfl rfl (by kernel_rfl) (fun _ _ _ h => h) (Or.inl ⟨by rfl, ?_⟩) hHeld ?_ ?_
     rotate_left
     ·rintro w' ⟨s0, s1⟩
      go_simp
      first | done | with_reducible rfl
     rotate_left
     ·simp only [Act.put, List.setIfInBounds_toArray, List.set_cons_zero, List.set_cons_succ, i64_w, i32_w]
      first | done | rfl
     refine one_ (i := 4) (N := some 88) (tf8 5) rfl rfl (by kernel_rfl) (by decide) (fun K hK => ?_)
     refine val_ (v := ?_) (w1 := w5.drew.alloc (.cells #[.int .i64 so] 3)) (by rfl) rfl ?_ ?_
     rotate_left 1
     ·go_simp
      rfl
     refine hK.out _ _ ⟨blk_cell (blk_alloc _ (blk_drew HKa.out)) 0, blk_cell (blk_alloc _ (blk_drew HKb.out)) 0⟩ (fun _ => ?_)
     clear hK K
     refine one_ (i := 5) (N := some 89) (tf8 6) rfl rfl (by kernel_rfl) (by decide) (fun K hK => ?_)
     refine inn_step (W := w5.drew) rfl (.tmp 85) (.tmp 88) rfl w3.heap.size _ (ts.map (ownP st)) so rfl _ rfl (by rfl) HUd.out hsz7 hl7 ?_
     intro v1 w7 h1 h2 h3
     obtain ⟨Aj, cj, rfl⟩ := Kd.R_slice h1
     obtain ⟨_, hcj, hCj⟩ := Kd.R_reads' h1
     refine hK.out _ _ ⟨blk_cell ((h2.block _ hla).trans (blk_drew HKa.out)) 0, blk_cell ((h2.block _ hlb).trans (blk_drew HKb.out)) 0⟩ (fun _ => ?_)
     clear hK K
     refine last_ (i := 6) (N := some 90) (tf8 7) rfl rfl (by kernel_rfl) (by decide) (fun K hK => ?_)
     refine goes_ Tryz.func32 (by kernel_rfl) rfl #[.pointer (some ⟨g, 0, none⟩), .slice Aj (ts.map (ownP st) ++ [so]).length cj] (by rfl) rfl rfl (by first | rfl | (go_simp; done) | (go_simp; exact ⟨rfl, rfl⟩) | (go_simp; rfl)) ?_
     refine (tjoin_any (H0.out.below (below_then HB3.out HB3.out.size (HBd.out.trans h2))) HA.out (by omega) Aj cj (ts.map (ownP st) ++ [so]) hCj hcj (by omega)).mono ?_
     rintro e8 w8 ⟨rfl, hb8⟩
     refine ⟨_, rfl, hK.out _ _ ?_⟩
     clear hK K
     have HB8 := Lib.hid (below_then (HBd.out.trans h2) (Nat.le_trans HBd.out.size h2.size) hb8)
     refine pxt_ (v := ?_) (a' := ?_) rfl rfl (by kernel_rfl) (fun _ _ _ h => h) (Or.inl ⟨by rfl, ?_⟩) ?_ ?_
     rotate_left
     ·intro w'
      go_simp
      first | done | with_reducible rfl
     rotate_left
     ·simp only [Act.put, List.setIfInBounds_toArray, List.set_cons_zero, List.set_cons_succ, i64_w, i32_w]
      first | done | rfl
     refine done_ (by kernel_rfl) ?_
     go_wp2_with fail
     go_ret
     exact ⟨by rw [HRj.out]; rfl, below_then HB0.out HB0.out.size (below_then HB3.out HB3.out.size HB8.out)⟩
theorem lset_any (h : TrM w g v st tr) (good : chkP v st tr = .none) (hF : fewP st tr = true) (set : Nat) (hset : set < 4294967296) (i : Int) :
  Calls Tryz.prog 74 #[.pointer (some ⟨g, 0, none⟩), .int .u32 (set : Nat), .int .i64 i] w fun e w' => e = .returned (.int .u32 (leaP st tr set i : Nat)) ∧ Below w.heap.size w w' := by
 have H := Lib.hid h
 have HGood := Lib.hid good
 have HF := Lib.hid hF
 clear h good hF
 go_enter Tryz.func74, Tryz.ntmps74
 go_wp2_with fail
 refine (reach_any H.out HGood.out HF.out i).mono ?_
 rintro e w1 ⟨rfl, hb1⟩
 have HB1 := Lib.hid hb1
 clear hb1
 by_cases c : reaP st tr i = -1
 ·have d1 : (reaP st tr i == -1) = true := by simp [c]
  have HR : Hid (leaP st tr set i = 0) := Lib.hid (if_pos c)
  clear c
  go_wp2_with fail
  go_ret
  exact ⟨by rw [HR.out]; rfl, HB1.out⟩
 ·have d1 : (reaP st tr i == -1) = false := by simp [c]
  have HR : Hid (leaP st tr set i = set &&& belP st (reaP st tr i)) := Lib.hid (if_neg c)
  obtain ⟨⟨_, _, hn1, hn, hn2⟩, _⟩ := chk_none HGood.out
  have hbl : belP st (reaP st tr i) < 4294967296 := by
   have h1 := setN_lt st (fun x => inP st x (reaP st tr i)) st.length
   have h2 : 2 ^ st.length ≤ 2 ^ 24 := Nat.pow_le_pow_right (by omega) hn
   have h3 : (2 : Nat) ^ 24 < 4294967296 := by decide
   unfold belP; omega
  have e1 : bits BinOp.and IntKind.u32 (set : Int) (belP st (reaP st tr i) : Nat) = ((set &&& belP st (reaP st tr i) : Nat) : Int) := u32_and_nat _ _ hset hbl
  clear c hbl
  go_wp2_with fail
  refine (tbel_any (H.out.below HB1.out) (good_ahead HGood.out) hn (reaP st tr i)).mono ?_
  rintro e w2 ⟨rfl, hb2⟩
  go_wp2_with (simp only [e1])
  go_ret
  exact ⟨by rw [HR.out, ← e1]; rfl, below_then HB1.out HB1.out.size hb2⟩
theorem clash_any (h : TrM w g v st tr) (good : chkP v st tr = .none) (hF : fewP st tr = true) (set : Nat) (hset : set < 4294967296) (i k : Int) :
  Calls Tryz.prog 24 #[.pointer (some ⟨g, 0, none⟩), .int .u32 (set : Nat), .int .i64 i, .int .i64 k] w fun e w' => e = .returned (.bool (claP st tr set i k)) ∧ Below w.heap.size w w' := by
 have H := Lib.hid h
 have HGood := Lib.hid good
 have HF := Lib.hid hF
 have hle : ∀ j, leaP st tr set j < 4294967296 := by
  intro j
  unfold leaP
  split
  ·decide
  ·exact Nat.lt_of_le_of_lt Nat.and_le_left hset
 have e1 : bits BinOp.and IntKind.u32 (leaP st tr set i : Nat) (leaP st tr set k : Nat) = ((leaP st tr set i &&& leaP st tr set k : Nat) : Int) := u32_and_nat _ _ (hle i) (hle k)
 have HR : Hid (claP st tr set i k = (((leaP st tr set i &&& leaP st tr set k : Nat) : Int) != 0)) := Lib.hid (by
  unfold claP
  by_cases c : leaP st tr set i &&& leaP st tr set k = 0
  ·rw [c]; rfl
  ·rw [decide_eq_true c]; symm; rw [bne_iff_ne]; omega)
 clear h good hF hle
 go_enter Tryz.func24, Tryz.ntmps24
 go_wp2_with fail
 refine (lset_any H.out HGood.out HF.out set hset i).mono ?_
 rintro e w1 ⟨rfl, hb1⟩
 have HB1 := Lib.hid hb1
 clear hb1
 go_wp2_with fail
 refine (lset_any (H.out.below HB1.out) HGood.out HF.out set hset k).mono ?_
 rintro e w2 ⟨rfl, hb2⟩
 go_wp2_with (simp only [e1])
 go_ret
 exact ⟨by rw [HR.out, ← e1]; rfl, below_then HB1.out HB1.out.size hb2⟩
end
end Go.Proofs.YtcjlpkegkehghaaGreatDoor
end
section
namespace Go.Proofs.YtcjlpkegkehghaaGreatDoor
open Go.RowKit Go.Proofs.YtcjlpkegkehghaaGreatDoorW.PrintWords
open PX (T V)
theorem few_z {st : List Sta} {tr : List Tra} (h : fewP st tr = true) : ∀ x ∈ tr, x.f2.size ≤ 281474976710656 := by
 simp only [fewP, Bool.and_eq_true, decide_eq_true_eq, List.all_eq_true] at h
 intro x hx
 have := h.2 x hx
 simp only [fewT, Bool.and_eq_true, decide_eq_true_eq] at this
 omega
theorem rdy_any (x : Tra) (A3 A5 : Option Addr) (c3 c5 : Nat) (hs : x.f2.size ≤ 281474976710656) (E : Option Addr) (ecap : Nat) (env : List Int) (w : World) (hw : Laid w) (hE : NumsC w E env.length env) (ev : Int) :
  Calls Tryz.prog 66 #[.agg #[.int .i64 x.f0, .int .i64 x.f1, .string x.f2, .slice A3 x.f3.length c3, .bool x.f4, .slice A5 x.f5.length c5], .slice E env.length ecap, .int .i64 ev] w fun e w' => e = .returned (.tuple #[.bool (rdyP x env ev).1, .bool (rdyP x env ev).2]) ∧ Below w.heap.size w w' := by
 have hb0 : Below w.heap.size w (w.alloc (.cells #[.int .i64 x.f0, .int .i64 x.f1, .string x.f2, .slice A3 x.f3.length c3, .bool x.f4, .slice A5 x.f5.length c5] 46)) := (Below.refl _ w).alloc (Nat.le_refl _) _
 have HB0 := Lib.hid hb0
 have HW := Lib.hid (hw.below hb0)
 have HE := Lib.hid (Kd.C_below hE hb0)
 have hk0 := blk_new w (.cells #[.int .i64 x.f0, .int .i64 x.f1, .string x.f2, .slice A3 x.f3.length c3, .bool x.f4, .slice A5 x.f5.length c5] 46)
 have hR : rdyP x env ev = if x.f1 ≠ ev ∨ x.f2.toList.isEmpty = true then (x.f1 == ev, false) else if (ofR (parseT x.f2) env).2.ok && (ofR (parseT x.f2) env).1.1 == 2 then ((ofR (parseT x.f2) env).1.2 == 1, false) else (false, true) := rfl
 obtain ⟨y0, y1, y2, y3, y4, y5⟩ : _ ∧ _ ∧ _ ∧ _ ∧ _ ∧ _ := ⟨blk_cell hk0 0, blk_cell hk0 1, blk_cell hk0 2, blk_cell hk0 3, blk_cell hk0 4, blk_cell hk0 5⟩
 clear hb0 hw hE hk0
 have HS := Lib.hid hs
 clear hs
 obtain ⟨f0, f1, f2, f3, f4, f5⟩ := x
 simp only at *
 by_cases h1 : f1 = ev
 ·subst h1
  have d1 : (f1 != f1) = false := by simp
  have d2 : (f1 == f1) = true := by simp
  by_cases h2 : f2.toList.isEmpty = true
  ·rw [if_pos (.inr h2)] at hR
   have HR := Lib.hid hR
   have e2 : f2.toList = [] := List.isEmpty_iff.1 h2
   clear hR
   go_enter Tryz.func66, Tryz.ntmps66
   go_wp2_with fail
   go_ret2
   exact ⟨by rw [HR.out]; simp, HB0.out⟩
  ·have h2' : f2.toList.isEmpty = false := by simpa using h2
   rw [if_neg (by rintro (h | h); exact h rfl; exact h2 h)] at hR
   have HR := Lib.hid hR
   clear hR h2
   go_enter Tryz.func66, Tryz.ntmps66
   go_wp2_with fail
   refine (of_any f2 HS.out E ecap env _ HW.out HE.out (parseT f2) (parseT_ok f2)).mono ?_
   rintro e w1 ⟨er, rfl, hev, hb⟩
   generalize ofR (parseT f2) env = r at hev HR ⊢
   obtain ⟨⟨k, n⟩, err⟩ := r
   have hb' := hb.alloc hb.size (.cells #[.int .i64 k, .int .i64 n] 106)
   have HB1 := Lib.hid (below_then HB0.out HB0.out.size hb')
   clear hb hb' y0 y1 y2 y3 y4 y5
   simp only [agV]
   by_cases he : err = .none
   ·subst he
    obtain rfl : er = .nilIface := hev
    by_cases hk : k = 2
    ·subst hk
     go_wp2_with fail
     go_ret2
     exact ⟨by rw [HR.out]; rfl, HB1.out⟩
    ·have k1 : (k == 2) = false := by simp [hk]
     have k2 : (k != 2) = true := by simp [hk]
     go_wp2_with fail
     go_ret2
     exact ⟨by rw [HR.out]; simp only [k1]; rfl, HB1.out⟩
   ·have hok : err.ok = false := by cases err <;> first | rfl | exact absurd rfl he
    rcases er_some hev he with ⟨c, rfl⟩ | ⟨c, rfl⟩
    all_goals
     go_wp2_with fail
     go_ret2
     exact ⟨by rw [HR.out]; simp only [hok]; rfl, HB1.out⟩
 ·have d1 : (f1 != ev) = true := by simp [h1]
  have d2 : (f1 == ev) = false := by simp [h1]
  rw [if_pos (.inl h1)] at hR
  have HR := Lib.hid hR
  clear hR h1
  go_enter Tryz.func66, Tryz.ntmps66
  go_wp2_with fail
  go_ret2
  exact ⟨by rw [HR.out]; simp [d2], HB0.out⟩
noncomputable def crdP (tr : List Tra) (env : List Int) (ev i : Int) : Bool × Bool := if thT tr i then rdyP (rdT tr i) env ev else (false, false)
section
variable {g : Nat} {v : Int} {st : List Sta} {tr : List Tra} {w : World}
theorem cready_any (h : TrM w g v st tr) (good : chkP v st tr = .none) (hF : fewP st tr = true) (hw : Laid w) (E : Option Addr) (ecap : Nat) (env : List Int) (hE : NumsC w E env.length env) (i ev : Int) :
  Calls Tryz.prog 21 #[.pointer (some ⟨g, 0, none⟩), .slice E env.length ecap, .int .i64 i, .int .i64 ev] w fun e w' => e = .returned (.tuple #[.bool (crdP tr env ev i).1, .bool (crdP tr env ev i).2]) ∧ Below w.heap.size w w' := by
 have H := Lib.hid h
 have HE := Lib.hid hE
 have HW := Lib.hid hw
 have HFz := Lib.hid (few_z hF)
 obtain ⟨⟨_, _, hn1, hn, hn2⟩, _⟩ := chk_none good
 obtain ⟨hS, hTr⟩ := few_s hF
 clear h good hF hE hw
 go_enter Tryz.func21, Tryz.ntmps21
 go_wp2_with fail
 refine (tchart_any H.out (by omega) (by omega) (by omega) hS hTr).mono ?_
 rintro e w1 ⟨gS, ca, B, cb, rfl, hM, hb1, _, _, _⟩
 have hal : Below w1.heap.size w1 (w1.alloc (.cells #[.int .i64 v, .slice (some ⟨gS, 0, none⟩) st.length ca, .slice B tr.length cb] 25)) := (Below.refl _ w1).alloc (Nat.le_refl _) _
 have hkc := blk_new w1 (.cells #[.int .i64 v, .slice (some ⟨gS, 0, none⟩) st.length ca, .slice B tr.length cb] 25)
 have HB2 := Lib.hid (below_then hb1 hb1.size hal)
 have HM := Lib.hid (hM.below hal)
 have z2 : (w1.alloc (.cells #[.int .i64 v, .slice (some ⟨gS, 0, none⟩) st.length ca, .slice B tr.length cb] 25)).cell? ⟨w1.heap.size, 2, none⟩ = some (.slice B tr.length cb) := blk_cell hkc 2
 clear hM hb1 hkc hal hS hTr
 by_cases c1 : i < 0
 ·have d1 : decide (i < 0) = true := decide_eq_true c1
  have HN : Hid (crdP tr env ev i = (false, false)) := Lib.hid (if_neg fun h => by have := h.1; omega)
  clear c1
  go_wp2_with fail
  go_ret2
  exact ⟨by rw [HN.out]; rfl, HB2.out⟩
 by_cases c2 : (tr.length : Int) ≤ i
 ·have d1 : decide (i < 0) = false := decide_eq_false c1
  have d2 : decide (i ≥ (tr.length : Int)) = true := decide_eq_true c2
  have d2' : decide ((tr.length : Int) ≤ i) = true := decide_eq_true c2
  have HN : Hid (crdP tr env ev i = (false, false)) := Lib.hid (if_neg fun h => by have := h.2; omega)
  clear c1 c2
  go_wp2_with fail
  go_ret2
  exact ⟨by rw [HN.out]; rfl, HB2.out⟩
 have HN : Hid (crdP tr env ev i = rdyP (rdT tr i) env ev) := Lib.hid (if_pos ⟨by omega, by omega⟩)
 have d1 : decide (i < 0) = false := decide_eq_false c1
 have d2 : decide (i ≥ (tr.length : Int)) = false := decide_eq_false c2
 have d2' : decide ((tr.length : Int) ≤ i) = false := decide_eq_false c2
 have p0 : (0 ≤ i) = True := eq_true (by omega)
 have p1 : (i < (tr.length : Int)) = True := eq_true (by omega)
 obtain ⟨ad, A3, c3, A5, c5, rfl, q0, q1, q2, q3, q4, q5, l3, g3, l5, g5⟩ := PAll.at_T46 HM.out.ct i (by omega) (by omega)
 have hz : (rdT tr i).f2.size ≤ 281474976710656 := by
  have e : i = ((i.toNat : Nat) : Int) := by omega
  have hlt : i.toNat < tr.length := by omega
  rw [e, rdT_at hlt]
  exact HFz.out _ (List.getElem_mem hlt)
 have HZ := Lib.hid hz
 clear hz c1 c2 g3 g5 l3 l5
 go_wp2_with fail
 refine (rdy_any (rdT tr i) A3 A5 c3 c5 HZ.out E ecap env _ (HW.out.below HB2.out) (Kd.C_below HE.out HB2.out) ev).mono ?_
 rintro e w3 ⟨rfl, hb3⟩
 go_wp2_with fail
 go_ret2
 exact ⟨by rw [HN.out]; rfl, below_then HB2.out HB2.out.size hb3⟩
end
end Go.Proofs.YtcjlpkegkehghaaGreatDoor
end
