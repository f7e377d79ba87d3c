/- Texts of this claim, merged (Chop, Epl, Ebit, Tnew, Tord, Esh, Ekid, Town, Eadd, Estd, Edwn, Erl). -/
import Derived.Shelf.Spec.TrailingZeros
import Derived.Lib.LaidTab
import Derived.Deep.QuietTactic
import Derived.BigQuiet
import Derived.Test.YtikilglbhnplaaaGreatDoorZMacroIdle13
import Derived.Test.YtikilglbhnplaaaGreatDoorZMacroIdle16
import Derived.Test.YtikilglbhnplaaaGreatDoorZMacroIdle11
import Derived.Test.YtikilglbhnplaaaGreatDoorZMacroIdle8
import Derived.Test.YtikilglbhnplaaaGreatDoorZMacroIdle9
set_option linter.unusedVariables false
set_option linter.unusedSimpArgs false
set_option maxRecDepth 100000
set_option maxHeartbeats 32000000
section
namespace Go.Proofs.YtikilglbhnplaaaGreatDoor
open Go.RowKit Go.Proofs.YtikilglbhnplaaaGreatDoorW.PrintWords
abbrev rdT (tr : List Tra) (i : Int) : Tra := PAll.rd_T63 tr i
abbrev thT (tr : List Tra) (i : Int) : Prop := 0 ≤ i ∧ i < (tr.length : Int)
def lvN (st : List Sta) (set : Nat) : Nat → List Int
 | 0 => []
 | q + 1 => lvN st set q ++ if set.testBit q = true ∧ ((rdS st (q : Int)).f0 = 1 ∨ (rdS st (q : Int)).f0 = 4) then [(q : Int)] else []
def lvP (st : List Sta) (set : Nat) : List Int := lvN st set st.length
def reaP (st : List Sta) (tr : List Tra) (i : Int) : Int :=
 if ¬ thT tr i ∨ (rdT tr i).f3 = [] then -1
 else if (rdT tr i).f4 = true ∧ kindP st (rdT tr i).f0 = 2 ∧ ((rdT tr i).f3.map (ownP st)).any (fun s => !inP st s (rdT tr i).f0) = false then (rdT tr i).f0
 else joinP st ((rdT tr i).f3.map (ownP st) ++ [(rdT tr i).f0])
def leaP (st : List Sta) (tr : List Tra) (set : Nat) (i : Int) : Nat := if reaP st tr i = -1 then 0 else set &&& belP st (reaP st tr i)
def claP (st : List Sta) (tr : List Tra) (set : Nat) (i k : Int) : Bool := decide (leaP st tr set i &&& leaP st tr set k ≠ 0)
noncomputable def rdyP (x : Tra) (env : List Int) (ev : Int) : Bool × Bool :=
 if x.f1 ≠ ev ∨ x.f2.toList.isEmpty = true then (x.f1 == ev, false)
 else if (ofR (parseT x.f2) env).2.ok && (ofR (parseT x.f2) env).1.1 == 2 then ((ofR (parseT x.f2) env).1.2 == 1, false) else (false, true)
def one01 (b : Bool) (n : Nat) : Nat := if b = true then n + 1 else n
noncomputable def scT (env : List Int) (ev s : Int) : List Tra → Int → Nat → Int × Nat
 | [], _, n => (-1, n)
 | x :: r, i, n => if x.f0 ≠ s then scT env ev s r (i + 1) n else if (rdyP x env ev).1 = true then (i, one01 (rdyP x env ev).2 n) else scT env ev s r (i + 1) (one01 (rdyP x env ev).2 n)
noncomputable def scS (tr : List Tra) (env : List Int) (ev : Int) : List Int → Nat → Int × Nat
 | [], n => (-1, n)
 | s :: r, n => if 0 ≤ (scT env ev s tr 0 n).1 then scT env ev s tr 0 n else scS tr env ev r (scT env ev s tr 0 n).2
def addI (out : List Int) (i : Int) : List Int := if i < 0 ∨ out.contains i = true then out else out ++ [i]
noncomputable def gaF (st : List Sta) (tr : List Tra) (env : List Int) (ev : Int) : List Int → List Int → Nat → List Int × Nat
 | [], out, n => (out, n)
 | a :: r, out, n => gaF st tr env ev r (addI out (scS tr env ev (a :: upP st a) n).1) (scS tr env ev (a :: upP st a) n).2
noncomputable def gaP (st : List Sta) (tr : List Tra) (set : Nat) (env : List Int) (ev : Int) : List Int × Nat := gaF st tr env ev (lvP st set) [] 0
def siK (st : List Sta) (tr : List Tra) (set : Nat) (i : Int) : List Int → List Int → Bool × List Int
 | [], g => (true, g)
 | k :: r, g => if claP st tr set i k = false then siK st tr set i r g else if inP st (rdT tr i).f0 (rdT tr k).f0 = false then (false, g) else siK st tr set i r (g ++ [k])
def sift (kept g : List Int) (i : Int) : List Int := kept.filter (fun k => !g.contains k) ++ [i]
def siF (st : List Sta) (tr : List Tra) (set : Nat) : List Int → List Int → List Int
 | [], kept => kept
 | i :: r, kept => if ¬ thT tr i then siF st tr set r kept else siF st tr set r (if (siK st tr set i kept []).1 = true then sift kept (siK st tr set i kept []).2 i else kept)
def siP (st : List Sta) (tr : List Tra) (set : Nat) (l : List Int) : List Int := siF st tr set l []
section
variable {st : List Sta} {tr : List Tra} {set : Nat} {env : List Int} {ev : Int}
theorem rdT_at {tr : List Tra} {i : Nat} (h : i < tr.length) : rdT tr (i : Int) = tr[i] := by
 simp [rdT, PAll.rd_T63, List.getD_eq_getElem?_getD, List.getElem?_eq_getElem h]
theorem rdy_fine {x : Tra} (h : (rdyP x env ev).1 = true) : (rdyP x env ev).2 = false := by
 unfold rdyP at h ⊢
 split
 ·rfl
 ·rename_i c
  rw [if_neg c] at h
  split
  ·rfl
  ·rename_i c2; rw [if_neg c2] at h; cases h
theorem rdy_bare {x : Tra} (h : x.f2.toList.isEmpty = true) : (rdyP x env ev).2 = false := by
 unfold rdyP; rw [if_pos (.inr h)]
end
end Go.Proofs.YtikilglbhnplaaaGreatDoor
end
section
namespace Go.Proofs.YtikilglbhnplaaaGreatDoor.Ent
structure Shp where
 n : Nat
 kind : Int → Int
 par : Int → Int
 ini : Int → Int
 kids : Int → List Int
 bel : Int → Nat
 up : Int → List Int
 stands : Int → List Int
abbrev ES := Nat × Nat
def regE (sh : Shp) (d : ES → Int → ES) (S : ES) (s : Int) : ES := (sh.kids s).foldl (fun S k => if S.1 &&& sh.bel k = 0 then d S k else S) S
def abvL (sh : Shp) (d : ES → Int → ES) (tz : Int) : List Int → ES → ES
 | [], S => S
 | x :: r, S => if x = tz then S else abvL sh d tz r (if sh.kind x = 3 then regE sh d (S.1 ||| 2 ^ x.toNat, S.2) x else (S.1 ||| 2 ^ x.toNat, S.2))
def abvE (sh : Shp) (d : ES → Int → ES) (S : ES) (s tz : Int) : ES := abvL sh d tz (sh.up s) S
def dwnE (sh : Shp) : Nat → ES → Int → ES
 | 0, S, _ => S
 | f + 1, S, s =>
  if S.2 = 0 ∨ (sh.n : Int) ≤ s then S
  else if sh.kind s = 5 ∨ sh.kind s = 6 then
   (sh.stands s).foldl (fun S y => abvE sh (dwnE sh f) S y (sh.par s)) ((sh.stands s).foldl (dwnE sh f) (S.1, S.2 - 1))
  else if sh.kind s = 2 then abvE sh (dwnE sh f) (dwnE sh f (S.1 ||| 2 ^ s.toNat, S.2 - 1) (sh.ini s)) (sh.ini s) s
  else if sh.kind s = 3 then regE sh (dwnE sh f) (S.1 ||| 2 ^ s.toNat, S.2 - 1) s
  else (S.1 ||| 2 ^ s.toNat, S.2 - 1)
def has (S : Nat) (x : Int) : Prop := 0 ≤ x ∧ S.testBit x.toNat = true
def cnt (n : Nat) (S : Nat) : Nat := ((List.range n).filter (fun x => S.testBit x)).length
structure ShOk (sh : Shp) (In : Int → Int → Prop) : Prop where
 few : sh.n ≤ 24
 parent : ∀ s : Int, 0 < s → s < sh.n → 0 ≤ sh.par s ∧ sh.par s < s
 root : sh.par 0 = -1
 kinds : ∀ s : Int, 0 ≤ s → s < sh.n → 1 ≤ sh.kind s ∧ sh.kind s ≤ 6
 inner : ∀ s : Int, 0 < s → s < sh.n → sh.kind (sh.par s) = 2 ∨ sh.kind (sh.par s) = 3
 kid : ∀ s k : Int, k ∈ sh.kids s ↔ 0 < k ∧ k < sh.n ∧ sh.par k = s ∧ sh.kind k < 5
 some : ∀ s : Int, 0 ≤ s → s < sh.n → sh.kind s = 2 ∨ sh.kind s = 3 → ∃ k, k ∈ sh.kids s
 ins : ∀ a b : Int, In a b ↔ 0 < a ∧ a < sh.n ∧ 0 ≤ b ∧ (sh.par a = b ∨ In (sh.par a) b)
 below : ∀ s x : Int, has (sh.bel s) x ↔ In x s ∧ sh.kind x < 5
 ups : ∀ s : Int, 0 ≤ s → s < sh.n → sh.up s = if 0 < s then sh.par s :: sh.up (sh.par s) else []
 init : ∀ s : Int, 0 ≤ s → s < sh.n → sh.kind s = 2 → In (sh.ini s) s ∧ sh.kind (sh.ini s) < 5
 loss : ∃ L : Int → Nat, (∀ c : Int, L c ≤ 32) ∧ ∀ c : Int, 0 < c → c < sh.n → L (sh.par c) + (sh.kids (sh.par c)).length ≤ L c
section
variable {sh : Shp} {In : Int → Int → Prop} (ok : ShOk sh In)
include ok
abbrev at' (In : Int → Int → Prop) (x k : Int) : Prop := x = k ∨ In x k
end
def Cont (In : Int → Int → Prop) (S : Nat) (k : Int) : Prop := ∃ x, has S x ∧ at' In x k
structure Inv (sh : Shp) (In : Int → Int → Prop) (S : Nat) (E : Int → Prop) : Prop where
 sub : ∀ x : Int, has S x → x < sh.n ∧ sh.kind x < 5
 one : ∀ s : Int, 0 ≤ s → s < sh.n → sh.kind s = 2 → ∀ k j : Int, k ∈ sh.kids s → j ∈ sh.kids s → Cont In S k → Cont In S j → k = j
 need2 : ∀ s : Int, has S s → ¬ E s → sh.kind s = 2 → ∃ k, k ∈ sh.kids s ∧ Cont In S k
 need3 : ∀ s : Int, has S s → ¬ E s → sh.kind s = 3 → ∀ k : Int, k ∈ sh.kids s → Cont In S k
def pot (sh : Shp) (S : ES) : Nat := S.2 + 64 * cnt sh.n S.1
structure Dn (sh : Shp) (In : Int → Int → Prop) (E : Int → Prop) (S S' : ES) (s : Int) : Prop where
 inv : Inv sh In S'.1 E
 more : ∀ x : Int, has S.1 x → has S'.1 x
 self : has S'.1 s
 new : ∀ x : Int, has S'.1 x → has S.1 x ∨ x = s ∨ (In x s ∧ has S'.1 (sh.par x))
 left : S'.2 ≤ S.2
 pot : pot sh S ≤ pot sh S' + 1
end Go.Proofs.YtikilglbhnplaaaGreatDoor.Ent
end
section
namespace Go.Proofs.YtikilglbhnplaaaGreatDoor
open Go.RowKit Go.Proofs.YtikilglbhnplaaaGreatDoorW.PrintWords
open PX (T V)
def bitsN (x : Nat) (i n : Nat) : List Nat := (List.range' i n).filter (fun j => x.testBit j)
def listP (x : Nat) : List Int := (bitsN x 0 32).map (fun (j : Nat) => (j : Int))
theorem bitsN_split (x i a b : Nat) : bitsN x i (a + b) = bitsN x i a ++ bitsN x (i + a) b := by
 unfold bitsN
 have : List.range' i (a + b) = List.range' i a ++ List.range' (i + a) b := by simp [List.range'_append_1]
 rw [this, List.filter_append]
theorem bitsN_none {x i n : Nat} (h : ∀ j, i ≤ j → j < i + n → x.testBit j = false) : bitsN x i n = [] := by
 unfold bitsN
 rw [List.filter_eq_nil_iff]
 intro j hj
 rw [List.mem_range'_1] at hj
 simp [h j hj.1 hj.2]
theorem bitsN_same {x y i n : Nat} (h : ∀ j, i ≤ j → j < i + n → x.testBit j = y.testBit j) : bitsN x i n = bitsN y i n := by
 unfold bitsN
 refine List.filter_congr ?_
 intro j hj
 rw [List.mem_range'_1] at hj
 exact h j hj.1 hj.2
theorem low_bits (k m : Nat) : (∀ j, j < k → (2 ^ k * (2 * m + 1)).testBit j = false) ∧ (2 ^ k * (2 * m + 1)).testBit k = true ∧
  (∀ j, j ≤ k → ((2 ^ k * (2 * m + 1)) &&& (2 ^ k * (2 * m + 1) - 1)).testBit j = false) ∧ ∀ j, k < j → ((2 ^ k * (2 * m + 1)) &&& (2 ^ k * (2 * m + 1) - 1)).testBit j = (2 ^ k * (2 * m + 1)).testBit j := by
 have hp : 0 < 2 ^ k := Nat.two_pow_pos k
 have e1 : ∀ j, (2 ^ k * (2 * m + 1)).testBit j = if j < k then false else (2 * m + 1).testBit (j - k) := by
  intro j
  have := Nat.testBit_two_pow_mul_add (2 * m + 1) (b := 0) hp j
  rw [Nat.add_zero, Nat.zero_testBit] at this
  exact this
 have e2 : ∀ j, (2 ^ k * (2 * m + 1) - 1).testBit j = if j < k then (2 ^ k - 1).testBit j else (2 * m).testBit (j - k) := by
  intro j
  have := Nat.testBit_two_pow_mul_add (2 * m) (i := k) (b := 2 ^ k - 1) (by omega) j
  have e : 2 ^ k * (2 * m) + (2 ^ k - 1) = 2 ^ k * (2 * m + 1) - 1 := by rw [Nat.mul_add, Nat.mul_one]; omega
  rw [e] at this
  exact this
 refine ⟨fun j hj => by rw [e1, if_pos hj], ?_, fun j hj => ?_, fun j hj => ?_⟩
 ·rw [e1, if_neg (Nat.lt_irrefl k), Nat.sub_self, Nat.testBit_zero]
  simp
 ·rw [Nat.testBit_and, e1, e2]
  by_cases h : j < k
  ·rw [if_pos h, Bool.false_and]
  ·obtain rfl : j = k := by omega
   rw [if_neg h, if_neg h, Nat.sub_self, Nat.testBit_zero, Nat.testBit_zero]
   simp
 ·rw [Nat.testBit_and, e1, e2, if_neg (by omega), if_neg (by omega)]
  obtain ⟨d, hd⟩ : ∃ d, j - k = d + 1 := ⟨j - k - 1, by omega⟩
  rw [hd, Nat.testBit_succ, Nat.testBit_succ, show (2 * m + 1) / 2 = m by omega, show 2 * m / 2 = m by omega, Bool.and_self]
theorem listP_step {x : Nat} (h0 : x ≠ 0) (h : x < 4294967296) : listP x = ((Lib.ctz 32 x : Nat) : Int) :: listP (x &&& (x - 1)) ∧ (x &&& (x - 1)) < x := by
 obtain ⟨m, hm, hk⟩ := Lib.ctzFrom_spec 32 x (by omega) h
 have hc : Lib.ctz 32 x = Lib.ctzFrom 32 x := by unfold Lib.ctz; rw [if_neg h0]
 rw [hc]
 generalize Lib.ctzFrom 32 x = k at *
 obtain ⟨l1, l2, l3, l4⟩ := low_bits k m
 rw [← hm] at l1 l2 l3 l4
 refine ⟨?_, ?_⟩
 ·have e : (32 : Nat) = k + (1 + (31 - k)) := by omega
  have s1 : bitsN x 0 32 = k :: bitsN x (k + 1) (31 - k) := by
   conv => lhs; rw [e]
   rw [bitsN_split, bitsN_split, bitsN_none (fun j _ hj => l1 j (by omega)), Nat.zero_add]
   have : bitsN x k 1 = [k] := by unfold bitsN; simp [List.range'_one, l2]
   rw [this]; rfl
  have s2 : bitsN (x &&& (x - 1)) 0 32 = bitsN x (k + 1) (31 - k) := by
   conv => lhs; rw [e]
   rw [bitsN_split, bitsN_split, bitsN_none (fun j _ hj => l3 j (by omega)), bitsN_none (fun j hj1 hj2 => l3 j (by omega)), Nat.zero_add]
   exact bitsN_same (fun j hj _ => l4 j (by omega))
  unfold listP
  rw [s1, s2]; rfl
 ·have := Nat.and_le_right (n := x) (m := x - 1)
  omega
theorem listP_zero : listP 0 = [] := by
 unfold listP
 rw [bitsN_none (fun j _ _ => Nat.zero_testBit j)]; rfl
theorem listP_mem {x : Nat} {y : Int} (h : y ∈ listP x) : 0 ≤ y ∧ y < 32 ∧ x.testBit y.toNat = true := by
 unfold listP bitsN at h
 rw [List.mem_map] at h
 obtain ⟨j, hj, rfl⟩ := h
 rw [List.mem_filter, List.mem_range'_1] at hj
 exact ⟨by omega, by omega, by simpa using hj.2⟩
theorem listP_len (x : Nat) : (listP x).length ≤ 32 := by
 unfold listP bitsN
 rw [List.length_map]
 exact Nat.le_trans (List.length_filter_le _ _) (by simp)
structure LaidZ (w : World) : Prop extends Laid w where
 tz : Lib.TabIs Tryz.prog w "math/bits.deBruijn32tab" .u8 (Lib.deBruijn32tab.map Int.ofNat)
theorem LaidZ.below {w w' : World} (h : LaidZ w) (hb : Below w.heap.size w w') : LaidZ w' := ⟨h.toLaid.below hb, var_below hb h.tz⟩
theorem gTz : Tryz.prog.globalNamed "math/bits.deBruijn32tab" = some 0 := by kernel_rfl
theorem tz_cell {w : World} (h : LaidZ w) (j : Nat) (hj : j < 32) : w.cell? ⟨0, j, none⟩ = some (.int .u8 (Lib.deBruijn32tab.getD j 0)) := by
 have := h.tz.cell gTz j (by show j < (Lib.deBruijn32tab.map Int.ofNat).length; simpa [Lib.deBruijn32tab] using hj)
 rw [this]
 have hl : j < Lib.deBruijn32tab.length := by simpa [Lib.deBruijn32tab] using hj
 simp [List.getD_eq_getElem?_getD, List.getElem?_eq_getElem hl]
theorem tz_core (x k idx : Nat) (w : World) (hx0 : ((x : Int) == 0) = false)
  (key : bits BinOp.and IntKind.u32 (x : Int) (-(x : Int) % 4294967296) * 125613361 % 4294967296 / 134217728 = (idx : Int))
  (hi : idx < 32) (hk : k < 32) (hcell : w.cell? ⟨0, idx, none⟩ = some (.int .u8 k)) :
  Calls Tryz.prog 97 #[.int .u32 (x : Int)] w fun e w' => e = .returned (.int .i64 (k : Int)) ∧ w' = w := by
 go_enter Tryz.func97, Tryz.ntmps97
 go_wp2_with (simp only [key])
 go_ret
 exact ⟨rfl, rfl⟩
theorem tz_any (x : Nat) (h0 : x ≠ 0) (hx : x < 4294967296) (w : World) (hw : LaidZ w) :
  Calls Tryz.prog 97 #[.int .u32 (x : Int)] w fun e w' => e = .returned (.int .i64 (Lib.ctz 32 x : Nat)) ∧ w' = w := by
 obtain ⟨hlow, hk⟩ := Lib.lowest_bit 32 x h0 hx
 obtain ⟨hi, htab⟩ := Lib.deBruijn32_at _ hk
 have hcell := tz_cell hw _ hi
 rw [htab] at hcell
 exact tz_core x _ _ w (by rw [beq_eq_false_iff_ne]; omega) (tz32_key x _ hx h0 hlow) hi hk hcell
end Go.Proofs.YtikilglbhnplaaaGreatDoor
end
section
namespace Go.Proofs.YtikilglbhnplaaaGreatDoor
open Go.RowKit Go.Proofs.YtikilglbhnplaaaGreatDoorW.PrintWords
open PX (T V)
theorem few_s {st : List Sta} {tr : List Tra} (h : fewP st tr = true) : (∀ x ∈ st, x.f2.length ≤ 1000 ∧ x.f3.length ≤ 1000 ∧ x.f4.length ≤ 1000) ∧ ∀ x ∈ tr, x.f3.length ≤ 1000 ∧ x.f5.length ≤ 1000 := by
 simp only [fewP, Bool.and_eq_true, decide_eq_true_eq, List.all_eq_true] at h
 obtain ⟨⟨⟨h1, h2⟩, h3⟩, h4⟩ := h
 refine ⟨fun x hx => ?_, fun x hx => ?_⟩
 ·have := h3 x hx
  simp only [fewS, fewAP, Bool.and_eq_true, decide_eq_true_eq, List.all_eq_true] at this
  omega
 ·have := h4 x hx
  simp only [fewT, fewAP, Bool.and_eq_true, decide_eq_true_eq, List.all_eq_true] at this
  omega
theorem erV_low {B B' : Nat} {w : World} {v : Value} {e : Er} (h : ErV B w v e) (hB : B' ≤ B) : ErV B' w v e := by
 cases e with
 | none => exact h
 | code c => exact h
 | spot a c => obtain ⟨g, h1, h2, h3⟩ := h; exact ⟨g, h1, by omega, h3⟩
theorem good_ahead {v : Int} {st : List Sta} {tr : List Tra} (h : chkP v st tr = .none) : Ahead st := by
 obtain ⟨_, h2, _⟩ := chk_none h
 exact ahead_of h2
theorem tnew_any (v : Int) (A B : Option Addr) (ca cb : Nat) (st : List Sta) (tr : List Tra) (hF : fewP st tr = true) (w : World) (hw : Laid w) (hM : ChM w A ca st B cb tr) :
  Calls Tryz.prog 10 #[ckV v A B st.length tr.length ca cb] w fun e w' => (∃ p ev, e = .returned (.tuple #[p, ev]) ∧ ((chkP v st tr = .none ∧ ∃ g, p = .pointer (some ⟨g, 0, none⟩) ∧ ev = .nilIface ∧ w.heap.size ≤ g ∧ TrM w' g v st tr) ∨ (chkP v st tr ≠ .none ∧ p = .pointer none ∧ ErV w.heap.size w' ev (chkP v st tr)))) ∧ Below w.heap.size w w' := by
 have k6 := eqErr
 have hb0 : Below w.heap.size w (w.alloc (.cells #[.int .i64 v, .slice A st.length ca, .slice B tr.length cb] 25)) := (Below.refl _ w).alloc (Nat.le_refl _) _
 have HB0 := Lib.hid hb0
 have HW := Lib.hid (hw.below hb0)
 have HM := Lib.hid (hM.below hb0)
 have HG := Lib.hid (blk_new w (.cells #[.int .i64 v, .slice A st.length ca, .slice B tr.length cb] 25))
 obtain ⟨hfc, hl1, hl2⟩ := few_of hF
 obtain ⟨hS, hT⟩ := few_s hF
 have HFC := Lib.hid hfc
 have HSl := Lib.hid hS
 have HTl := Lib.hid hT
 clear hb0 hw hM hfc hS hT
 go_enter Tryz.func10, Tryz.ntmps10
 go_wp2_with fail
 generalize w.alloc (.cells #[.int .i64 v, .slice A st.length ca, .slice B tr.length cb] 25) = w0 at HB0 HW HM HG ⊢
 have hk := HG.out
 obtain ⟨y0, y1, y2⟩ : w0.cell? ⟨w.heap.size, 0, none⟩ = some (.int .i64 v) ∧ w0.cell? ⟨w.heap.size, 1, none⟩ = some (.slice A st.length ca) ∧ w0.cell? ⟨w.heap.size, 2, none⟩ = some (.slice B tr.length cb) := ⟨blk_cell hk 0, blk_cell hk 1, blk_cell hk 2⟩
 clear hk
 go_wp2_with fail
 refine (check_any v A B ca cb st tr HFC.out _ HW.out HM.out).mono ?_
 rintro e w1 ⟨ev, rfl, hev, hb1⟩
 have HB1 := Lib.hid (below_then HB0.out HB0.out.size hb1)
 by_cases he : chkP v st tr = .none
 ·obtain rfl := er_nil hev he
  have HE := Lib.hid he
  have hk := (hb1.block _ (lt_of_block HG.out)).trans HG.out
  clear y0 y1 y2
  obtain ⟨y0, y1, y2⟩ : w1.cell? ⟨w.heap.size, 0, none⟩ = some (.int .i64 v) ∧ w1.cell? ⟨w.heap.size, 1, none⟩ = some (.slice A st.length ca) ∧ w1.cell? ⟨w.heap.size, 2, none⟩ = some (.slice B tr.length cb) := ⟨blk_cell hk 0, blk_cell hk 1, blk_cell hk 2⟩
  have HM1 := Lib.hid (HM.out.below hb1)
  clear he hev hk hb1
  go_wp2_with fail
  refine (copied_any v A B ca cb st tr (by have := (chk_none HE.out).1; omega) (by omega) (by omega) HSl.out HTl.out _ HM1.out).mono ?_
  rintro e w2 ⟨A', ca', B', cb', rfl, hM2, hb2⟩
  have HB2 := Lib.hid (below_then HB1.out HB1.out.size hb2)
  have hal : Below w2.heap.size w2 (w2.alloc (.cells #[.int .i64 v, .slice A' st.length ca', .slice B' tr.length cb'] 83)) := (Below.refl _ w2).alloc (Nat.le_refl _) _
  have HTr := Lib.hid (show TrM (w2.alloc (.cells #[.int .i64 v, .slice A' st.length ca', .slice B' tr.length cb'] 83)) w2.heap.size v st tr from ⟨A', ca', B', cb', blk_new w2 _, hM2.below hal⟩)
  have HB3 := Lib.hid (below_then HB2.out HB2.out.size hal)
  clear hM2 hal hb2
  go_wp2_with fail
  go_ret2
  exact ⟨⟨_, _, rfl, .inl ⟨HE.out, _, rfl, rfl, HB2.out.size, HTr.out⟩⟩, HB3.out⟩
 ·have HE := Lib.hid he
  have HEv := Lib.hid (erV_low hev HB0.out.size)
  rcases er_some hev he with ⟨c, rfl⟩ | ⟨c, rfl⟩
  all_goals
   clear he hev
   go_wp2_with fail
   go_ret2
   exact ⟨⟨_, _, rfl, .inr ⟨HE.out, rfl, HEv.out⟩⟩, HB1.out⟩
theorem few7 : fewP least2 [] = true := by decide
end Go.Proofs.YtikilglbhnplaaaGreatDoor
end
section
namespace Go.Proofs.YtikilglbhnplaaaGreatDoor
open Go.RowKit Go.Proofs.YtikilglbhnplaaaGreatDoorW.PrintWords
open PX (T V)
theorem good_kind {v : Int} {st : List Sta} {tr : List Tra} (h : chkP v st tr = .none) {s : Int} (hs : thS st s) : 1 ≤ (rdS st s).f0 ∧ (rdS st s).f0 ≤ 6 := by
 have := (chk_none h).2.1 s hs.1 hs.2
 unfold stateP at this
 split at this
 ·omega
 ·rename_i h1
  simp only [not_or] at h1
  obtain ⟨h1, h2, _⟩ := h1
  show 1 ≤ (PAll.rd_T66 st s).f0 ∧ (PAll.rd_T66 st s).f0 ≤ 6
  omega
theorem bel_lt {st : List Sta} (hl : st.length ≤ 24) (s : Int) : belP st s < 4294967296 := by
 have h1 := setN_lt st (fun x => inP st x s) st.length
 have h2 : 2 ^ st.length ≤ 2 ^ 24 := Nat.pow_le_pow_right (by omega) hl
 have h3 : (2 : Nat) ^ 24 < 4294967296 := by decide
 unfold belP
 omega
end Go.Proofs.YtikilglbhnplaaaGreatDoor
end
section
namespace Go.Proofs.YtikilglbhnplaaaGreatDoor
open Go.RowKit Go.Proofs.YtikilglbhnplaaaGreatDoorW.PrintWords
open PX (T V)
def kidB (st : List Sta) (s : Int) : Nat := setN st (fun x => decide (thS st s) && decide ((rdS st x).f1 = s)) st.length
theorem kidB_lt {st : List Sta} (hl : st.length ≤ 24) (s : Int) : kidB st s < 4294967296 := by
 have h1 := setN_lt st (fun x => decide (thS st s) && decide ((rdS st x).f1 = s)) st.length
 have h2 : 2 ^ st.length ≤ 2 ^ 24 := Nat.pow_le_pow_right (by omega) hl
 have h3 : (2 : Nat) ^ 24 < 4294967296 := by decide
 unfold kidB
 omega
def shOf (st : List Sta) (hs : List Int) : Ent.Shp where
 n := st.length
 kind s := (rdS st s).f0
 par s := (rdS st s).f1
 ini s := rd (rdS st s).f2 0
 kids s := listP (kidB st s)
 bel := belP st
 up := upP st
 stands s := if s < (hs.length : Int) ∧ rd hs s ≠ 0 then listP (rd hs s).toNat else (rdS st s).f2
end Go.Proofs.YtikilglbhnplaaaGreatDoor
end
section
namespace Go.Proofs.YtikilglbhnplaaaGreatDoor
open Go.RowKit Go.Proofs.YtikilglbhnplaaaGreatDoorW.PrintWords Go.Proofs.YtikilglbhnplaaaGreatDoorW.PrintLast
open PX (T V)
section
variable {g : Nat} {v : Int} {st : List Sta} {tr : List Tra} {w : World}
theorem tthere_same (h : TrM w g v st tr) (s : Int) {b : Bool} (hb : decide (thS st s) = b) : Calls Tryz.prog 37 #[.pointer (some ⟨g, 0, none⟩), .int .i64 s] w fun e w' => e = .returned (.bool b) ∧ w' = w := by
 obtain ⟨A, ca, B, cb, h1, h2⟩ := h
 have y1 : w.cell? ⟨g, 1, none⟩ = some (.slice A st.length ca) := blk_cell h1 1
 have y0 : w.cell? ⟨g, 0, none⟩ = some (.int .i64 v) := blk_cell h1 0
 have HR := Lib.hid hb
 clear h1 h2 hb
 by_cases c : 0 ≤ s
 ·have d1 : decide (s ≥ 0) = true := decide_eq_true c
  have d1' : decide (0 ≤ s) = true := decide_eq_true c
  by_cases c2 : s < (st.length : Int)
  ·have d2 : decide (s < (st.length : Int)) = true := decide_eq_true c2
   have HC : Hid (thS st s) := Lib.hid ⟨c, c2⟩
   clear c c2
   go_enter Tryz.func37, Tryz.ntmps37
   go_wp2_with fail
   go_ret
   exact ⟨by rw [← HR.out, decide_eq_true HC.out]; rfl, rfl⟩
  ·have d2 : decide (s < (st.length : Int)) = false := decide_eq_false c2
   have HC : Hid (¬ thS st s) := Lib.hid (fun h => c2 h.2)
   clear c c2
   go_enter Tryz.func37, Tryz.ntmps37
   go_wp2_with fail
   go_ret
   exact ⟨by rw [← HR.out, decide_eq_false HC.out]; rfl, rfl⟩
 ·have d1 : decide (s ≥ 0) = false := decide_eq_false c
  have d1' : decide (0 ≤ s) = false := decide_eq_false c
  have HC : Hid (¬ thS st s) := Lib.hid (fun h => c h.1)
  clear c
  go_enter Tryz.func37, Tryz.ntmps37
  go_wp2_with fail
  go_ret
  exact ⟨by rw [← HR.out, decide_eq_false HC.out]; rfl, rfl⟩
theorem kidfn_any (h : TrM w g v st tr) (g1 g2 : Nat) (s x : Int) (hx : thS st x) (h1 : w.heap[g1]? = some (.cells #[.pointer (some ⟨g, 0, none⟩)] 33 (0, 0))) (h2 : w.heap[g2]? = some (.cells #[.int .i64 s] 3 (0, 0))) :
  Calls Tryz.prog 49 #[.int .i64 x, .pointer (some ⟨g1, 0, none⟩), .pointer (some ⟨g2, 0, none⟩)] w fun e w' => e = .returned (.bool (decide (thS st s) && decide ((rdS st x).f1 = s))) ∧ Below w.heap.size w w' := by
 have H := Lib.hid h
 have y1 : w.cell? ⟨g1, 0, none⟩ = some (.pointer (some ⟨g, 0, none⟩)) := blk_cell h1 0
 have y2 : w.cell? ⟨g2, 0, none⟩ = some (.int .i64 s) := blk_cell h2 0
 obtain ⟨ad, ca, z0, z1, q0, q1⟩ := trm_at h hx
 have p1 : (0 ≤ x) = True := eq_true hx.1
 have p2 : (x < (st.length : Int)) = True := eq_true hx.2
 clear h h1 h2 hx
 by_cases c : thS st s
 ·have HT : Hid (∀ n, TrM (w.drewN n) g v st tr) := Lib.hid (fun n => H.out.below (below_drewN' (Below.refl _ _) n))
  have HD : Hid (decide (thS st s) = true) := Lib.hid (decide_eq_true c)
  have hr : (decide (thS st s) && decide ((rdS st x).f1 = s)) = ((rdS st x).f1 == s) := by rw [decide_eq_true c, Bool.true_and]; rfl
  rw [hr]
  clear c hr
  go_enter Tryz.func49, Tryz.ntmps49
  go_wp2_with fail
  go_quiet ((go_at_call 37; exact Calls.quiet_of_same (tthere_same (HT.out _) s HD.out)))
  go_wp2_with fail
  go_ret
  exact ⟨rfl, below_drewN' (Below.refl _ _) _⟩
 ·have HT : Hid (∀ n, TrM (w.drewN n) g v st tr) := Lib.hid (fun n => H.out.below (below_drewN' (Below.refl _ _) n))
  have HD : Hid (decide (thS st s) = false) := Lib.hid (decide_eq_false c)
  have hr : (decide (thS st s) && decide ((rdS st x).f1 = s)) = false := by rw [decide_eq_false c, Bool.false_and]
  rw [hr]
  clear c hr
  go_enter Tryz.func49, Tryz.ntmps49
  go_wp2_with fail
  go_quiet ((go_at_call 37; exact Calls.quiet_of_same (tthere_same (HT.out _) s HD.out)))
  go_wp2_with fail
  go_ret
  exact ⟨rfl, below_drewN' (Below.refl _ _) _⟩
theorem tkids_any (h : TrM w g v st tr) (hl : st.length ≤ 24) (s : Int) :
  Calls Tryz.prog 19 #[.pointer (some ⟨g, 0, none⟩), .int .i64 s] w fun e w' => e = .returned (.int .u32 (kidB st s : Nat)) ∧ Below w.heap.size w w' := by
 obtain ⟨p, hp, hk⟩ : ∃ p : Int → Bool, (∀ x, (decide (thS st s) && decide ((rdS st x).f1 = s)) = p x) ∧ kidB st s = setN st p st.length := ⟨_, fun _ => rfl, rfl⟩
 rw [hk]
 have HP := Lib.hid hp
 clear hk hp
 have hmf : ∀ (fn : Fn) (first cap : Array Value) (w : World), (Instr.makeFunc fn first cap).run Tryz.prog w = .ok (.func fn first cap) w := fun _ _ _ _ => rfl
 have hrun : ∀ args w, (callFunc 49 args).run Tryz.prog w = .ok (.enter 49 args) w := fun _ _ => rfl
 have hb0 : Below w.heap.size w ((w.alloc (.cells #[.pointer (some ⟨g, 0, none⟩)] 33)).alloc (.cells #[.int .i64 s] 3)) := ((Below.refl _ w).alloc (Nat.le_refl _) _).alloc (by simp) _
 have HB0 := Lib.hid hb0
 obtain ⟨hk1, hk2, hlt0, hsz⟩ := boxed2 (Below.refl _ ((w.alloc (.cells #[.pointer (some ⟨g, 0, none⟩)] 33)).alloc (.cells #[.int .i64 s] 3)))
 have HK1 := Lib.hid hk1
 have HK2 := Lib.hid hk2
 have y1 : ((w.alloc (.cells #[.pointer (some ⟨g, 0, none⟩)] 33)).alloc (.cells #[.int .i64 s] 3)).cell? ⟨w.heap.size, 0, none⟩ = some (.pointer (some ⟨g, 0, none⟩)) := blk_cell hk1 0
 have H := Lib.hid (h.below hb0)
 clear h hb0 hk1 hk2
 go_enter Tryz.func19, Tryz.ntmps19
 go_wp2_with fail
 generalize (w.alloc (.cells #[.pointer (some ⟨g, 0, none⟩)] 33)).alloc (.cells #[.int .i64 s] 3) = w0 at HB0 HK1 HK2 y1 H hlt0 ⊢
 have HAs : Hid (Asks 49 w.heap.size (w.heap.size + 1) w0 st.length p) := Lib.hid (fun wr hb x hx => by
  rw [← HP.out]
  exact kidfn_any (H.out.below hb) w.heap.size (w.heap.size + 1) s x ⟨by omega, by omega⟩ ((hb.block _ (lt_of_block HK1.out)).trans HK1.out) ((hb.block _ (lt_of_block HK2.out)).trans HK2.out))
 go_wp2_with fail
 refine (tset_any H.out hl 49 w.heap.size (w.heap.size + 1) hrun _ HAs.out).mono ?_
 rintro e w1 ⟨rfl, hb1⟩
 go_wp2_with fail
 go_ret
 exact ⟨rfl, below_then HB0.out HB0.out.size hb1⟩
end
theorem listP_drop {x y : Nat} {acc : List Int} (h0 : y ≠ 0) (hy : y < 4294967296) (h : listP x = acc ++ listP y) : listP x = (acc ++ [((Lib.ctz 32 y : Nat) : Int)]) ++ listP (y &&& (y - 1)) := by
 rw [h, (listP_step h0 hy).1]; simp
theorem list_any (x : Nat) (hx : x < 4294967296) (w : World) (hw : LaidZ w) : Calls Tryz.prog 111 #[.int .u32 (x : Int)] w fun e w' => ∃ u : Value, e = .returned u ∧ InnR w' w.heap.size u (listP x) ∧ Below w.heap.size w w' := by
 have HW := Lib.hid hw
 clear hw
 go_enter Tryz.func111, Tryz.ntmps111
 go_wp2_with fail
 go_loopw [0, 3] (fun s u wr => ∃ (y : Nat) (acc : List Int), s = .int .u32 (y : Int) ∧ y < 4294967296 ∧ Hid (listP x = acc ++ listP y) ∧ Hid (InnR wr w.heap.size u acc) ∧ Hid (Below w.heap.size w wr)) (fun s _ _ => (intOf s).toNat)
 case atStart => exact ⟨x, [], rfl, hx, Lib.hid (by simp), Lib.hid (Kd.R_nil _ _ _ _ _), Lib.hid (Below.refl _ _)⟩
 case round =>
  obtain ⟨y, acc, rfl, hy, HE, HO, HB⟩ := hrel
  by_cases c : y = 0
  ·subst c
   have HR : Hid (listP x = acc) := Lib.hid (by rw [HE.out, listP_zero]; simp)
   go_wp2_with fail
   go_ret
   exact ⟨_, rfl, by rw [HR.out]; exact HO.out, HB.out⟩
  ·have d1 : ((y : Int) != 0) = true := by rw [bne_iff_ne]; omega
   have d1' : ((y : Int) == 0) = false := by rw [beq_eq_false_iff_ne]; omega
   have HLt := Lib.hid (listP_step c hy).2
   have HE2 := Lib.hid (listP_drop c hy HE.out)
   have hal : acc.length < 1000000 := by
    have := listP_len x
    rw [HE.out, List.length_append] at this
    omega
   have e1 : bits BinOp.and IntKind.u32 (y : Int) (((y : Int) - 1) % 4294967296) = ((y &&& (y - 1) : Nat) : Int) := by
    rw [show ((y : Int) - 1) % 4294967296 = ((y - 1 : Nat) : Int) by omega, u32_and_nat _ _ hy (by omega)]
   have HC := Lib.hid c
   clear c
   go_wp2_with fail
   refine (tz_any y HC.out hy _ (HW.out.below HB.out)).mono ?_
   rintro e w1 ⟨rfl, rfl⟩
   have hsz := HB.out.size
   go_wp2_with (at_builtin; refine inn_append rfl (.tmp 10) (.tmp 13) rfl w.heap.size _ acc ((Lib.ctz 32 y : Nat) : Int) rfl _ rfl rfl HO.out hsz hal ?_)
   intro v1 w2 h1 h2 h3
   have HB2 := Lib.hid (HB.out.trans h2)
   have HO2 := Lib.hid h1
   go_wp2_with (simp only [e1])
   go_roundw
   case rel => exact ⟨y &&& (y - 1), _, rfl, by have := HLt.out; omega, HE2, HO2, HB2⟩
   case measure => have := HLt.out; simp [intOf]; omega
end Go.Proofs.YtikilglbhnplaaaGreatDoor
end
section
namespace Go.Proofs.YtikilglbhnplaaaGreatDoor
open Go.RowKit Go.Proofs.YtikilglbhnplaaaGreatDoorW.PrintWords Go.Proofs.YtikilglbhnplaaaGreatDoorW.PrintLast
open PX (T V)
theorem RowQ.steps {α : Type} {d : Kd α} {e base g q : Nat} {ok : Nat → Prop} {w wr wr' : World} {cs : Array Value} {xs : List α} (h : RowQ d e w wr base ok g cs xs q) (hm : ∀ k, base ≤ k → wr'.heap[k]? = wr.heap[k]?) (hg : base ≤ g) : RowQ d e w wr' base ok g cs xs q :=
 ⟨(hm g hg).trans h.1, fun j x hj => by
  obtain ⟨c, h1, h2, h3, h4⟩ := h.2 j x hj
  exact ⟨c, h1, h2, fun hlt => d.M_mono (fun _ hk => hk.1) (d.M_move (fun k hk => hm k hk.2.1) (d.M_bound (h3 hlt))), h4⟩⟩
def TypAt (w : World) (b t n : Nat) : Prop := ∃ cs : Array Value, w.heap[b]? = some (.cells cs t (0, 0)) ∧ n ≤ cs.size
def Shp (w : World) (base g : Nat) (st : List Sta) : Prop :=
 ∃ cs : Array Value, w.heap[g]? = some (.cells cs 66 (0, 0)) ∧ st.length * 5 ≤ cs.size ∧ ∀ (j : Nat) (x : Sta), st[j]? = some x → ∃ A c, cs[j * 5 + 2]? = some (.slice A x.f2.length c) ∧ x.f2.length ≤ c ∧ (0 < x.f2.length → ∃ b, A = some ⟨b, 0, none⟩ ∧ base ≤ b ∧ TypAt w b 3 x.f2.length)
theorem Shp.low {w : World} {base base' g : Nat} {st : List Sta} (h : Shp w base g st) (hb : base' ≤ base) : Shp w base' g st := by
 obtain ⟨cs, h1, h2, h3⟩ := h
 refine ⟨cs, h1, h2, fun j x hj => ?_⟩
 obtain ⟨A, c, q1, q2, q3⟩ := h3 j x hj
 refine ⟨A, c, q1, q2, fun hp => ?_⟩
 obtain ⟨b', r1, r2, r3⟩ := q3 hp
 exact ⟨b', r1, Nat.le_trans hb r2, r3⟩
theorem shp_of {w w' : World} {base g : Nat} {cs : Array Value} {ok : Nat → Prop} {st : List Sta} (hn : 0 < st.length) (h : RowQ PAll.k66 66 w w' base ok g cs st st.length) : Shp w' base g st := by
 refine ⟨cs, h.1, ?_, fun j x hj => ?_⟩
 ·obtain ⟨c, h1, h2, _, _⟩ := h.2 (st.length - 1) st[st.length - 1] (List.getElem?_eq_getElem (by omega))
  have h1' : c.length = 5 := h1
  have := h2 4 c[4] (List.getElem?_eq_getElem (by omega))
  have hlt := (Array.getElem?_eq_some_iff.1 this).1
  have e : (PAll.k66).sz = 5 := rfl
  rw [e] at hlt
  omega
 ·obtain ⟨c, h1, h2, h3, _⟩ := h.2 j x hj
  obtain ⟨v2, v3, v4, rfl, r2, _, _⟩ := PAll.k66_openM (h3 (List.getElem?_eq_some_iff.1 hj).1)
  obtain ⟨A, cap, rfl⟩ := Kd.R_slice r2
  refine ⟨A, cap, h2 2 _ rfl, (Kd.R_reads' r2).2.1, fun hp => ?_⟩
  obtain ⟨b, cap', e, hb, _, ci, hc⟩ := Kd.R_form r2 hp
  injection e with e1 e2 e3
  subst e1
  refine ⟨b, rfl, hb, ci, hc, ?_⟩
  obtain ⟨ad, had, hr⟩ := (Kd.R_reads' r2).2.2.2.2 hp
  obtain rfl : ad = ⟨b, 0, none⟩ := (Option.some.inj had).symm
  obtain ⟨c', k1, k2, k3⟩ := hr (x.f2.length - 1) x.f2[x.f2.length - 1] (List.getElem?_eq_getElem (by omega))
  have k1' : c'.length = 1 := k1
  have := k3 0 c'[0] (List.getElem?_eq_getElem (by omega))
  rw [add_at, blk_cell hc] at this
  have hlt := (Array.getElem?_eq_some_iff.1 this).1
  have e : (Kd.int .i64).sz = 1 := rfl
  rw [e] at hlt
  omega
theorem typ_of {w w' : World} {base g : Nat} {cs : Array Value} {ok : Nat → Prop} {tr : List Tra} (hn : 0 < tr.length) (h : RowQ PAll.k63 63 w w' base ok g cs tr tr.length) : TypAt w' g 63 (tr.length * 6) := by
 refine ⟨cs, h.1, ?_⟩
 obtain ⟨c, h1, h2, _, _⟩ := h.2 (tr.length - 1) tr[tr.length - 1] (List.getElem?_eq_getElem (by omega))
 have h1' : c.length = 6 := h1
 have := h2 5 c[5] (List.getElem?_eq_getElem (by omega))
 have hlt := (Array.getElem?_eq_some_iff.1 this).1
 have e : (PAll.k63).sz = 6 := rfl
 rw [e] at hlt
 omega
theorem tchart_any {g : Nat} {v : Int} {st : List Sta} {tr : List Tra} {w : World} (h : TrM w g v st tr) (hst : 0 < st.length) (hs : st.length ≤ 1000) (ht : tr.length ≤ 1000) (hS : ∀ x ∈ st, x.f2.length ≤ 1000 ∧ x.f3.length ≤ 1000 ∧ x.f4.length ≤ 1000) (hT : ∀ x ∈ tr, x.f3.length ≤ 1000 ∧ x.f5.length ≤ 1000) :
  Calls Tryz.prog 38 #[.pointer (some ⟨g, 0, none⟩)] w fun e w' => ∃ gS ca' B' cb', e = .returned (ckV v (some ⟨gS, 0, none⟩) B' st.length tr.length ca' cb') ∧ ChM w' (some ⟨gS, 0, none⟩) ca' st B' cb' tr ∧ Below w.heap.size w w' ∧ w.heap.size ≤ gS ∧ Shp w' w.heap.size gS st ∧ ∃ gT, w.heap.size ≤ gT ∧ (0 < tr.length → B' = some ⟨gT, 0, none⟩ ∧ TypAt w' gT 63 (tr.length * 6)) := by
 obtain ⟨A, ca, B, cb, h1, h2⟩ := h
 have hb0 : Below w.heap.size w (w.alloc (.cells #[.int .i64 0, .slice none 0 0, .slice none 0 0] 25)) := (Below.refl _ w).alloc (Nat.le_refl _) _
 have hk := (hb0.block _ (lt_of_block h1)).trans h1
 have HB0 := Lib.hid hb0
 have HM := Lib.hid (h2.below hb0)
 have HK := Lib.hid (blk_new w (.cells #[.int .i64 0, .slice none 0 0, .slice none 0 0] 25))
 obtain ⟨y0, y1, y2⟩ : (w.alloc (.cells #[.int .i64 0, .slice none 0 0, .slice none 0 0] 25)).cell? ⟨g, 0, none⟩ = some (.int .i64 v) ∧ (w.alloc (.cells #[.int .i64 0, .slice none 0 0, .slice none 0 0] 25)).cell? ⟨g, 1, none⟩ = some (.slice A st.length ca) ∧ (w.alloc (.cells #[.int .i64 0, .slice none 0 0, .slice none 0 0] 25)).cell? ⟨g, 2, none⟩ = some (.slice B tr.length cb) := ⟨blk_cell hk 0, blk_cell hk 1, blk_cell hk 2⟩
 have HSl := Lib.hid hS
 have HTl := Lib.hid hT
 clear h1 h2 hb0 hk hS hT
 go_enter Tryz.func38, Tryz.ntmps38
 go_wp2_with fail
 generalize w.alloc (.cells #[.int .i64 0, .slice none 0 0, .slice none 0 0] 25) = w0 at HB0 HM HK y0 y1 y2 ⊢
 go_wp2_with fail
 refine (copied_own v A B ca cb st tr hst hs ht HSl.out HTl.out _ HM.out).mono ?_
 rintro e w1 ⟨A', ca', B', cb', rfl, hM, hb1, ⟨gS, csS, ok, rfl, hgS, hQ⟩, hTT⟩
 have hk := (hb1.block _ (lt_of_block HK.out)).trans HK.out
 have hwS : w.heap.size ≤ gS := Nat.le_trans HB0.out.size hgS
 have hS1 := shp_of hst hQ
 obtain ⟨cS, hcS, _, _⟩ := hS1
 have hlt := lt_of_block HK.out
 have hne : ∀ b, w0.heap.size ≤ b → b ≠ w.heap.size := fun b hb e => by omega
 have HB1 := Lib.hid (below_then HB0.out HB0.out.size hb1)
 obtain ⟨c0, c1, c2⟩ : w1.cell? ⟨w.heap.size, 0, none⟩ = some (.int .i64 0) ∧ w1.cell? ⟨w.heap.size, 1, none⟩ = some (.slice none 0 0) ∧ w1.cell? ⟨w.heap.size, 2, none⟩ = some (.slice none 0 0) := ⟨blk_cell hk 0, blk_cell hk 1, blk_cell hk 2⟩
 have f0 := blk_free hk 0
 have f1 := blk_free hk 1
 have f2 := blk_free hk 2
 have HKk := Lib.hid hk
 have HMm := Lib.hid hM
 have HQq := Lib.hid hQ
 have HTq := Lib.hid hTT
 have HNe := Lib.hid hne
 clear hk hM hQ hTT hcS hlt hb1 hne
 go_wp2_with fail
 have hst3 : ∀ j, j ≠ w.heap.size → (((w1.setCell ⟨w.heap.size, 0, none⟩ (.int .i64 v)).setCell ⟨w.heap.size, 1, none⟩ (.slice (some ⟨gS, 0, none⟩) st.length ca')).setCell ⟨w.heap.size, 2, none⟩ (.slice B' tr.length cb')).heap[j]? = w1.heap[j]? := fun j hj => (Below.heap_setCell _ ⟨w.heap.size, 2, none⟩ _ j hj).trans ((Below.heap_setCell _ ⟨w.heap.size, 1, none⟩ _ j hj).trans (Below.heap_setCell _ ⟨w.heap.size, 0, none⟩ _ j hj))
 have hstb : ∀ k, w0.heap.size ≤ k → _ := fun k hk => hst3 k (HNe.out k hk)
 have hQ2 := HQq.out.steps hstb hgS
 refine bodyPost_ret (results_cell_row rfl _ _ w.heap.size 25 #[.int .i64 v, .slice (some ⟨gS, 0, none⟩) st.length ca', .slice B' tr.length cb'] (0, 0) _ rfl (blk_set (blk_set (blk_set HKk.out 0 (.int .i64 v)) 1 (.slice (some ⟨gS, 0, none⟩) st.length ca')) 2 (.slice B' tr.length cb')) Tryz.underlying25 rfl (by kernel_rfl)) rfl ?_
 refine ⟨gS, ca', B', cb', rfl, ⟨hQ2.reads rfl (by omega), HMm.out.sc, ?_, HMm.out.tc⟩, ((HB1.out.setCell (p := ⟨w.heap.size, 0, none⟩) (Nat.le_refl _) _).setCell (p := ⟨w.heap.size, 1, none⟩) (Nat.le_refl _) _).setCell (p := ⟨w.heap.size, 2, none⟩) (Nat.le_refl _) _, hwS, (shp_of hst hQ2).low HB0.out.size, ?_⟩
 ·by_cases h : 0 < tr.length
  ·obtain ⟨gT, csT, okT, e1, hgT, hQt⟩ := HTq.out h
   subst e1
   exact (hQt.steps hstb hgT).reads rfl (by omega)
  ·exact ⟨rfl, by omega, fun h' => absurd h' h⟩
 ·by_cases h : 0 < tr.length
  ·obtain ⟨gT, csT, okT, e1, hgT, hQt⟩ := HTq.out h
   exact ⟨gT, Nat.le_trans HB0.out.size hgT, fun _ => ⟨e1, typ_of h (hQt.steps hstb hgT)⟩⟩
  ·exact ⟨w.heap.size, Nat.le_refl _, fun h' => absurd h' h⟩
end Go.Proofs.YtikilglbhnplaaaGreatDoor
end
section
namespace Go.Proofs.YtikilglbhnplaaaGreatDoor
open Go.RowKit Go.Proofs.YtikilglbhnplaaaGreatDoorW.PrintWords Go.Proofs.YtikilglbhnplaaaGreatDoorW.PrintLast
open PX (T V)
namespace Ent
theorem regE_left {sh : Shp} {d : ES → Int → ES} (hd : ∀ S s, (d S s).2 ≤ S.2) (S : ES) (s : Int) : (regE sh d S s).2 ≤ S.2 := by
 have key : ∀ (l : List Int) (S : ES), (l.foldl (fun S k => if S.1 &&& sh.bel k = 0 then d S k else S) S).2 ≤ S.2 := by
  intro l
  induction l with
  | nil => exact fun _ => Nat.le_refl _
  | cons a l ih =>
   intro S
   refine Nat.le_trans (ih _) ?_
   dsimp only
   split
   ·exact hd _ _
   ·exact Nat.le_refl _
 exact key _ _
theorem abvL_left {sh : Shp} {d : ES → Int → ES} (hd : ∀ S s, (d S s).2 ≤ S.2) (tz : Int) (l : List Int) : ∀ S : ES, (abvL sh d tz l S).2 ≤ S.2 := by
 induction l with
 | nil => exact fun _ => Nat.le_refl _
 | cons a l ih =>
  intro S
  simp only [abvL]
  split
  ·exact Nat.le_refl _
  ·refine Nat.le_trans (ih _) ?_
   split
   ·exact regE_left hd _ _
   ·exact Nat.le_refl _
theorem fold_left {d : ES → Int → ES} (hd : ∀ S s, (d S s).2 ≤ S.2) (l : List Int) : ∀ S : ES, (l.foldl d S).2 ≤ S.2 := by
 induction l with
 | nil => exact fun _ => Nat.le_refl _
 | cons a l ih => exact fun S => Nat.le_trans (ih _) (hd _ _)
theorem dwnE_left (sh : Shp) (f : Nat) : ∀ (S : ES) (s : Int), (dwnE sh f S s).2 ≤ S.2 := by
 induction f with
 | zero => exact fun _ _ => Nat.le_refl _
 | succ f ih =>
  intro S s
  simp only [dwnE]
  split
  ·exact Nat.le_refl _
  ·split
   ·exact Nat.le_trans (fold_left (fun S y => abvL_left ih _ _ S) _ _) (Nat.le_trans (fold_left ih _ _) (show S.2 - 1 ≤ S.2 from Nat.sub_le _ _))
   ·split
    ·exact Nat.le_trans (abvL_left ih _ _ _) (Nat.le_trans (ih _ _) (show S.2 - 1 ≤ S.2 from Nat.sub_le _ _))
    ·split
     ·exact Nat.le_trans (regE_left ih _ _) (Nat.sub_le _ _)
     ·exact Nat.sub_le _ _
end Ent
theorem add_block (a : Addr) (q : Nat) : (a.add q).block = a.block := by
 unfold Addr.add; split <;> rfl
theorem cell_lt {w : World} {p : Addr} {u : Value} (h : w.cell? p = some u) : p.block < w.heap.size := by
 refine Nat.lt_of_not_le (fun hn => ?_)
 have : w.heap[p.block]? = none := Array.getElem?_eq_none hn
 simp [World.cell?, this] at h
def Rd (w : World) (A : Option Addr) (l : List Int) : Prop := ∀ (q : Nat) (h : q < l.length), ∃ ad, A = some ad ∧ w.cell? (ad.add q) = some (.int .i64 l[q])
theorem Rd.chg {S : Nat → Prop} {w w' : World} {A : Option Addr} {l : List Int} (h : Rd w A l) (hc : Chg S w w') (hf : ∀ ad, A = some ad → ¬ S ad.block) : Rd w' A l := by
 intro q hq
 obtain ⟨ad, rfl, h1⟩ := h q hq
 exact ⟨ad, rfl, (hc.cell (cell_lt h1) (by rw [add_block]; exact hf ad rfl)).trans h1⟩
theorem Rd.chg' {S : Nat → Prop} {w w' : World} {A : Option Addr} {l : List Int} (h : Rd w A l) (hc : Chg S w w') (hf : ∀ ad, A = some ad → ¬ S ad.block ∨ l.length = 0) : Rd w' A l := by
 intro q hq
 obtain ⟨ad, rfl, h1⟩ := h q hq
 refine ⟨ad, rfl, (hc.cell (cell_lt h1) ?_).trans h1⟩
 rw [add_block]
 rcases hf ad rfl with h | h
 ·exact h
 ·omega
theorem Rd.of {w : World} {A : Option Addr} {l : List Int} (h : NumsC w A l.length l) : Rd w A l := fun q hq => nums_at h q hq
theorem inn_new {w : World} {B : Nat} {E : Option Addr} {n c : Nat} {l : List Int} (h : InnR w B (.slice E n c) l) (ad : Addr) (he : E = some ad) : B ≤ ad.block := by
 subst he
 obtain ⟨inner, ho⟩ := Kd.R_own h
 exact (own_lt ho ad.block rfl).1
structure AdC (wB : World) (g : Nat) (v : Int) (A B : Option Addr) (ca cb : Nat) (st : List Sta) (tr : List Tra) (H : Option Addr) (hc : Nat) (hs : List Int) : Prop where
 T : TrM wB g v st tr
 M : ChM wB A ca st B cb tr
 H : (Kd.int .u32).C wB H hs.length hs
 hc : hs.length ≤ hc
 hl : hs.length ≤ 100000
 hb : ∀ x ∈ hs, 0 ≤ x ∧ x < 4294967296
 laid : LaidZ wB
 good : chkP v st tr = .none
abbrev adO (g : Nat) (v : Int) (A B : Option Addr) (n m ca cb : Nat) (H : Option Addr) (k hc : Nat) (S : Ent.ES) : Obj :=
 .cells #[.pointer (some ⟨g, 0, none⟩), .int .i64 v, .slice A n ca, .slice B m cb, .slice H k hc, .int .u32 (S.1 : Int), .int .i64 (S.2 : Int)] 88 (0, 0)
structure AdM (wB : World) (g : Nat) (v : Int) (A B : Option Addr) (n m ca cb : Nat) (H : Option Addr) (k hc : Nat) (w : World) (S : Ent.ES) : Prop where
 low : Below wB.heap.size wB w
 blk : w.heap[wB.heap.size]? = some (adO g v A B n m ca cb H k hc S)
 set : S.1 < 4294967296
 left : S.2 ≤ 4000
abbrev AdP (wB : World) : Value := .pointer (some ⟨wB.heap.size, 0, none⟩)
theorem AdM.step {wB : World} {g : Nat} {v : Int} {A B : Option Addr} {n m ca cb : Nat} {H : Option Addr} {k hc : Nat} {w w' : World} {S : Ent.ES} (h : AdM wB g v A B n m ca cb H k hc w S) (hb : Below w.heap.size w w') : AdM wB g v A B n m ca cb H k hc w' S :=
 ⟨below_then h.low h.low.size hb, (hb.block _ (lt_of_block h.blk)).trans h.blk, h.set, h.left⟩
theorem AdM.cells {wB : World} {g : Nat} {v : Int} {A B : Option Addr} {n m ca cb : Nat} {H : Option Addr} {k hc : Nat} {w : World} {S : Ent.ES} (h : AdM wB g v A B n m ca cb H k hc w S) :
  w.cell? ⟨wB.heap.size, 0, none⟩ = some (.pointer (some ⟨g, 0, none⟩)) ∧ w.cell? ⟨wB.heap.size, 1, none⟩ = some (.int .i64 v) ∧ w.cell? ⟨wB.heap.size, 2, none⟩ = some (.slice A n ca) ∧ w.cell? ⟨wB.heap.size, 3, none⟩ = some (.slice B m cb) ∧
   w.cell? ⟨wB.heap.size, 4, none⟩ = some (.slice H k hc) ∧ w.cell? ⟨wB.heap.size, 5, none⟩ = some (.int .u32 (S.1 : Int)) ∧ w.cell? ⟨wB.heap.size, 6, none⟩ = some (.int .i64 (S.2 : Int)) ∧ w.frozen? ⟨wB.heap.size, 5, none⟩ = false ∧ w.frozen? ⟨wB.heap.size, 6, none⟩ = false :=
 ⟨blk_cell h.blk 0, blk_cell h.blk 1, blk_cell h.blk 2, blk_cell h.blk 3, blk_cell h.blk 4, blk_cell h.blk 5, blk_cell h.blk 6, blk_free h.blk 5, blk_free h.blk 6⟩
def DW (wB : World) (g : Nat) (v : Int) (A B : Option Addr) (ca cb : Nat) (st : List Sta) (tr : List Tra) (H : Option Addr) (hc : Nat) (hs : List Int) (f : Nat) : Prop :=
 ∀ (w : World) (S : Ent.ES) (s : Int), AdM wB g v A B st.length tr.length ca cb H hs.length hc w S → S.2 ≤ f → 0 ≤ s →
  Calls Tryz.prog 40 #[AdP wB, .int .i64 s] w fun e w' => e = .returned (.tuple #[]) ∧ AdM wB g v A B st.length tr.length ca cb H hs.length hc w' (Ent.dwnE (shOf st hs) f S s) ∧ Chg (fun b => b = wB.heap.size) w w'
theorem tbel_new {w0 w : World} {g : Nat} {v : Int} {st : List Sta} {tr : List Tra} (h : TrM w0 g v st tr) (hb : Below w0.heap.size w0 w) (ha : Ahead st) (hl : st.length ≤ 24) (s : Int) :
  Calls Tryz.prog 17 #[.pointer (some ⟨g, 0, none⟩), .int .i64 s] w fun e w' => e = .returned (.int .u32 (belP st s : Nat)) ∧ Below w.heap.size w w' := tbel_any (h.below hb) ha hl s
theorem ehist_any (k : Int) (w : World) {b : Bool} (hb : decide (k = 5 ∨ k = 6) = b) : Calls Tryz.prog 85 #[.int .i64 k] w fun e w' => e = .returned (.bool b) ∧ w' = w := by
 subst hb
 by_cases h5 : k = 5
 ·subst h5
  go_enter Tryz.func85, Tryz.ntmps85
  go_wp2_with fail
  go_ret
  exact ⟨rfl, rfl⟩
 ·by_cases h6 : k = 6
  ·subst h6
   go_enter Tryz.func85, Tryz.ntmps85
   go_wp2_with fail
   go_ret
   exact ⟨rfl, rfl⟩
  ·have d5 : (k == 5) = false := beq_eq_false_iff_ne.mpr h5
   have d6 : (k == 6) = false := beq_eq_false_iff_ne.mpr h6
   rw [decide_eq_false (by omega)]
   clear h5 h6
   go_enter Tryz.func85, Tryz.ntmps85
   go_wp2_with fail
   go_ret
   exact ⟨rfl, rfl⟩
theorem up_th {st : List Sta} (ha : Ahead st) (f : Nat) : ∀ (s : Int), ∀ x ∈ upF st f s, thS st x := by
 induction f with
 | zero => intro s x hx; simp [upF] at hx
 | succ f ih =>
  intro s x hx
  simp only [upF] at hx
  split at hx
  ·rename_i c
   rcases List.mem_cons.1 hx with rfl | hx
   ·have := (ahead_at ha c.1).1
    have := c.1.2
    exact ⟨c.2, by omega⟩
   ·exact ih _ x hx
  ·simp at hx
theorem or_at {x q : Nat} (hx : x < 4294967296) (hq : q < 32) : bits .or .u32 (x : Int) (IntKind.u32.wrap (2 ^ min q 32)) = ((x ||| 2 ^ q : Nat) : Int) ∧ x ||| 2 ^ q < 4294967296 := by
 have h2 : 2 ^ q < 4294967296 := Nat.lt_of_lt_of_le (Nat.pow_lt_pow_right (by omega) hq) (by decide)
 have h3 : IntKind.u32.wrap ((2 : Int) ^ min q 32) = ((2 ^ q : Nat) : Int) := by
  rw [Nat.min_eq_left (by omega)]
  have : ((2 : Int) ^ q) = ((2 ^ q : Nat) : Int) := by simp
  rw [this]
  exact Int.emod_eq_of_lt (Int.natCast_nonneg _) (Int.ofNat_lt.mpr h2)
 rw [h3, u32_or_nat x (2 ^ q) hx h2]
 exact ⟨rfl, Nat.or_lt_two_pow (n := 32) hx h2⟩
theorem AdM.put {wB : World} {g : Nat} {v : Int} {A B : Option Addr} {n m ca cb : Nat} {H : Option Addr} {k hc : Nat} {w : World} {S : Ent.ES} (h : AdM wB g v A B n m ca cb H k hc w S) {x : Nat} (hx : x < 4294967296) : AdM wB g v A B n m ca cb H k hc (w.setCell ⟨wB.heap.size, 5, none⟩ (.int .u32 (x : Int))) (x, S.2) :=
 ⟨Chg.below (S := fun b => b = wB.heap.size) ((Chg.of_below (S := fun b => b = wB.heap.size) h.low).setCell (fun _ => rfl) _) (Nat.le_refl _) (fun k hk hh => by have : k = wB.heap.size := hh; omega), blk_set h.blk 5 _, hx, h.left⟩
theorem AdM.putl {wB : World} {g : Nat} {v : Int} {A B : Option Addr} {n m ca cb : Nat} {H : Option Addr} {k hc : Nat} {w : World} {S : Ent.ES} (h : AdM wB g v A B n m ca cb H k hc w S) {x : Nat} (hx : x ≤ 4000) : AdM wB g v A B n m ca cb H k hc (w.setCell ⟨wB.heap.size, 6, none⟩ (.int .i64 (x : Int))) (S.1, x) :=
 ⟨Chg.below (S := fun b => b = wB.heap.size) ((Chg.of_below (S := fun b => b = wB.heap.size) h.low).setCell (fun _ => rfl) _) (Nat.le_refl _) (fun k hk hh => by have : k = wB.heap.size := hh; omega), blk_set h.blk 6 _, h.set, hx⟩
theorem AdM.drew {wB : World} {g : Nat} {v : Int} {A B : Option Addr} {n m ca cb : Nat} {H : Option Addr} {k hc : Nat} {w : World} {S : Ent.ES} (h : AdM wB g v A B n m ca cb H k hc w S) : AdM wB g v A B n m ca cb H k hc w.drew S := h.step (below_drew (Below.refl _ w))
section
variable {wB : World} {g : Nat} {v : Int} {A B : Option Addr} {ca cb : Nat} {st : List Sta} {tr : List Tra} {H : Option Addr} {hc : Nat} {hs : List Int} {f : Nat}
theorem regs_any (hC : AdC wB g v A B ca cb st tr H hc hs) (hD : DW wB g v A B ca cb st tr H hc hs f) (w : World) (S : Ent.ES) (h : AdM wB g v A B st.length tr.length ca cb H hs.length hc w S) (hf : S.2 ≤ f) (s : Int) :
  Calls Tryz.prog 87 #[AdP wB, .int .i64 s] w fun e w' => e = .returned (.tuple #[]) ∧ AdM wB g v A B st.length tr.length ca cb H hs.length hc w' (Ent.regE (shOf st hs) (Ent.dwnE (shOf st hs) f) S s) ∧ Chg (fun b => b = wB.heap.size) w w' := by
 have HC := Lib.hid hC
 have HD := Lib.hid hD
 have HM := Lib.hid h
 have HA := Lib.hid (good_ahead hC.good)
 have hl : st.length ≤ 24 := (chk_none hC.good).1.2.2.2.1
 have HF := Lib.hid hf
 obtain ⟨y0, _⟩ := h.cells
 generalize hG : Ent.regE (shOf st hs) (Ent.dwnE (shOf st hs) f) S s = G
 have HG : Hid ((listP (kidB st s)).foldl (fun S k => if S.1 &&& belP st k = 0 then Ent.dwnE (shOf st hs) f S k else S) S = G) := Lib.hid hG
 clear hC hD h hf hG
 go_enter Tryz.func87, Tryz.ntmps87
 go_wp2_with fail
 refine (tkids_any (HC.out.T.below HM.out.low) hl s).mono ?_
 rintro e w1 ⟨rfl, hb1⟩
 have HM1 := Lib.hid (HM.out.step hb1)
 have HB1 := Lib.hid hb1
 clear hb1 y0
 go_wp2_with fail
 refine (list_any (kidB st s) (kidB_lt hl s) w1 (HC.out.laid.below HM1.out.low)).mono ?_
 rintro e w2 ⟨u, rfl, hu, hb2⟩
 obtain ⟨E, cap, rfl⟩ := Kd.R_slice hu
 obtain ⟨_, hcap, hE⟩ := Kd.R_reads' hu
 have HR := Lib.hid (Rd.of hE)
 have HFar : Hid (∀ ad, E = some ad → ¬ ad.block = wB.heap.size) := Lib.hid (fun ad he hh => by
  have h1 := inn_new hu ad he
  have h2 := lt_of_block HM1.out.blk
  omega)
 have HM2 := Lib.hid (HM1.out.step hb2)
 have HB2 := Lib.hid (Chg.of_below (S := fun b => b = wB.heap.size) (HB1.out.trans (hb2.mono HB1.out.size)))
 have HK : Hid (∀ x, x ∈ listP (kidB st s) → 0 ≤ x) := Lib.hid (fun x hx => (listP_mem hx).1)
 have hL := listP_len (kidB st s)
 generalize listP (kidB st s) = l at *
 clear hu hE hb2 hcap HM HM1 HB1
 go_wp2_with fail
 go_loopw [14] (fun i wr => ∃ (q : Nat) (T : Ent.ES), i = .int .i64 q ∧ q ≤ l.length ∧ Hid (AdM wB g v A B st.length tr.length ca cb H hs.length hc wr T) ∧ Hid (T.2 ≤ f) ∧ Hid ((l.drop q).foldl (fun S k => if S.1 &&& belP st k = 0 then Ent.dwnE (shOf st hs) f S k else S) T = G) ∧ Hid (Chg (fun b => b = wB.heap.size) w wr) ∧ Hid (Rd wr E l)) (fun i _ => l.length - (intOf i).toNat)
 case atStart => exact ⟨0, S, rfl, Nat.zero_le _, HM2, HF, Lib.hid (by rw [List.drop_zero]; exact HG.out), HB2, HR⟩
 case round =>
  clear HM2 HF HB2 HR HG
  obtain ⟨q, T, rfl, hq, HM, HF, HE, HB, HR⟩ := hrel
  by_cases hlt : q < l.length
  ·obtain ⟨ad, rfl, a0⟩ := HR.out q hlt
   have hds : l.drop q = l[q] :: l.drop (q + 1) := List.drop_eq_getElem_cons hlt
   have HE2 := HE.out
   rw [hds, List.foldl_cons] at HE2
   have HK0 := Lib.hid (HK.out l[q] (List.getElem_mem hlt))
   have p1 : ((q : Int) < (l.length : Int)) = True := eq_true (by omega)
   clear hds HE
   generalize l[q] = k at *
   have HE := Lib.hid HE2
   clear HE2
   obtain ⟨y0, y1, y2, y3, y4, y5, y6, f5, f6⟩ := HM.out.cells
   have y5' := y5
   generalize hT1 : (T.1 : Int) = t1 at y5
   go_wp2_with fail
   refine start_ (n := 12) (S := fun w' => w'.cell? ⟨wB.heap.size, 0, none⟩ = some (.pointer (some ⟨g, 0, none⟩)) ∧ w'.cell? ⟨wB.heap.size, 5, none⟩ = some (.int .u32 t1)) (ds := []) (tf12 0) (by kernel_rfl) rfl (by kernel_rfl) ⟨y0, y5⟩ (fun hHeld => ?_)
   iterate 9
    refine nxt_ (v := ?_) (a' := ?_) rfl rfl (by kernel_rfl) (fun _ _ _ h => h) (Or.inl ⟨by rfl, ?_⟩) hHeld ?_ ?_
    rotate_left
    ·rintro w' ⟨s0, s1⟩
     go_simp
     first | done | with_reducible rfl
    rotate_left
    ·simp only [Act.put, List.setIfInBounds_toArray, List.set_cons_zero, List.set_cons_succ, i64_w, i32_w]
     first | done | rfl
   refine one_ (i := 9) (N := some 27) (tf12 10) rfl rfl (by kernel_rfl) (by decide) (fun K hK => ?_)
   refine goes_ Tryz.func17 (by kernel_rfl) rfl #[.pointer (some ⟨g, 0, none⟩), .int .i64 k] (by rfl) rfl rfl (by first | rfl | (go_simp; done) | (go_simp; exact ⟨rfl, rfl⟩) | (go_simp; rfl)) ?_
   refine (tbel_new HC.out.T (below_drewN' HM.out.low 1) HA.out hl k).mono ?_
   rintro e1 w3 ⟨rfl, hb3⟩
   have hb3' : Below wr.heap.size wr w3 := below_then (below_drewN' (Below.refl _ wr) 1) (Nat.le_refl _) hb3
   have HM3 := Lib.hid (HM.out.step hb3')
   have HR3 := Lib.hid (HR.out.chg (Chg.of_below (S := fun b => b = wB.heap.size) hb3') HFar.out)
   have HB3 := Lib.hid (HB.out.trans (Chg.of_below hb3'))
   refine ⟨_, rfl, hK.out _ _ ⟨by have := HM3.out.cells; exact this.1, by have := HM3.out.cells.2.2.2.2.2.1; rw [hT1] at this; exact this⟩ (fun hS3 => ?_)⟩
   clear hK K hHeld hb3 hb3' y0 y1 y2 y3 y4 y5 y5' y6 f5 f6 a0
   iterate 2
    refine nxt_ (v := ?_) (a' := ?_) rfl rfl (by kernel_rfl) (fun _ _ _ h => h) (Or.inl ⟨by rfl, ?_⟩) hS3 ?_ ?_
    rotate_left
    ·rintro w' ⟨s0, s1⟩
     go_simp
     first | done | with_reducible rfl
    rotate_left
    ·simp only [Act.put, List.setIfInBounds_toArray, List.set_cons_zero, List.set_cons_succ, i64_w, i32_w]
     first | done | rfl
   refine done_ (by kernel_rfl) ?_
   subst hT1
   have e1 : bits BinOp.and IntKind.u32 (T.1 : Int) (belP st k : Nat) = ((T.1 &&& belP st k : Nat) : Int) := u32_and_nat _ _ HM3.out.set (bel_lt hl k)
   by_cases hz : T.1 &&& belP st k = 0
   ·have d1 : (bits BinOp.and IntKind.u32 (T.1 : Int) (belP st k : Nat) == 0) = true := by rw [e1, hz]; rfl
    have HE3 : Hid ((l.drop (q + 1)).foldl (fun S k => if S.1 &&& belP st k = 0 then Ent.dwnE (shOf st hs) f S k else S) (Ent.dwnE (shOf st hs) f T k) = G) := Lib.hid (by have := HE.out; rw [if_pos hz] at this; exact this)
    clear e1 hz HE
    go_wp2_with fail
    refine (HD.out w3 T k HM3.out HF.out HK0.out).mono ?_
    rintro e w4 ⟨rfl, hm4, hc4⟩
    have HM4 := Lib.hid hm4
    have HF4 := Lib.hid (Nat.le_trans (Ent.dwnE_left (shOf st hs) f T k) HF.out)
    have HR4 := Lib.hid (HR3.out.chg hc4 HFar.out)
    have HB4 := Lib.hid (HB3.out.trans hc4)
    clear hm4 hc4
    go_wp2_with fail
    go_roundw
    case rel => exact ⟨q + 1, _, by go_num, by omega, HM4, HF4, HE3, HB4, HR4⟩
    case measure => simp [intOf]; omega
   ·have d1 : (bits BinOp.and IntKind.u32 (T.1 : Int) (belP st k : Nat) == 0) = false := by rw [e1, beq_eq_false_iff_ne]; omega
    have HE3 : Hid ((l.drop (q + 1)).foldl (fun S k => if S.1 &&& belP st k = 0 then Ent.dwnE (shOf st hs) f S k else S) T = G) := Lib.hid (by have := HE.out; rw [if_neg hz] at this; exact this)
    clear e1 hz HE
    go_wp2_with fail
    go_roundw
    case rel => exact ⟨q + 1, _, by go_num, by omega, HM3, HF, HE3, HB3, HR3⟩
    case measure => simp [intOf]; omega
  ·obtain rfl : q = l.length := by omega
   have HE3 : Hid (G = T) := Lib.hid (by rw [← HE.out, List.drop_length]; rfl)
   clear HE
   go_wp2_with fail
   go_end0
   exact ⟨rfl, by rw [HE3.out]; exact HM.out, HB.out⟩
theorem abv_any (hC : AdC wB g v A B ca cb st tr H hc hs) (hD : DW wB g v A B ca cb st tr H hc hs f) (w : World) (S : Ent.ES) (h : AdM wB g v A B st.length tr.length ca cb H hs.length hc w S) (hf : S.2 ≤ f) (s tz : Int) :
  Calls Tryz.prog 42 #[AdP wB, .int .i64 s, .int .i64 tz] w fun e w' => e = .returned (.tuple #[]) ∧ AdM wB g v A B st.length tr.length ca cb H hs.length hc w' (Ent.abvE (shOf st hs) (Ent.dwnE (shOf st hs) f) S s tz) ∧ Chg (fun b => b = wB.heap.size) w w' := by
 have HC := Lib.hid hC
 have HD := Lib.hid hD
 have HM := Lib.hid h
 have HA := Lib.hid (good_ahead hC.good)
 have hl : st.length ≤ 24 := (chk_none hC.good).1.2.2.2.1
 have HF := Lib.hid hf
 obtain ⟨y0, _⟩ := h.cells
 generalize hG : Ent.abvE (shOf st hs) (Ent.dwnE (shOf st hs) f) S s tz = G
 have HG : Hid (Ent.abvL (shOf st hs) (Ent.dwnE (shOf st hs) f) tz (upP st s) S = G) := Lib.hid hG
 clear hC hD h hf hG
 go_enter Tryz.func42, Tryz.ntmps42
 go_wp2_with fail
 refine (tup_any (HC.out.T.below HM.out.low) HA.out (by omega) s).mono ?_
 rintro e w2 ⟨u, rfl, hu, hb2⟩
 obtain ⟨E, cap, rfl⟩ := Kd.R_slice hu
 obtain ⟨_, hcap, hE⟩ := Kd.R_reads' hu
 have HR := Lib.hid (Rd.of hE)
 have HFar : Hid (∀ ad, E = some ad → ¬ ad.block = wB.heap.size) := Lib.hid (fun ad he hh => by
  have h1 := inn_new hu ad he
  have h2 := lt_of_block HM.out.blk
  omega)
 have HM2 := Lib.hid (HM.out.step hb2)
 have HB2 := Lib.hid ((Chg.of_below (S := fun b => b = wB.heap.size) hb2))
 have HK : Hid (∀ x, x ∈ upP st s → thS st x) := Lib.hid (fun x hx => up_th HA.out _ s x hx)
 have hL : (upP st s).length ≤ 1000000 := (by
  by_cases c : thS st s
  ·have := upF_len st (s.toNat + 1) s
   have := c.1
   have := c.2
   unfold upP; omega
  ·rw [upP_eq HA.out, if_neg (fun h => c h.1)]; simp)
 generalize upP st s = l at *
 clear hu hE hb2 hcap HM y0
 go_wp2_with fail
 go_loopw [15] (fun i wr => ∃ (q : Nat) (T : Ent.ES), i = .int .i64 q ∧ q ≤ l.length ∧ Hid (AdM wB g v A B st.length tr.length ca cb H hs.length hc wr T) ∧ Hid (T.2 ≤ f) ∧ Hid (Ent.abvL (shOf st hs) (Ent.dwnE (shOf st hs) f) tz (l.drop q) T = G) ∧ Hid (Chg (fun b => b = wB.heap.size) w wr) ∧ Hid (Rd wr E l)) (fun i _ => l.length - (intOf i).toNat)
 case atStart => exact ⟨0, S, rfl, Nat.zero_le _, HM2, HF, Lib.hid (by rw [List.drop_zero]; exact HG.out), HB2, HR⟩
 case round =>
  clear HM2 HF HB2 HR HG
  obtain ⟨q, T, rfl, hq, HM, HF, HE, HB, HR⟩ := hrel
  by_cases hlt : q < l.length
  ·obtain ⟨ad, rfl, a0⟩ := HR.out q hlt
   have hds : l.drop q = l[q] :: l.drop (q + 1) := List.drop_eq_getElem_cons hlt
   have HE2 := HE.out
   rw [hds] at HE2
   have HK0 := Lib.hid (HK.out l[q] (List.getElem_mem hlt))
   have p1 : ((q : Int) < (l.length : Int)) = True := eq_true (by omega)
   clear hds HE
   generalize l[q] = x at *
   by_cases hto : x = tz
   ·have HE3 : Hid (G = T) := Lib.hid (by rw [← HE2]; simp only [Ent.abvL]; rw [if_pos hto])
    have d1 : (x == tz) = true := beq_iff_eq.mpr hto
    clear HE2 hto
    go_wp2_with fail
    (try simp only [Exit.inBlock, Exit.then]); refine bodyPost_ret (results_none rfl _ _ _) rfl ?_
    exact ⟨rfl, by rw [HE3.out]; exact HM.out, HB.out⟩
   have HE : Hid (Ent.abvL (shOf st hs) (Ent.dwnE (shOf st hs) f) tz (l.drop (q + 1)) (if (rdS st x).f0 = 3 then Ent.regE (shOf st hs) (Ent.dwnE (shOf st hs) f) (T.1 ||| 2 ^ x.toNat, T.2) x else (T.1 ||| 2 ^ x.toNat, T.2)) = G) := Lib.hid (by rw [← HE2]; simp only [Ent.abvL]; rw [if_neg hto]; rfl)
   have d1 : (x == tz) = false := beq_eq_false_iff_ne.mpr hto
   clear HE2 hto
   obtain ⟨y0, y1, y2, y3, y4, y5, y6, f5, f6⟩ := HM.out.cells
   have hx0 : 0 ≤ x := HK0.out.1
   have px : (0 ≤ x) = True := eq_true hx0
   generalize hT1 : (T.1 : Int) = t1 at y5
   go_wp2_with fail
   refine start_ (n := 10) (S := fun w' => w'.cell? ⟨wB.heap.size, 5, none⟩ = some (.int .u32 t1) ∧ w'.frozen? ⟨wB.heap.size, 5, none⟩ = false) (ds := [9]) (tf10 0) (by kernel_rfl) rfl (by kernel_rfl) ⟨y5, f5⟩ (fun hHeld => ?_)
   iterate 3
    refine pxt_ (v := ?_) (a' := ?_) rfl rfl (by kernel_rfl) (fun _ _ _ h => h) (Or.inl ⟨by rfl, ?_⟩) ?_ ?_
    rotate_left
    ·intro w'
     go_simp
     first | done | with_reducible rfl
    rotate_left
    ·simp only [Act.put, List.setIfInBounds_toArray, List.set_cons_zero, List.set_cons_succ, i64_w, i32_w]
     first | done | rfl
   refine nxt_ (v := ?_) (a' := ?_) rfl rfl (by kernel_rfl) (fun _ _ _ h => h) (Or.inl ⟨by rfl, ?_⟩) hHeld ?_ ?_
   rotate_left
   ·rintro w' ⟨s0, s1⟩
    go_simp
    first | done | with_reducible rfl
   rotate_left
   ·simp only [Act.put, List.setIfInBounds_toArray, List.set_cons_zero, List.set_cons_succ, i64_w, i32_w]
    first | done | rfl
   iterate 5
    refine pxt_ (v := ?_) (a' := ?_) rfl rfl (by kernel_rfl) (fun _ _ _ h => h) (Or.inl ⟨by rfl, ?_⟩) ?_ ?_
    rotate_left
    ·intro w'
     go_simp
     first | done | with_reducible rfl
    rotate_left
    ·simp only [Act.put, List.setIfInBounds_toArray, List.set_cons_zero, List.set_cons_succ, i64_w, i32_w]
     first | done | rfl
   refine last_ (i := 9) (N := none) (tf10 10) rfl rfl (by kernel_rfl) (by decide) (fun K hK => ?_)
   refine skip_ (w1 := ?_) (by rfl) rfl ?_ ?_
   rotate_left
   ·go_simp
    rfl
   refine hK.out _ _ ?_
   clear hK K
   refine done_ (by kernel_rfl) ?_
   subst hT1
   obtain ⟨o1, o2⟩ := or_at HM.out.set (q := x.toNat) (by have := HK0.out.2; omega)
   first | rw [o1] | skip
   have HM3 := Lib.hid (HM.out.put o2).drew
   have hc3 : Chg (fun b => b = wB.heap.size) wr (wr.setCell ⟨wB.heap.size, 5, none⟩ (.int .u32 ((T.1 ||| 2 ^ x.toNat : Nat) : Int))).drew := Chg.drew ((Chg.refl (fun b => b = wB.heap.size) wr).setCell (fun _ => rfl) _)
   have HB3 := Lib.hid (HB.out.trans hc3)
   have HR3 := Lib.hid (HR.out.chg hc3 HFar.out)
   clear hc3 y0 y1 y2 y3 y4 y5 y6 f5 f6 a0 o1 o2 hHeld
   generalize (wr.setCell ⟨wB.heap.size, 5, none⟩ (.int .u32 ((T.1 ||| 2 ^ x.toNat : Nat) : Int))).drew = w3 at HM3 HB3 HR3 ⊢
   obtain ⟨_, _, y2, _⟩ := HM3.out.cells
   obtain ⟨ad2, A2, c2, A3, c3, A4, c4, e2, q0, _⟩ := PAll.at_T66 (HC.out.M.below HM3.out.low).cs x HK0.out.1 HK0.out.2
   subst e2
   have p2 : (x < (st.length : Int)) = True := eq_true HK0.out.2
   by_cases h3 : (rdS st x).f0 = 3
   ·have d3 : ((PAll.rd_T66 st x).f0 == 3) = true := beq_iff_eq.mpr h3
    have HE3 := HE.out
    rw [if_pos h3] at HE3
    have HE4 := Lib.hid HE3
    clear HE3 HE h3
    go_wp2_with fail
    refine (regs_any HC.out HD.out w3 _ HM3.out HF.out x).mono ?_
    rintro e w4 ⟨rfl, hm4, hc4⟩
    have HM4 := Lib.hid hm4
    have HF4 := Lib.hid (Nat.le_trans (Ent.regE_left (sh := shOf st hs) (Ent.dwnE_left (shOf st hs) f) (T.1 ||| 2 ^ x.toNat, T.2) x) HF.out)
    have HR4 := Lib.hid (HR3.out.chg hc4 HFar.out)
    have HB4 := Lib.hid (HB3.out.trans hc4)
    clear hm4 hc4
    go_wp2_with fail
    go_roundw
    case rel => exact ⟨q + 1, _, by go_num, by omega, HM4, HF4, HE4, HB4, HR4⟩
    case measure => simp [intOf]; omega
   ·have d3 : ((PAll.rd_T66 st x).f0 == 3) = false := beq_eq_false_iff_ne.mpr h3
    have HE3 := HE.out
    rw [if_neg h3] at HE3
    have HE4 := Lib.hid HE3
    clear HE3 HE h3
    go_wp2_with fail
    go_roundw
    case rel => exact ⟨q + 1, _, by go_num, by omega, HM3, HF, HE4, HB3, HR3⟩
    case measure => simp [intOf]; omega
  ·obtain rfl : q = l.length := by omega
   have HE3 : Hid (G = T) := Lib.hid (by rw [← HE.out, List.drop_length]; rfl)
   clear HE
   go_wp2_with fail
   go_end0
   exact ⟨rfl, by rw [HE3.out]; exact HM.out, HB.out⟩
end
end Go.Proofs.YtikilglbhnplaaaGreatDoor
end
section
namespace Go.Proofs.YtikilglbhnplaaaGreatDoor
open Go.RowKit Go.Proofs.YtikilglbhnplaaaGreatDoorW.PrintWords Go.Proofs.YtikilglbhnplaaaGreatDoorW.PrintLast
open PX (T V)
theorem nums_low {w : World} {A : Option Addr} {l : List Int} (h : NumsC w A l.length l) {a : Addr} (e : A = some a) : a.block < w.heap.size ∨ l.length = 0 := by
 by_cases hz : l.length = 0
 ·exact .inr hz
 ·obtain ⟨ad, e2, hc⟩ := nums_at h 0 (by omega)
  rw [e] at e2
  obtain rfl := Option.some.inj e2
  have := cell_lt hc
  rw [add_block] at this
  exact .inl this
section
variable {wB : World} {g : Nat} {v : Int} {A B : Option Addr} {ca cb : Nat} {st : List Sta} {tr : List Tra} {H : Option Addr} {hc : Nat} {hs : List Int} {f : Nat}
theorem sta_at (hC : AdC wB g v A B ca cb st tr H hc hs) {s : Int} (hs' : thS st s) : ∃ ad A2 c2 A3 c3 A4 c4, A = some ad ∧ (rdS st s).f2.length ≤ c2 ∧ (Kd.int .i64).C wB A2 (rdS st s).f2.length (rdS st s).f2 ∧
  ∀ w, Below wB.heap.size wB w → w.cell? (ad.add (s.toNat * 5)) = some (.int .i64 (rdS st s).f0) ∧ w.cell? ⟨(ad.add (s.toNat * 5)).block, (ad.add (s.toNat * 5)).off + 1, none⟩ = some (.int .i64 (rdS st s).f1) ∧ w.cell? ⟨(ad.add (s.toNat * 5)).block, (ad.add (s.toNat * 5)).off + 2, none⟩ = some (.slice A2 (rdS st s).f2.length c2) ∧
   w.cell? ⟨(ad.add (s.toNat * 5)).block, (ad.add (s.toNat * 5)).off + 3, none⟩ = some (.slice A3 (rdS st s).f3.length c3) ∧ w.cell? ⟨(ad.add (s.toNat * 5)).block, (ad.add (s.toNat * 5)).off + 4, none⟩ = some (.slice A4 (rdS st s).f4.length c4) := by
 obtain ⟨ad, A2, c2, A3, c3, A4, c4, e, q0, q1, q2, q3, q4, l2, g2, _⟩ := PAll.at_T66 hC.M.cs s hs'.1 hs'.2
 have mv : ∀ {w : World} {p : Addr} {u : Value}, Below wB.heap.size wB w → wB.cell? p = some u → w.cell? p = some u := fun hb h => (World.cell?_of_block (hb.block _ (cell_lt h))).trans h
 exact ⟨ad, A2, c2, A3, c3, A4, c4, e, l2, g2, fun w hb => ⟨mv hb q0, mv hb q1, mv hb q2, mv hb q3, mv hb q4⟩⟩
theorem hist_at (hC : AdC wB g v A B ca cb st tr H hc hs) {q : Nat} (hq : q < hs.length) : ∃ ad, H = some ad ∧ ∀ w, Below wB.heap.size wB w → w.cell? (ad.add q) = some (.int .u32 hs[q]) := by
 obtain ⟨hl, hm, hn⟩ := hC.H
 obtain ⟨ad, e, hp⟩ := hn (by omega)
 obtain ⟨c, h1, h2, h3⟩ := hp q _ (List.getElem?_eq_getElem hq)
 have hk : c = [.int .u32 hs[q]] := h2
 have h4 := h3 0 (.int .u32 hs[q]) (by rw [hk]; rfl)
 have h5 : wB.cell? (ad.add q) = some (.int .u32 hs[q]) := by
  have e1 : q * (Kd.int .u32).sz + 0 = q := by show q * 1 + 0 = q; omega
  have h6 : wB.cell? (ad.add (q * (Kd.int .u32).sz + 0)) = some (.int .u32 hs[q]) := h4
  rw [e1] at h6; exact h6
 exact ⟨ad, e, fun w hb => (World.cell?_of_block (hb.block _ (cell_lt h5))).trans h5⟩
theorem stands_any (hC : AdC wB g v A B ca cb st tr H hc hs) (w : World) (hb : Below wB.heap.size wB w) (s : Int) (hs' : thS st s) :
  Calls Tryz.prog 86 #[ckV v A B st.length tr.length ca cb, .slice H hs.length hc, .int .i64 s] w fun e w' => ∃ E cap, e = .returned (.slice E ((shOf st hs).stands s).length cap) ∧ NumsC w' E ((shOf st hs).stands s).length ((shOf st hs).stands s) ∧ ((shOf st hs).stands s).length ≤ cap ∧
   (∀ ad, E = some ad → ad.block < wB.heap.size ∨ w.heap.size ≤ ad.block ∨ ((shOf st hs).stands s).length = 0) ∧ Below w.heap.size w w' := by
 have hb0 : Below w.heap.size w (w.alloc (.cells #[.int .i64 v, .slice A st.length ca, .slice B tr.length cb] 25)) := (Below.refl _ w).alloc (Nat.le_refl _) _
 have hB0 := hb.trans (hb0.mono hb.size)
 have HB0 := Lib.hid hb0
 have HB := Lib.hid hB0
 have HC := Lib.hid hC
 have HG := blk_new w (.cells #[.int .i64 v, .slice A st.length ca, .slice B tr.length cb] 25)
 obtain ⟨ad, A2, c2, A3, c3, A4, c4, rfl, l2, g2, hq⟩ := sta_at hC hs'
 obtain ⟨_, _, q2, _⟩ := hq _ hB0
 have y1 : (w.alloc (.cells #[.int .i64 v, .slice (some ad) st.length ca, .slice B tr.length cb] 25)).cell? ⟨w.heap.size, 1, none⟩ = some (.slice (some ad) st.length ca) := blk_cell HG 1
 have HS := Lib.hid hs'
 have p1 : (0 ≤ s) = True := eq_true hs'.1
 have p2 : (s < (st.length : Int)) = True := eq_true hs'.2
 have HL := Lib.hid l2
 have HG2 := Lib.hid g2
 have HSz := Lib.hid (Nat.le_trans hb.size (Nat.le_refl w.heap.size))
 clear hb hb0 hB0 hC HG hq l2 g2
 by_cases c1 : s < (hs.length : Int)
 ·have d1 : decide (s < (hs.length : Int)) = true := decide_eq_true c1
  have p3 : (s < (hs.length : Int)) = True := eq_true c1
  obtain ⟨adH, rfl, hcell⟩ := hist_at HC.out (q := s.toNat) (by have := hs'.1; omega)
  have z0 := hcell _ HB.out
  have hx := HC.out.hb _ (List.getElem_mem (show s.toNat < hs.length by have := hs'.1; omega))
  have e0 : rd hs s = hs[s.toNat]'(by have := hs'.1; omega) := by
   unfold rd; rw [List.getD_eq_getElem?_getD, List.getElem?_eq_getElem (by have := hs'.1; omega)]; rfl
  generalize hs[s.toNat]'(by have := hs'.1; omega) = x at *
  by_cases c2 : x = 0
  ·have d2 : (x != 0) = false := by rw [c2]; rfl
   have e1 : (shOf st hs).stands s = (rdS st s).f2 := by show (if s < (hs.length : Int) ∧ rd hs s ≠ 0 then _ else _) = _; rw [if_neg (by rw [e0]; exact fun h => h.2 c2)]
   rw [e1]
   clear c1 c2 hcell e0 e1 hx hs'
   go_enter Tryz.func86, Tryz.ntmps86
   go_wp2_with fail
   go_ret
   exact ⟨A2, c2, rfl, Kd.C_below HG2.out HB.out, HL.out, fun a h => (nums_low HG2.out h).elim .inl (fun h => .inr (.inr h)), HB0.out⟩
  ·have d2 : (x != 0) = true := by rw [bne_iff_ne]; exact c2
   obtain ⟨n, rfl⟩ : ∃ n : Nat, x = (n : Int) := ⟨x.toNat, by omega⟩
   have e1 : (shOf st hs).stands s = listP n := by show (if s < (hs.length : Int) ∧ rd hs s ≠ 0 then _ else _) = _; rw [if_pos ⟨c1, by rw [e0]; exact c2⟩, e0]; rfl
   rw [e1]
   have hx2 : n < 4294967296 := by omega
   clear c1 c2 hcell e0 e1 hx hs'
   go_enter Tryz.func86, Tryz.ntmps86
   go_wp2_with fail
   refine (list_any n hx2 _ (HC.out.laid.below HB.out)).mono ?_
   rintro e w2 ⟨u, rfl, hu, hb2⟩
   obtain ⟨E, cap, rfl⟩ := Kd.R_slice hu
   obtain ⟨_, hcap, hE⟩ := Kd.R_reads' hu
   have HE := Lib.hid hE
   have HU := Lib.hid hu
   have HB2 := Lib.hid (below_then HB0.out HB0.out.size hb2)
   have HCap := Lib.hid hcap
   clear hE hu hb2 hcap
   go_wp2_with fail
   go_ret
   refine ⟨E, cap, rfl, HE.out, HCap.out, fun a h => .inr (.inl ?_), HB2.out⟩
   have := inn_new HU.out a h
   have := HB0.out.size
   omega
 ·have d1 : decide (s < (hs.length : Int)) = false := decide_eq_false c1
  have e1 : (shOf st hs).stands s = (rdS st s).f2 := by show (if s < (hs.length : Int) ∧ rd hs s ≠ 0 then _ else _) = _; rw [if_neg (fun h => c1 h.1)]
  rw [e1]
  clear c1 e1 hs'
  go_enter Tryz.func86, Tryz.ntmps86
  go_wp2_with fail
  go_ret
  exact ⟨A2, c2, rfl, Kd.C_below HG2.out HB.out, HL.out, fun a h => (nums_low HG2.out h).elim .inl (fun h => .inr (.inr h)), HB0.out⟩
end
end Go.Proofs.YtikilglbhnplaaaGreatDoor
end
section
namespace Go.Proofs.YtikilglbhnplaaaGreatDoor
open Go.RowKit Go.Proofs.YtikilglbhnplaaaGreatDoorW.PrintWords Go.Proofs.YtikilglbhnplaaaGreatDoorW.PrintLast
open PX (T V)
theorem ini_true {v : Int} {st : List Sta} {tr : List Tra} (h : chkP v st tr = .none) {s : Int} (hs : thS st s) : iniP st s = true := by
 have hz := (chk_none h).2.1 s hs.1 hs.2
 unfold stateP at hz
 split at hz
 ·omega
 ·split at hz
  ·omega
  ·split at hz
   ·omega
   ·split at hz
    ·omega
    ·rename_i e; simpa using e
theorem ini_one {v : Int} {st : List Sta} {tr : List Tra} (h : chkP v st tr = .none) {s : Int} (hs : thS st s) (hk : (rdS st s).f0 = 2 ∨ (rdS st s).f0 = 5 ∨ (rdS st s).f0 = 6) : (rdS st s).f2.length = 1 ∧ 0 ≤ rd (rdS st s).f2 0 := by
 have hi := ini_true h hs
 have hk' : (PAll.rd_T66 st s).f0 = 2 ∨ (PAll.rd_T66 st s).f0 = 5 ∨ (PAll.rd_T66 st s).f0 = 6 := hk
 unfold iniP at hi
 rw [if_neg (by
  rintro ⟨e1, e2⟩
  rcases hk' with e | e | e
  ·exact e1 e
  ·rw [e] at e2; cases e2
  ·rw [e] at e2; cases e2)] at hi
 split at hi
 ·cases hi
 ·rename_i h1
  split at hi
  ·cases hi
  ·rename_i h2
   have h2 := Classical.not_not.1 h2
   have h1 := Classical.not_not.1 h1
   exact ⟨by show (PAll.rd_T66 st s).f2.length = 1; omega, h2.1⟩
theorem std_pos {v : Int} {st : List Sta} {tr : List Tra} (h : chkP v st tr = .none) (hs : List Int) {s : Int} (ht : thS st s) (hk : (rdS st s).f0 = 5 ∨ (rdS st s).f0 = 6) : ∀ y ∈ (shOf st hs).stands s, 0 ≤ y := by
 intro y hy
 have hy' : y ∈ (if s < (hs.length : Int) ∧ rd hs s ≠ 0 then listP (rd hs s).toNat else (rdS st s).f2) := hy
 split at hy'
 ·exact (listP_mem hy').1
 ·obtain ⟨l1, l0⟩ := ini_one h ht (.inr hk)
  match hf : (rdS st s).f2, l1 with
  | [a], _ =>
   rw [hf] at hy' l0
   obtain rfl := List.mem_singleton.1 hy'
   exact l0
theorem std_len {v : Int} {st : List Sta} {tr : List Tra} (h : chkP v st tr = .none) (hs : List Int) {s : Int} (ht : thS st s) (hk : (rdS st s).f0 = 5 ∨ (rdS st s).f0 = 6) : ((shOf st hs).stands s).length ≤ 32 := by
 show (if s < (hs.length : Int) ∧ rd hs s ≠ 0 then listP (rd hs s).toNat else (rdS st s).f2).length ≤ 32
 split
 ·exact listP_len _
 ·have := (ini_one h ht (.inr hk)).1
  omega
section
variable {wB : World} {g : Nat} {v : Int} {A B : Option Addr} {ca cb : Nat} {st : List Sta} {tr : List Tra} {H : Option Addr} {hc : Nat} {hs : List Int}
theorem dwn_stop (hC : AdC wB g v A B ca cb st tr H hc hs) (w : World) (S : Ent.ES) (h : AdM wB g v A B st.length tr.length ca cb H hs.length hc w S) (s : Int) (hz : S.2 = 0 ∨ (st.length : Int) ≤ s) :
  Calls Tryz.prog 40 #[AdP wB, .int .i64 s] w fun e w' => e = .returned (.tuple #[]) ∧ AdM wB g v A B st.length tr.length ca cb H hs.length hc w' S ∧ Chg (fun b => b = wB.heap.size) w w' := by
 have HM := Lib.hid h
 obtain ⟨y0, y1, y2, y3, y4, y5, y6, f5, f6⟩ := h.cells
 clear h hC
 by_cases c : S.2 = 0
 ·have d1 : ((S.2 : Int) == 0) = true := by rw [c]; rfl
  clear c hz
  go_enter Tryz.func40, Tryz.ntmps40
  go_wp2_with fail
  (try simp only [Exit.inBlock, Exit.then]); refine bodyPost_ret (results_none rfl _ _ _) rfl ?_
  exact ⟨rfl, HM.out, Chg.refl _ _⟩
 ·have d1 : ((S.2 : Int) == 0) = false := by rw [beq_eq_false_iff_ne]; omega
  have d2 : decide (s ≥ (st.length : Int)) = true := decide_eq_true (by rcases hz with h | h; exact absurd h c; exact h)
  clear c hz
  go_enter Tryz.func40, Tryz.ntmps40
  go_wp2_with fail
  (try simp only [Exit.inBlock, Exit.then]); refine bodyPost_ret (results_none rfl _ _ _) rfl ?_
  exact ⟨rfl, HM.out, Chg.refl _ _⟩
theorem dwn_go (hC : AdC wB g v A B ca cb st tr H hc hs) {f : Nat} (hD : DW wB g v A B ca cb st tr H hc hs f) (w : World) (x n : Nat) (h : AdM wB g v A B st.length tr.length ca cb H hs.length hc w (x, n + 1)) (hf : n ≤ f) (s : Int) (hs' : thS st s) :
  Calls Tryz.prog 40 #[AdP wB, .int .i64 s] w fun e w' => e = .returned (.tuple #[]) ∧ AdM wB g v A B st.length tr.length ca cb H hs.length hc w' (Ent.dwnE (shOf st hs) (f + 1) (x, n + 1) s) ∧ Chg (fun b => b = wB.heap.size) w w' := by
 have HC := Lib.hid hC
 have HD := Lib.hid hD
 have hl : st.length ≤ 24 := (chk_none hC.good).1.2.2.2.1
 have HF := Lib.hid hf
 have HS := Lib.hid hs'
 have hn4 : n + 1 ≤ 4000 := h.left
 obtain ⟨y0, y1, y2, y3, y4, y5, y6, f5, f6⟩ := h.cells
 have y6' : w.cell? ⟨wB.heap.size, 6, none⟩ = some (.int .i64 ((n : Int) + 1)) := y6
 have HM0 := h.putl (x := n) (by omega)
 have HX0 : wB.heap.size < w.heap.size := lt_of_block h.blk
 obtain ⟨ad, A2, c2, A3, c3, A4, c4, rfl, l2, g2, hq⟩ := sta_at hC hs'
 generalize hG : Ent.dwnE (shOf st hs) (f + 1) (x, n + 1) s = G
 have HG := Lib.hid hG
 obtain ⟨q0, q1, q2, q3, q4⟩ := hq _ HM0.low
 obtain ⟨z0, z1, z2, z3, z4, z5, z6, _, _⟩ := HM0.cells
 have HM1 := Lib.hid HM0
 have HL2 := Lib.hid l2
 have HG2 := Lib.hid g2
 have d1 : (((n : Int) + 1) == 0) = false := by rw [beq_eq_false_iff_ne]; omega
 have d2 : decide (s ≥ (st.length : Int)) = false := decide_eq_false (by have := hs'.2; omega)
 have p1 : (0 ≤ s) = True := eq_true hs'.1
 have p2 : (s < (st.length : Int)) = True := eq_true hs'.2
 have HSz : Hid ((w.setCell ⟨wB.heap.size, 6, none⟩ (.int .i64 (n : Int))).heap.size = w.heap.size) := Lib.hid (by simp [World.setCell])
 have HC1 : Hid (Chg (fun b => b = wB.heap.size) w (w.setCell ⟨wB.heap.size, 6, none⟩ (.int .i64 (n : Int)))) := Lib.hid ((Chg.refl (fun b => b = wB.heap.size) w).setCell (fun _ => rfl) _)
 clear hC hD h hf hs' hG HM0 hq l2 g2 y6
 go_enter Tryz.func40, Tryz.ntmps40
 go_wp2_with fail
 have HM2 := Lib.hid (HM1.out.step ((Below.refl _ _).alloc (Nat.le_refl _) (.cells #[.int .i64 (rdS st s).f0, .int .i64 (rdS st s).f1, .slice A2 (rdS st s).f2.length c2, .slice A3 (rdS st s).f3.length c3, .slice A4 (rdS st s).f4.length c4] 66)))
 have HC2 := Lib.hid (HC1.out.alloc (.cells #[.int .i64 (rdS st s).f0, .int .i64 (rdS st s).f1, .slice A2 (rdS st s).f2.length c2, .slice A3 (rdS st s).f3.length c3, .slice A4 (rdS st s).f4.length c4] 66))
 have hx2 := blk_new (w.setCell ⟨wB.heap.size, 6, none⟩ (.int .i64 (n : Int))) (.cells #[.int .i64 (rdS st s).f0, .int .i64 (rdS st s).f1, .slice A2 (rdS st s).f2.length c2, .slice A3 (rdS st s).f3.length c3, .slice A4 (rdS st s).f4.length c4] 66)
 rw [HSz.out] at hx2
 have HX := Lib.hid hx2
 clear hx2 HC1 HSz HM1 q0 q1 q2 q3 q4 z0 z1 z2 z3 z4 z5 z6 y0 y1 y2 y3 y4 y5 y6' f5 f6
 generalize (w.setCell ⟨wB.heap.size, 6, none⟩ (.int .i64 (n : Int))).alloc (.cells #[.int .i64 (rdS st s).f0, .int .i64 (rdS st s).f1, .slice A2 (rdS st s).f2.length c2, .slice A3 (rdS st s).f3.length c3, .slice A4 (rdS st s).f4.length c4] 66) = w2 at HM2 HC2 HX ⊢
 have hgs : ¬ w.heap.size = wB.heap.size := by omega
 by_cases hh : (rdS st s).f0 = 5 ∨ (rdS st s).f0 = 6
 ·have HGh : Hid (((shOf st hs).stands s).foldl (fun S y => Ent.abvE (shOf st hs) (Ent.dwnE (shOf st hs) f) S y (rdS st s).f1) (((shOf st hs).stands s).foldl (Ent.dwnE (shOf st hs) f) (x, n)) = G) := Lib.hid (by
   rw [← HG.out]
   exact ((if_neg (show ¬ (n + 1 = 0 ∨ (st.length : Int) ≤ s) by have := HS.out.2; omega)).trans (if_pos hh)).symm)
  have HSp := Lib.hid (std_pos HC.out.good hs HS.out hh)
  have hsl := std_len HC.out.good hs HS.out hh
  refine (ehist_any (rdS st s).f0 _ (decide_eq_true hh)).mono ?_
  rintro e w3 ⟨rfl, h3⟩
  rw [h3]
  clear HG hh h3
  go_wp2_with fail
  obtain ⟨z0, z1, z2, z3, z4, z5, z6, _, _⟩ := HM2.out.cells
  refine start_ (n := 11) (S := fun w' => w'.cell? ⟨wB.heap.size, 1, none⟩ = some (.int .i64 v) ∧ w'.cell? ⟨wB.heap.size, 2, none⟩ = some (.slice (some ad) st.length ca) ∧ w'.cell? ⟨wB.heap.size, 3, none⟩ = some (.slice B tr.length cb) ∧ w'.cell? ⟨wB.heap.size, 4, none⟩ = some (.slice H hs.length hc)) (ds := [9]) (tf11 0) (by kernel_rfl) rfl (by kernel_rfl) ⟨z1, z2, z3, z4⟩ (fun hHeld => ?_)
  iterate 3
   refine pxt_ (v := ?_) (a' := ?_) rfl rfl (by kernel_rfl) (fun _ _ _ h => h) (Or.inl ⟨by rfl, ?_⟩) ?_ ?_
   rotate_left
   ·intro w'
    go_simp
    first | done | with_reducible rfl
   rotate_left
   ·simp only [Act.put, List.setIfInBounds_toArray, List.set_cons_zero, List.set_cons_succ, i64_w, i32_w]
    first | done | rfl
  refine nxt_ (v := ?_) (a' := ?_) rfl rfl (by kernel_rfl) (fun _ _ _ h => h) (Or.inl ⟨by rfl, ?_⟩) hHeld ?_ ?_
  rotate_left
  ·rintro w' ⟨s0, s1, s2, s3⟩
   go_simp
   first | done | with_reducible rfl
  rotate_left
  ·simp only [Act.put, List.setIfInBounds_toArray, List.set_cons_zero, List.set_cons_succ, i64_w, i32_w]
   first | done | rfl
  iterate 3
   refine pxt_ (v := ?_) (a' := ?_) rfl rfl (by kernel_rfl) (fun _ _ _ h => h) (Or.inl ⟨by rfl, ?_⟩) ?_ ?_
   rotate_left
   ·intro w'
    go_simp
    first | done | with_reducible rfl
   rotate_left
   ·simp only [Act.put, List.setIfInBounds_toArray, List.set_cons_zero, List.set_cons_succ, i64_w, i32_w]
    first | done | rfl
  refine nxt_ (v := ?_) (a' := ?_) rfl rfl (by kernel_rfl) (fun _ _ _ h => h) (Or.inl ⟨by rfl, ?_⟩) hHeld ?_ ?_
  rotate_left
  ·rintro w' ⟨s0, s1, s2, s3⟩
   go_simp
   first | done | with_reducible rfl
  rotate_left
  ·simp only [Act.put, List.setIfInBounds_toArray, List.set_cons_zero, List.set_cons_succ, i64_w, i32_w]
   first | done | rfl
  refine pxt_ (v := ?_) (a' := ?_) rfl rfl (by kernel_rfl) (fun _ _ _ h => h) (Or.inl ⟨by rfl, ?_⟩) ?_ ?_
  rotate_left
  ·intro w'
   go_simp
   first | done | with_reducible rfl
  rotate_left
  ·simp only [Act.put, List.setIfInBounds_toArray, List.set_cons_zero, List.set_cons_succ, i64_w, i32_w]
   first | done | rfl
  refine last_ (i := 9) (N := some 52) (tf11 10) rfl rfl (by kernel_rfl) (by decide) (fun K hK => ?_)
  refine goes_ Tryz.func86 (by kernel_rfl) rfl #[ckV v (some ad) B st.length tr.length ca cb, .slice H hs.length hc, .int .i64 s] (by rfl) rfl rfl (by first | rfl | (go_simp; done) | (go_simp; exact ⟨rfl, rfl⟩) | (go_simp; rfl)) ?_
  refine (stands_any HC.out _ (below_drewN' HM2.out.low 1) s HS.out).mono ?_
  rintro e1 w4 ⟨E, cap, rfl, hE, hcap, hfar, hb4⟩
  have hb4' : Below w2.heap.size w2 w4 := below_then (below_drewN' (Below.refl _ w2) 1) (Nat.le_refl _) hb4
  have HM4 := Lib.hid (HM2.out.step hb4')
  have HC4 := Lib.hid (HC2.out.trans (Chg.of_below hb4'))
  have HX4 := Lib.hid ((hb4'.block _ (lt_of_block HX.out)).trans HX.out)
  have HR4 := Lib.hid (Rd.of hE)
  have HFar : Hid (∀ ad, E = some ad → ¬ ad.block = wB.heap.size ∨ ((shOf st hs).stands s).length = 0) := Lib.hid (fun a ha => by
   have h2 := lt_of_block HM2.out.blk
   have h3 : w2.heap.size ≤ (w2.drewN 1).heap.size := Nat.le_refl _
   rcases hfar a ha with h | h | h
   ·exact .inl (by omega)
   ·exact .inl (by omega)
   ·exact .inr h)
  refine ⟨_, rfl, hK.out _ _ ?_⟩
  clear hK K hHeld hE hcap hfar hb4 hb4' HM2 HC2 HX
  refine pxt_ (v := ?_) (a' := ?_) rfl rfl (by kernel_rfl) (fun _ _ _ h => h) (Or.inl ⟨by rfl, ?_⟩) ?_ ?_
  rotate_left
  ·intro w'
   go_simp
   first | done | with_reducible rfl
  rotate_left
  ·simp only [Act.put, List.setIfInBounds_toArray, List.set_cons_zero, List.set_cons_succ, i64_w, i32_w]
   first | done | rfl
  refine done_ (by kernel_rfl) ?_
  clear z0 z1 z2 z3 z4 z5 z6
  generalize (shOf st hs).stands s = l at *
  go_wp2_with fail
  go_loopw [55] (fun i wr => ∃ (q : Nat) (T : Ent.ES), i = .int .i64 q ∧ q ≤ l.length ∧ Hid (AdM wB g v (some ad) B st.length tr.length ca cb H hs.length hc wr T) ∧ Hid (T.2 ≤ f) ∧ Hid ((l.drop q).foldl (Ent.dwnE (shOf st hs) f) T = l.foldl (Ent.dwnE (shOf st hs) f) (x, n)) ∧ Hid (Chg (fun b => b = wB.heap.size) w wr) ∧ Hid (Rd wr E l) ∧ Hid (wr.heap[w.heap.size]? = some (.cells #[.int .i64 (rdS st s).f0, .int .i64 (rdS st s).f1, .slice A2 (rdS st s).f2.length c2, .slice A3 (rdS st s).f3.length c3, .slice A4 (rdS st s).f4.length c4] 66 (0, 0)))) (fun i _ => l.length - (intOf i).toNat)
  case atStart => exact ⟨0, (x, n), rfl, Nat.zero_le _, HM4, HF, Lib.hid (by rw [List.drop_zero]), HC4, HR4, HX4⟩
  case round =>
   clear HM4 HF HC4 HR4 HX4
   obtain ⟨q, T, rfl, hq, HM, HF, HE, HB, HR, HX⟩ := hrel
   by_cases hlt : q < l.length
   ·obtain ⟨ad2, rfl, a0⟩ := HR.out q hlt
    have hds : l.drop q = l[q] :: l.drop (q + 1) := List.drop_eq_getElem_cons hlt
    have HE2 := HE.out
    rw [hds, List.foldl_cons] at HE2
    have HK0 := Lib.hid (HSp.out l[q] (List.getElem_mem hlt))
    have p3 : ((q : Int) < (l.length : Int)) = True := eq_true (by omega)
    clear hds HE
    generalize l[q] = k at *
    have HE := Lib.hid HE2
    clear HE2
    go_wp2_with fail
    refine (HD.out wr T k HM.out HF.out HK0.out).mono ?_
    rintro e w4 ⟨rfl, hm4, hc4⟩
    have HM4 := Lib.hid hm4
    have HF4 := Lib.hid (Nat.le_trans (Ent.dwnE_left (shOf st hs) f T k) HF.out)
    have HR4 := Lib.hid (HR.out.chg' hc4 HFar.out)
    have HB4 := Lib.hid (HB.out.trans hc4)
    have HX4 := Lib.hid (hc4.blk HX.out hgs)
    clear hm4 hc4 a0
    go_wp2_with fail
    go_roundw
    case rel => exact ⟨q + 1, _, by go_num, by omega, HM4, HF4, HE, HB4, HR4, HX4⟩
    case measure => simp [intOf]; omega
   ·obtain rfl : q = l.length := by omega
    have HE3 : Hid (l.foldl (Ent.dwnE (shOf st hs) f) (x, n) = T) := Lib.hid (by rw [← HE.out, List.drop_length]; rfl)
    have HGi := HGh.out
    rw [HE3.out] at HGi
    have HG := Lib.hid HGi
    clear HE HE3 HGi HGh
    go_wp2_with fail
    go_loopw [65] (fun i wr => ∃ (q : Nat) (U : Ent.ES), i = .int .i64 q ∧ q ≤ l.length ∧ Hid (AdM wB g v (some ad) B st.length tr.length ca cb H hs.length hc wr U) ∧ Hid (U.2 ≤ f) ∧ Hid ((l.drop q).foldl (fun S y => Ent.abvE (shOf st hs) (Ent.dwnE (shOf st hs) f) S y (rdS st s).f1) U = G) ∧ Hid (Chg (fun b => b = wB.heap.size) w wr) ∧ Hid (Rd wr E l) ∧ Hid (wr.heap[w.heap.size]? = some (.cells #[.int .i64 (rdS st s).f0, .int .i64 (rdS st s).f1, .slice A2 (rdS st s).f2.length c2, .slice A3 (rdS st s).f3.length c3, .slice A4 (rdS st s).f4.length c4] 66 (0, 0)))) (fun i _ => l.length - (intOf i).toNat)
    case atStart => exact ⟨0, T, rfl, Nat.zero_le _, HM, HF, Lib.hid (by rw [List.drop_zero]; exact HG.out), HB, HR, HX⟩
    case round =>
     clear HM HF HB HR HX HG
     obtain ⟨q, U, rfl, hq, HM, HF, HE, HB, HR, HX⟩ := hrel
     by_cases hlt : q < l.length
     ·obtain ⟨ad2, rfl, a0⟩ := HR.out q hlt
      have hds : l.drop q = l[q] :: l.drop (q + 1) := List.drop_eq_getElem_cons hlt
      have HE2 := HE.out
      rw [hds, List.foldl_cons] at HE2
      have p3 : ((q : Int) < (l.length : Int)) = True := eq_true (by omega)
      clear hds HE
      generalize l[q] = k at *
      have HE := Lib.hid HE2
      have b1 : wr.cell? ⟨w.heap.size, 1, none⟩ = some (.int .i64 (rdS st s).f1) := blk_cell HX.out 1
      clear HE2
      go_wp2_with fail
      refine (abv_any HC.out HD.out wr U HM.out HF.out k (rdS st s).f1).mono ?_
      rintro e w4 ⟨rfl, hm4, hc4⟩
      have HM4 := Lib.hid hm4
      have HF4 := Lib.hid (Nat.le_trans (Ent.abvL_left (sh := shOf st hs) (Ent.dwnE_left (shOf st hs) f) (rdS st s).f1 (upP st k) U) HF.out)
      have HR4 := Lib.hid (HR.out.chg' hc4 HFar.out)
      have HB4 := Lib.hid (HB.out.trans hc4)
      have HX4 := Lib.hid (hc4.blk HX.out hgs)
      clear hm4 hc4 a0 b1
      go_wp2_with fail
      go_roundw
      case rel => exact ⟨q + 1, _, by go_num, by omega, HM4, HF4, HE, HB4, HR4, HX4⟩
      case measure => simp [intOf]; omega
     ·obtain rfl : q = l.length := by omega
      have HE3 : Hid (G = U) := Lib.hid (by rw [← HE.out, List.drop_length]; rfl)
      clear HE
      go_wp2_with fail
      (try simp only [Exit.inBlock, Exit.then]); refine bodyPost_ret (results_none rfl _ _ _) rfl ?_
      exact ⟨rfl, by rw [HE3.out]; exact HM.out, HB.out⟩
 ·have HGn : Hid ((if (rdS st s).f0 = 2 then Ent.abvE (shOf st hs) (Ent.dwnE (shOf st hs) f) (Ent.dwnE (shOf st hs) f (x ||| 2 ^ s.toNat, n) (rd (rdS st s).f2 0)) (rd (rdS st s).f2 0) s else if (rdS st s).f0 = 3 then Ent.regE (shOf st hs) (Ent.dwnE (shOf st hs) f) (x ||| 2 ^ s.toNat, n) s else (x ||| 2 ^ s.toNat, n)) = G) := Lib.hid (by
   rw [← HG.out]
   exact ((if_neg (show ¬ (n + 1 = 0 ∨ (st.length : Int) ≤ s) by have := HS.out.2; omega)).trans (if_neg hh)).symm)
  refine (ehist_any (rdS st s).f0 _ (decide_eq_false hh)).mono ?_
  rintro e w3 ⟨rfl, h3⟩
  rw [h3]
  clear HG hh h3
  obtain ⟨z0, z1, z2, z3, z4, z5, z6, zf5, _⟩ := HM2.out.cells
  generalize hT1 : ((x : Nat) : Int) = t1 at z5
  go_wp2_with fail
  refine start_ (n := 10) (S := fun w' => w'.cell? ⟨wB.heap.size, 5, none⟩ = some (.int .u32 t1) ∧ w'.frozen? ⟨wB.heap.size, 5, none⟩ = false) (ds := [9]) (tf10 0) (by kernel_rfl) rfl (by kernel_rfl) ⟨z5, zf5⟩ (fun hHeld => ?_)
  iterate 3
   refine pxt_ (v := ?_) (a' := ?_) rfl rfl (by kernel_rfl) (fun _ _ _ h => h) (Or.inl ⟨by rfl, ?_⟩) ?_ ?_
   rotate_left
   ·intro w'
    go_simp
    first | done | with_reducible rfl
   rotate_left
   ·simp only [Act.put, List.setIfInBounds_toArray, List.set_cons_zero, List.set_cons_succ, i64_w, i32_w]
    first | done | rfl
  refine nxt_ (v := ?_) (a' := ?_) rfl rfl (by kernel_rfl) (fun _ _ _ h => h) (Or.inl ⟨by rfl, ?_⟩) hHeld ?_ ?_
  rotate_left
  ·rintro w' ⟨s0, s1⟩
   go_simp
   first | done | with_reducible rfl
  rotate_left
  ·simp only [Act.put, List.setIfInBounds_toArray, List.set_cons_zero, List.set_cons_succ, i64_w, i32_w]
   first | done | rfl
  iterate 5
   refine pxt_ (v := ?_) (a' := ?_) rfl rfl (by kernel_rfl) (fun _ _ _ h => h) (Or.inl ⟨by rfl, ?_⟩) ?_ ?_
   rotate_left
   ·intro w'
    go_simp
    first | done | with_reducible rfl
   rotate_left
   ·simp only [Act.put, List.setIfInBounds_toArray, List.set_cons_zero, List.set_cons_succ, i64_w, i32_w]
    first | done | rfl
  refine last_ (i := 9) (N := none) (tf10 10) rfl rfl (by kernel_rfl) (by decide) (fun K hK => ?_)
  refine skip_ (w1 := ?_) (by rfl) rfl ?_ ?_
  rotate_left
  ·go_simp
   rfl
  refine hK.out _ _ ?_
  clear hK K
  refine done_ (by kernel_rfl) ?_
  subst hT1
  obtain ⟨o1, o2⟩ := or_at HM2.out.set (q := s.toNat) (by have := HS.out.2; omega)
  first | rw [o1] | skip
  have HM3 := Lib.hid (HM2.out.put o2).drew
  have hc3 : Chg (fun b => b = wB.heap.size) w2 (w2.setCell ⟨wB.heap.size, 5, none⟩ (.int .u32 ((x ||| 2 ^ s.toNat : Nat) : Int))).drew := Chg.drew ((Chg.refl (fun b => b = wB.heap.size) w2).setCell (fun _ => rfl) _)
  have HC3 := Lib.hid (HC2.out.trans hc3)
  have HX3 := Lib.hid (hc3.blk HX.out hgs)
  clear hc3 z0 z1 z2 z3 z4 z5 z6 zf5 o1 o2 hHeld HX HM2 HC2
  generalize (w2.setCell ⟨wB.heap.size, 5, none⟩ (.int .u32 ((x ||| 2 ^ s.toNat : Nat) : Int))).drew = w3 at HM3 HC3 HX3 ⊢
  obtain ⟨b0, b2⟩ : w3.cell? ⟨w.heap.size, 0, none⟩ = some (.int .i64 (rdS st s).f0) ∧ w3.cell? ⟨w.heap.size, 2, none⟩ = some (.slice A2 (rdS st s).f2.length c2) := ⟨blk_cell HX3.out 0, blk_cell HX3.out 2⟩
  by_cases k2 : (rdS st s).f0 = 2
  ·have e2 : ((rdS st s).f0 == 2) = true := beq_iff_eq.mpr k2
   have hG2 := HGn.out
   rw [if_pos k2] at hG2
   have HG := Lib.hid hG2
   obtain ⟨l1, l0⟩ := ini_one HC.out.good HS.out (.inl k2)
   obtain ⟨ad2, rfl, a0⟩ := nums_at HG2.out 0 (by omega)
   rw [addr0] at a0
   have hrd : rd (rdS st s).f2 0 = (rdS st s).f2[0]'(by omega) := by
    unfold rd; rw [List.getD_eq_getElem?_getD, List.getElem?_eq_getElem (by simpa using (show 0 < (rdS st s).f2.length by omega))]; rfl
   rw [← hrd] at a0
   have HA0 : Hid (∀ wx, Below wB.heap.size wB wx → wx.cell? ad2 = some (.int .i64 (rd (rdS st s).f2 0))) := Lib.hid (fun wx hb => (World.cell?_of_block (hb.block _ (cell_lt a0))).trans a0)
   have a3 := HA0.out _ HM3.out.low
   have p3 : ((0 : Int) < ((rdS st s).f2.length : Int)) = True := eq_true (by omega)
   have p4 : (0 < (rdS st s).f2.length) = True := eq_true (by omega)
   have HL0 := Lib.hid l0
   clear k2 HGn hG2 hrd l1 l0
   generalize rd (rdS st s).f2 0 = y at *
   go_wp2_with fail
   refine (HD.out w3 _ y HM3.out HF.out HL0.out).mono ?_
   rintro e w4 ⟨rfl, hm4, hc4⟩
   have HM4 := Lib.hid hm4
   have HF4 := Lib.hid (Nat.le_trans (Ent.dwnE_left (shOf st hs) f (x ||| 2 ^ s.toNat, n) y) HF.out)
   have HC4 := Lib.hid (HC3.out.trans hc4)
   have b2' : w4.cell? ⟨w.heap.size, 2, none⟩ = some (.slice (some ad2) (rdS st s).f2.length c2) := blk_cell (hc4.blk HX3.out hgs) 2
   have a4 := HA0.out _ hm4.low
   clear hm4 hc4 b0 b2 a3
   go_wp2_with fail
   refine (abv_any HC.out HD.out w4 _ HM4.out HF4.out y s).mono ?_
   rw [HG.out]
   rintro e w5 ⟨rfl, hm5, hc5⟩
   have HM5 := Lib.hid hm5
   have HC5 := Lib.hid (HC4.out.trans hc5)
   clear hm5 hc5
   go_wp2_with fail
   go_end0
   exact ⟨rfl, HM5.out, HC5.out⟩
  ·have e2 : ((rdS st s).f0 == 2) = false := beq_eq_false_iff_ne.mpr k2
   have hG2 := HGn.out
   rw [if_neg k2] at hG2
   by_cases k3 : (rdS st s).f0 = 3
   ·have e3 : ((rdS st s).f0 == 3) = true := beq_iff_eq.mpr k3
    rw [if_pos k3] at hG2
    have HG := Lib.hid hG2
    clear k2 k3 hG2 HGn
    go_wp2_with fail
    refine (regs_any HC.out HD.out w3 _ HM3.out HF.out s).mono ?_
    rw [HG.out]
    rintro e w5 ⟨rfl, hm5, hc5⟩
    have HM5 := Lib.hid hm5
    have HC5 := Lib.hid (HC3.out.trans hc5)
    clear hm5 hc5
    go_wp2_with fail
    go_end0
    exact ⟨rfl, HM5.out, HC5.out⟩
   ·have e3 : ((rdS st s).f0 == 3) = false := beq_eq_false_iff_ne.mpr k3
    rw [if_neg k3] at hG2
    have HG := Lib.hid hG2
    clear k2 k3 hG2 HGn
    go_wp2_with fail
    go_end0
    exact ⟨rfl, by rw [← HG.out]; exact HM3.out, HC3.out⟩
theorem dw_any (hC : AdC wB g v A B ca cb st tr H hc hs) (f : Nat) : DW wB g v A B ca cb st tr H hc hs f := by
 induction f with
 | zero =>
  intro w S s h hf h0
  exact dwn_stop hC w S h s (.inl (by omega))
 | succ f ih =>
  rintro w ⟨x, n⟩ s h hf h0
  by_cases hz : n = 0 ∨ (st.length : Int) ≤ s
  ·have e : Ent.dwnE (shOf st hs) (f + 1) (x, n) s = (x, n) := by
    simp only [Ent.dwnE]; exact if_pos hz
   rw [e]
   exact dwn_stop hC w (x, n) h s hz
  ·obtain ⟨m, rfl⟩ : ∃ m, n = m + 1 := ⟨n - 1, by omega⟩
   exact dwn_go hC ih w x m h (by simp only at hf; omega) s ⟨h0, by omega⟩
end
end Go.Proofs.YtikilglbhnplaaaGreatDoor
end
section
namespace Go.Proofs.YtikilglbhnplaaaGreatDoor
open Go.RowKit Go.Proofs.YtikilglbhnplaaaGreatDoorW.PrintWords Go.Proofs.YtikilglbhnplaaaGreatDoorW.PrintLast
open PX (T V)
section
variable {ops : Array Oper} {Q : Exit → Act → World → Prop} {rest : List Oper} {a : Act} {o : Oper}
theorem inn_append4 {W : World} (hgd : o.guard = none) (s x : Operand)
  (ho : o.op = .call { callee := .builtin .append, args := #[s, x], argTypes := #[36, 36] })
  (B : Nat) (v : Value) (xs : List Int) (p : Int) (hs : a.eval s = v) (N : Nat) (hx : a.eval x = .slice (some ⟨N, 0, none⟩) 1 1) (hN : N = W.heap.size)
  (HO : InnR W B v xs) (hB : B ≤ W.heap.size) (hl : xs.length < 1000000)
  (h : ∀ v1 w1, InnR w1 B v1 (xs ++ [p]) → Below B W w1 → W.grownBy w1 v.ownBlock → (v1.ownBlock = v.ownBlock ∨ ∃ b, v1.ownBlock = some b ∧ W.heap.size ≤ b) → wpList Tryz.prog ops Q rest (a.put o.dst v1) w1) :
  wpList Tryz.prog ops Q (o :: rest) a (W.alloc (.cells #[.int .i64 p] 3)) := by
 subst hN
 exact Kd.R_append (Kd.int .i64) (w0 := W) B hgd s x 36 3 (.int .i64 0) 8 ho Tryz.underlying36 (by kernel_rfl) rfl (by decide) (by omega) v xs p [.int .i64 p]
  (fun _ => True) (fun _ => False) hs hx rfl (fun _ hk => hk.elim) (fun _ _ => trivial) HO (Below.refl _ _) hB (by omega) h
end
def realX (st : List Sta) (out : List Int) (xs : List Int) : List Int := xs.foldl (fun out x => if kindP st x ≠ 0 ∧ out.contains x = false then out ++ [x] else out) out
def realL (st : List Sta) (hs : List Int) (s : Int) : List Int := if kindP st s = 5 ∨ kindP st s = 6 then (shOf st hs).stands s else [s]
def realS (st : List Sta) (hs : List Int) (out : List Int) (s : Int) : List Int := if kindP st s = 0 then out else realX st out (realL st hs s)
def realP (st : List Sta) (hs : List Int) (l : List Int) : List Int := l.foldl (realS st hs) []
theorem kindP_ne {v : Int} {st : List Sta} {tr : List Tra} (h : chkP v st tr = .none) (s : Int) : kindP st s ≠ 0 ↔ thS st s := by
 unfold kindP
 constructor
 ·intro hk
  split at hk
  ·assumption
  ·exact absurd rfl hk
 ·intro ht
  rw [if_pos ht]
  have := good_kind h ht
  omega
section
variable {g : Nat} {v : Int} {st : List Sta} {tr : List Tra} {H : Option Addr} {hc : Nat} {hs : List Int}
theorem real_any (w : World) (hw : LaidZ w) (hT : TrM w g v st tr) (good : chkP v st tr = .none) (hF : fewP st tr = true) (hH : (Kd.int .u32).C w H hs.length hs) (hhc : hs.length ≤ hc) (hhl : hs.length ≤ 100000) (hhb : ∀ x ∈ hs, 0 ≤ x ∧ x < 4294967296)
  (E : Option Addr) (cap : Nat) (l : List Int) (hE : NumsC w E l.length l) (hcap : l.length ≤ cap) (hll : l.length ≤ 1000) :
  Calls Tryz.prog 41 #[.pointer (some ⟨g, 0, none⟩), .slice H hs.length hc, .slice E l.length cap] w fun e w' => ∃ u : Value, e = .returned u ∧ InnR w' w.heap.size u (realP st hs l) ∧ Below w.heap.size w w' := by
 have HT := Lib.hid hT
 have HGood := Lib.hid good
 have HWZ := Lib.hid hw
 have HH := Lib.hid hH
 have HHb := Lib.hid hhb
 have HE := Lib.hid (Rd.of hE)
 have HElow : Hid (∀ ad, E = some ad → ad.block < w.heap.size ∨ l.length = 0) := Lib.hid (fun ad h => nums_low hE h)
 obtain ⟨⟨_, _, hn1, hn, hn2⟩, _⟩ := chk_none good
 obtain ⟨hS, hTr⟩ := few_s hF
 generalize hG : realP st hs l = G
 have HG : Hid (l.foldl (realS st hs) [] = G) := Lib.hid hG
 clear hT good hw hH hhb hE hF hG
 go_enter Tryz.func41, Tryz.ntmps41
 go_wp2_with fail
 refine (tchart_any HT.out (by omega) (by omega) (by omega) hS hTr).mono ?_
 rintro e w1 ⟨gS, ca, B, cb, rfl, hM, hb1, _, _, _⟩
 have hC : AdC w1 g v (some ⟨gS, 0, none⟩) B ca cb st tr H hc hs := ⟨HT.out.below hb1, hM, Kd.C_below HH.out hb1, hhc, hhl, HHb.out, HWZ.out.below hb1, HGood.out⟩
 have HC := Lib.hid hC
 have hal : Below w1.heap.size w1 (w1.alloc (.cells #[.int .i64 v, .slice (some ⟨gS, 0, none⟩) st.length ca, .slice B tr.length cb] 25)) := (Below.refl _ w1).alloc (Nat.le_refl _) _
 have HAl := Lib.hid hal
 have HX := Lib.hid (blk_new w1 (.cells #[.int .i64 v, .slice (some ⟨gS, 0, none⟩) st.length ca, .slice B tr.length cb] 25))
 have HB0 := Lib.hid (below_then hb1 hb1.size hal)
 have HSz : Hid (w1.heap.size < (w1.alloc (.cells #[.int .i64 v, .slice (some ⟨gS, 0, none⟩) st.length ca, .slice B tr.length cb] 25)).heap.size) := Lib.hid (by simp)
 have HS1 := Lib.hid hb1.size
 clear hM hb1 hC hal hS hTr HH HHb HT HWZ
 go_wp2_with fail
 generalize w1.alloc (.cells #[.int .i64 v, .slice (some ⟨gS, 0, none⟩) st.length ca, .slice B tr.length cb] 25) = w2 at HAl HX HB0 HSz ⊢
 have HE2 := Lib.hid (HE.out.chg' (S := fun _ => False) (Chg.of_below HB0.out) (fun _ _ => .inl (fun h => h)))
 go_loopw [7, 20] (fun u i wr => ∃ (q : Nat) (acc : List Int) (z : Value), z = u ∧ i = .int .i64 q ∧ q ≤ l.length ∧ acc.length ≤ 32 * q ∧ Hid (InnR wr w2.heap.size z acc) ∧ Hid ((l.drop q).foldl (realS st hs) acc = G) ∧ Hid (Below w2.heap.size w2 wr)) (fun _ i _ => l.length - (intOf i).toNat)
 case atStart => exact ⟨0, [], _, rfl, rfl, Nat.zero_le _, Nat.le_refl _, Lib.hid (Kd.R_nil _ _ _ _ _), Lib.hid (by rw [List.drop_zero]; exact HG.out), Lib.hid (Below.refl _ _)⟩
 case round =>
  clear HG
  obtain ⟨q, acc, z, rfl, rfl, hq, hacc, HO, HR, HB⟩ := hrel
  have hlow : Below w1.heap.size w1 wr := HAl.out.trans (HB.out.mono (by have := HSz.out; omega))
  have HLow := Lib.hid hlow
  clear hlow
  by_cases hlt : q < l.length
  ·obtain ⟨ad, rfl, a0⟩ := (HE2.out.chg' (S := fun _ => False) (Chg.of_below HB.out) (fun _ _ => .inl (fun h => h))) q hlt
   have hds : l.drop q = l[q] :: l.drop (q + 1) := List.drop_eq_getElem_cons hlt
   have HR2 := HR.out
   rw [hds, List.foldl_cons] at HR2
   have p1 : ((q : Int) < (l.length : Int)) = True := eq_true (by omega)
   clear hds HR
   generalize l[q] = s at *
   by_cases hk : kindP st s = 0
   ·have HR3 : Hid ((l.drop (q + 1)).foldl (realS st hs) acc = G) := Lib.hid (by rw [← HR2]; unfold realS; rw [if_pos hk])
    have HK := Lib.hid hk
    clear HR2 hk
    go_wp2_with fail
    refine (tkind_any (HC.out.T.below HLow.out) s).mono ?_
    rw [HK.out]
    rintro e w3 ⟨rfl, hb3⟩
    have HB3 := Lib.hid (below_then HB.out HB.out.size hb3)
    have HO3 := Lib.hid (Kd.R_below HO.out hb3)
    clear hb3 a0
    go_wp2_with fail
    go_roundw
    case rel => exact ⟨q + 1, acc, _, rfl, by go_num, by omega, by omega, HO3, HR3, HB3⟩
    case measure => simp [intOf]; omega
   ·have ht := (kindP_ne HGood.out s).1 hk
    have hkk := good_kind HGood.out ht
    have hke : kindP st s = (rdS st s).f0 := if_pos ht
    have d0 : (kindP st s == 0) = false := beq_eq_false_iff_ne.mpr hk
    have HTs := Lib.hid ht
    have HKe := Lib.hid hke
    have HR3 : Hid ((l.drop (q + 1)).foldl (realS st hs) (realX st acc (realL st hs s)) = G) := Lib.hid (by rw [← HR2]; simp only [realS]; rw [if_neg hk])
    clear HR2 hk ht hke hkk
    go_wp2_with fail
    refine (tkind_any (HC.out.T.below HLow.out) s).mono ?_
    rintro e w3 ⟨rfl, hb3⟩
    have HB3 := Lib.hid (below_then HB.out HB.out.size hb3)
    have HO3 := Lib.hid (Kd.R_below HO.out hb3)
    have HLow3 := Lib.hid (HLow.out.trans (hb3.mono HLow.out.size))
    clear hb3 a0
    have hal : Below w3.heap.size w3 (w3.alloc (.cells #[.int .i64 s] 3)) := (Below.refl _ w3).alloc (Nat.le_refl _) _
    have HB4 := Lib.hid (below_then HB3.out HB3.out.size hal)
    have HO4 := Lib.hid (Kd.R_below HO3.out hal)
    have HLow4 := Lib.hid (HLow3.out.trans (hal.mono HLow3.out.size))
    have HN4 := Lib.hid (Rd.of (one_new (blk_new w3 (.cells #[.int .i64 s] 3))))
    have HUl : Hid (∀ b, z.ownBlock = some b → b < w3.heap.size) := Lib.hid (fun b hb => by
     obtain ⟨inner, ho⟩ := Kd.R_own HO3.out
     exact (own_lt ho b hb).2)
    go_wp2_with fail
    generalize w3.alloc (.cells #[.int .i64 s] 3) = w4 at HB4 HO4 HLow4 HN4 hal ⊢
    generalize hvs : Value.slice (some ⟨w3.heap.size, 0, none⟩) 1 1 = vs
    have HVs := Lib.hid hvs
    clear hvs
    refine (tkind_any (HC.out.T.below HLow4.out) s).mono ?_
    rintro e w5 ⟨rfl, hb5⟩
    have HB5 := Lib.hid (below_then HB4.out HB4.out.size hb5)
    have HO5 := Lib.hid (Kd.R_below HO4.out hb5)
    have HLow5 := Lib.hid (HLow4.out.trans (hb5.mono HLow4.out.size))
    have HN5 := Lib.hid (HN4.out.chg' (S := fun _ => False) (Chg.of_below hb5) (fun _ _ => .inl (fun h => h)))
    have HS5 := Lib.hid (Nat.le_trans hal.size hb5.size)
    clear hb5 hal
    go_wp2_with fail
    -- what s stands for
    have hcase : ((rdS st s).f0 = 5 ∨ (rdS st s).f0 = 6) ∨ ¬ ((rdS st s).f0 = 5 ∨ (rdS st s).f0 = 6) := Classical.em _
    rcases hcase with hh | hh
    case' inl =>
     refine (ehist_any (kindP st s) _ (decide_eq_true (by rw [HKe.out]; exact hh))).mono ?_
     rintro e w6 ⟨rfl, h6⟩
     rw [h6]
     have hx5 := ((HB5.out.block _ (lt_of_block HX.out)).trans HX.out)
     obtain ⟨x0, x1, x2⟩ : w5.cell? ⟨w1.heap.size, 0, none⟩ = some (.int .i64 v) ∧ w5.cell? ⟨w1.heap.size, 1, none⟩ = some (.slice (some ⟨gS, 0, none⟩) st.length ca) ∧ w5.cell? ⟨w1.heap.size, 2, none⟩ = some (.slice B tr.length cb) := ⟨blk_cell hx5 0, blk_cell hx5 1, blk_cell hx5 2⟩
     have hrl : realL st hs s = (shOf st hs).stands s := if_pos (by rw [HKe.out]; exact hh)
     have HR4 := HR3.out
     rw [hrl] at HR4
     have HR5 := Lib.hid HR4
     have hsl := std_len HGood.out hs HTs.out hh
     clear h6 hx5 hrl HR3 HR4 hh
     go_wp2_with fail
     refine (stands_any HC.out w5 HLow5.out s HTs.out).mono ?_
     rintro e w6 ⟨F, c6, rfl, hF6, hc6, hfar, hb6⟩
     have HB6 := Lib.hid (below_then HB5.out HB5.out.size hb6)
     have HO6 := Lib.hid (Kd.R_below HO5.out hb6)
     have HLow6 := Lib.hid (HLow5.out.trans (hb6.mono HLow5.out.size))
     have HN6 := Lib.hid (Rd.of hF6)
     have HSep : Hid (∀ b, z.ownBlock = some b → ∀ ad, F = some ad → ¬ ad.block = b ∨ ((shOf st hs).stands s).length = 0) := Lib.hid (fun b hb ad hd => by
      have h1 := HUl.out b hb
      obtain ⟨inner, ho⟩ := Kd.R_own HO3.out
      have h2 := (own_lt ho b hb).1
      have h3 := HSz.out
      have h4 := HS5.out
      rcases hfar ad hd with h | h | h
      ·exact .inl (by omega)
      ·exact .inl (by omega)
      ·exact .inr h)
     clear hF6 hc6 hfar hb6 x0 x1 x2
     go_wp2_with fail
     generalize (shOf st hs).stands s = real at *
    case' inr =>
     refine (ehist_any (kindP st s) _ (decide_eq_false (by rw [HKe.out]; exact hh))).mono ?_
     rintro e w6 ⟨rfl, h6⟩
     rw [h6]
     have hrl : realL st hs s = [s] := if_neg (by rw [HKe.out]; exact hh)
     have HR4 := HR3.out
     rw [hrl] at HR4
     have HR5 := Lib.hid HR4
     obtain ⟨F, c6, real, w6, e1, e2, e3, e6⟩ : ∃ (F : Option Addr) (c6 : Nat) (real : List Int) (w6 : World), F = some ⟨w3.heap.size, 0, none⟩ ∧ real = [s] ∧ vs = .slice F real.length c6 ∧ w6 = w5 := ⟨_, 1, [s], w5, rfl, rfl, HVs.out.symm, rfl⟩
     have hsl : real.length ≤ 32 := by rw [e2]; simp
     have HSep : Hid (∀ b, z.ownBlock = some b → ∀ ad, F = some ad → ¬ ad.block = b ∨ real.length = 0) := Lib.hid (fun b hb ad hd => by
      have h1 := HUl.out b hb
      rw [e1] at hd
      obtain rfl := Option.some.inj hd
      exact .inl (by show ¬ w3.heap.size = b; omega))
     have HB6 : Hid (Below w2.heap.size w2 w6) := Lib.hid (by rw [e6]; exact HB5.out)
     have HO6 : Hid (InnR w6 w2.heap.size z acc) := Lib.hid (by rw [e6]; exact HO5.out)
     have HLow6 : Hid (Below w1.heap.size w1 w6) := Lib.hid (by rw [e6]; exact HLow5.out)
     have HN6 : Hid (Rd w6 F real) := Lib.hid (by rw [e6, e1, e2]; exact HN5.out)
     have HR6 := HR5.out
     rw [← e2] at HR6
     rw [← e6]
     have HR5 := Lib.hid HR6
     clear HVs h6 hrl HR3 HR4 hh e6 e1 e2 HR6
     subst e3
     go_wp2_with fail
    all_goals
     clear HB5 HO5 HLow5 HN5 HUl HO3 HO4 HB3 HB4 HLow3 HLow4 HS5 HO HB HLow
     go_loopw [7, 40] (fun u i wr => ∃ (j : Nat) (acc2 : List Int) (z2 : Value), z2 = u ∧ i = .int .i64 j ∧ j ≤ real.length ∧ acc2.length ≤ acc.length + j ∧ Hid (InnR wr w2.heap.size z2 acc2) ∧ Hid ((l.drop (q + 1)).foldl (realS st hs) (realX st acc2 (real.drop j)) = G) ∧ Hid (Below w2.heap.size w2 wr) ∧ Hid (Rd wr F real) ∧ Hid (∀ b, z2.ownBlock = some b → ∀ ad, F = some ad → ¬ ad.block = b ∨ real.length = 0)) (fun _ i _ => real.length - (intOf i).toNat)
     case atStart => exact ⟨0, acc, _, rfl, rfl, Nat.zero_le _, Nat.le_refl _, HO6, Lib.hid (by rw [List.drop_zero]; exact HR5.out), HB6, HN6, HSep⟩
     case round =>
      clear HO6 HR5 HB6 HN6 HSep HLow6
      obtain ⟨j, acc2, z2, rfl, rfl, hj, hacc2, HO, HR, HB, HN, HSep⟩ := hrel
      have hlow : Below w1.heap.size w1 wr := HAl.out.trans (HB.out.mono (by have := HSz.out; omega))
      have HLow := Lib.hid hlow
      clear hlow
      by_cases hlt2 : j < real.length
      ·obtain ⟨ad2, rfl, a0⟩ := HN.out j hlt2
       have hds : real.drop j = real[j] :: real.drop (j + 1) := List.drop_eq_getElem_cons hlt2
       have HR2 := HR.out
       rw [hds] at HR2
       have p2 : ((j : Int) < (real.length : Int)) = True := eq_true (by omega)
       clear hds HR
       generalize real[j] = x at *
       by_cases hkx : kindP st x = 0
       ·have HR3 : Hid ((l.drop (q + 1)).foldl (realS st hs) (realX st acc2 (real.drop (j + 1))) = G) := Lib.hid (by rw [← HR2]; simp only [realX, List.foldl_cons]; rw [if_neg (fun h => h.1 hkx)])
        have HK := Lib.hid hkx
        clear HR2 hkx
        go_wp2_with fail
        refine (tkind_any (HC.out.T.below HLow.out) x).mono ?_
        rw [HK.out]
        rintro e w7 ⟨rfl, hb7⟩
        have HB7 := Lib.hid (below_then HB.out HB.out.size hb7)
        have HO7 := Lib.hid (Kd.R_below HO.out hb7)
        have HN7 := Lib.hid (HN.out.chg' (S := fun _ => False) (Chg.of_below hb7) (fun _ _ => .inl (fun h => h)))
        clear hb7 a0
        go_wp2_with fail
        go_roundw
        case rel => exact ⟨j + 1, acc2, _, rfl, by go_num, by omega, by omega, HO7, HR3, HB7, HN7, HSep⟩
        case measure => simp [intOf]; omega
       ·have dx : (kindP st x != 0) = true := bne_iff_ne.mpr hkx
        have HKx := Lib.hid hkx
        go_wp2_with fail
        refine (tkind_any (HC.out.T.below HLow.out) x).mono ?_
        clear hkx
        rintro e w7 ⟨rfl, hb7⟩
        have HB7 := Lib.hid (below_then HB.out HB.out.size hb7)
        have HO7 := Lib.hid (Kd.R_below HO.out hb7)
        have HN7 := Lib.hid (HN.out.chg' (S := fun _ => False) (Chg.of_below hb7) (fun _ _ => .inl (fun h => h)))
        clear hb7 a0
        obtain ⟨P, pc, hz⟩ := Kd.R_slice HO7.out
        subst hz
        obtain ⟨_, hpc, hP⟩ := Kd.R_reads' HO7.out
        have hal2 : acc2.length ≤ 1000000 := by omega
        go_wp2_with fail
        refine (thas_any P pc acc2 x hal2 hpc hP).mono ?_
        cases hhas : acc2.contains x with
        | true =>
         have HR3 : Hid ((l.drop (q + 1)).foldl (realS st hs) (realX st acc2 (real.drop (j + 1))) = G) := Lib.hid (by rw [← HR2]; simp only [realX, List.foldl_cons]; rw [if_neg (fun h => by rw [hhas] at h; cases h.2)])
         clear HR2 hhas hP
         rintro e w8 ⟨rfl, hb8⟩
         have HB8 := Lib.hid (below_then HB7.out HB7.out.size hb8)
         have HO8 := Lib.hid (Kd.R_below HO7.out hb8)
         have HN8 := Lib.hid (HN7.out.chg' (S := fun _ => False) (Chg.of_below hb8) (fun _ _ => .inl (fun h => h)))
         clear hb8
         go_wp2_with fail
         go_roundw
         case rel => exact ⟨j + 1, acc2, _, rfl, by go_num, by omega, by omega, HO8, HR3, HB8, HN8, HSep⟩
         case measure => simp [intOf]; omega
        | false =>
         have HR3 : Hid ((l.drop (q + 1)).foldl (realS st hs) (realX st (acc2 ++ [x]) (real.drop (j + 1))) = G) := Lib.hid (by rw [← HR2]; simp only [realX, List.foldl_cons]; rw [if_pos ⟨HKx.out, hhas⟩])
         clear HR2 hhas hP
         rintro e w8 ⟨rfl, hb8⟩
         have HB8 := Lib.hid (below_then HB7.out HB7.out.size hb8)
         have HO8 := Lib.hid (Kd.R_below HO7.out hb8)
         have HN8 := Lib.hid (HN7.out.chg' (S := fun _ => False) (Chg.of_below hb8) (fun _ _ => .inl (fun h => h)))
         clear hb8
         have hsz8 := HB8.out.size
         have hal3 : acc2.length < 1000000 := by omega
         go_wp2_with (at_builtin; refine inn_append4 rfl (.tmp 54) (.tmp 56) rfl w2.heap.size _ acc2 x rfl _ rfl rfl HO8.out hsz8 hal3 ?_)
         intro v1 w9 h1 h2 h3 h4
         have HB9 := Lib.hid (HB8.out.trans h2)
         have HO9 := Lib.hid h1
         have HN9 := Lib.hid (HN8.out.chg' (S := fun k => (Value.slice P acc2.length pc).ownBlock = some k) (Chg.of_grown h3 (fun k hk _ => hk)) (fun ad hd => by
          by_cases hb : (Value.slice P acc2.length pc).ownBlock = some ad.block
          ·rcases HSep.out _ hb ad hd with h | h
           ·exact absurd rfl h
           ·exact .inr h
          ·exact .inl hb))
         have HSep9 : Hid (∀ b, v1.ownBlock = some b → ∀ ad, some ad2 = some ad → ¬ ad.block = b ∨ real.length = 0) := Lib.hid (fun b hb ad hd => by
          rcases h4 with h4 | ⟨b', h4, h5⟩
          ·rw [h4] at hb; exact HSep.out b hb ad hd
          ·obtain ⟨ad3, he, hc⟩ := HN8.out j hlt2
           have hlt := cell_lt hc
           rw [add_block] at hlt
           rw [hd] at he
           obtain rfl := Option.some.inj he
           rw [h4] at hb
           obtain rfl := Option.some.inj hb
           exact .inl (by omega))
         clear h1 h2 h3 h4
         go_wp2_with fail
         go_roundw
         case rel => exact ⟨j + 1, acc2 ++ [x], _, rfl, by go_num, by omega, by rw [List.length_append, List.length_singleton]; omega, HO9, HR3, HB9, HN9, HSep9⟩
         case measure => simp [intOf]; omega
      ·obtain rfl : j = real.length := by omega
       have HR3 : Hid ((l.drop (q + 1)).foldl (realS st hs) acc2 = G) := Lib.hid (by rw [← HR.out, List.drop_length]; rfl)
       go_wp2_with fail
       go_roundw
       case rel => exact ⟨q + 1, acc2, _, rfl, by go_num, by omega, by omega, HO, HR3, HB⟩
       case measure => simp [intOf]; omega
  ·obtain rfl : q = l.length := by omega
   have HR3 : Hid (acc = G) := Lib.hid (by rw [← HR.out, List.drop_length]; rfl)
   go_wp2_with fail
   go_ret
   have h1 := HB0.out.size
   exact ⟨_, rfl, by rw [← HR3.out]; exact Kd.R_lower HO.out h1, HB0.out.trans (HB.out.mono h1)⟩
end
end Go.Proofs.YtikilglbhnplaaaGreatDoor
end
