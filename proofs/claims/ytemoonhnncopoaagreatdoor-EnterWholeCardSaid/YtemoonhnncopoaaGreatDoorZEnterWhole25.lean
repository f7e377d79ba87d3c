/- Texts of this claim, merged (Eadd, Estd, Edwn, Erl, Rreal, Eset, Elaw, ChKidsLaw). -/
import Derived.Deep.RegionWith
import Derived.Test.YtemoonhnncopoaaGreatDoorZEnterWhole24
import Derived.Test.YtemoonhnncopoaaGreatDoorZEnterWhole20
import Derived.Test.YtemoonhnncopoaaGreatDoorZEnterWhole18
set_option linter.unusedVariables false
set_option linter.unusedSimpArgs false
set_option maxRecDepth 100000
set_option maxHeartbeats 32000000
section
namespace Go.Proofs.YtemoonhnncopoaaGreatDoor
open Go.RowKit Go.Proofs.YtemoonhnncopoaaGreatDoorW.PrintWords Go.Proofs.YtemoonhnncopoaaGreatDoorW.PrintLast
open PX (T V)
namespace Ent
theorem regE_left {sh : Shp} {d : ES → Int → ES} (hd : ∀ S s, (d S s).2 ≤ S.2) (S : ES) (s : Int) : (regE sh d S s).2 ≤ S.2 := by
 have key : ∀ (l : List Int) (S : ES), (l.foldl (fun S k => if S.1 &&& sh.bel k = 0 then d S k else S) S).2 ≤ S.2 := by
  intro l
  induction l with
  | nil => exact fun _ => Nat.le_refl _
  | cons a l ih =>
   intro S
   refine Nat.le_trans (ih _) ?_
   dsimp only
   split
   ·exact hd _ _
   ·exact Nat.le_refl _
 exact key _ _
theorem abvL_left {sh : Shp} {d : ES → Int → ES} (hd : ∀ S s, (d S s).2 ≤ S.2) (tz : Int) (l : List Int) : ∀ S : ES, (abvL sh d tz l S).2 ≤ S.2 := by
 induction l with
 | nil => exact fun _ => Nat.le_refl _
 | cons a l ih =>
  intro S
  simp only [abvL]
  split
  ·exact Nat.le_refl _
  ·refine Nat.le_trans (ih _) ?_
   split
   ·exact regE_left hd _ _
   ·exact Nat.le_refl _
theorem fold_left {d : ES → Int → ES} (hd : ∀ S s, (d S s).2 ≤ S.2) (l : List Int) : ∀ S : ES, (l.foldl d S).2 ≤ S.2 := by
 induction l with
 | nil => exact fun _ => Nat.le_refl _
 | cons a l ih => exact fun S => Nat.le_trans (ih _) (hd _ _)
theorem dwnE_left (sh : Shp) (f : Nat) : ∀ (S : ES) (s : Int), (dwnE sh f S s).2 ≤ S.2 := by
 induction f with
 | zero => exact fun _ _ => Nat.le_refl _
 | succ f ih =>
  intro S s
  simp only [dwnE]
  split
  ·exact Nat.le_refl _
  ·split
   ·exact Nat.le_trans (fold_left (fun S y => abvL_left ih _ _ S) _ _) (Nat.le_trans (fold_left ih _ _) (show S.2 - 1 ≤ S.2 from Nat.sub_le _ _))
   ·split
    ·exact Nat.le_trans (abvL_left ih _ _ _) (Nat.le_trans (ih _ _) (show S.2 - 1 ≤ S.2 from Nat.sub_le _ _))
    ·split
     ·exact Nat.le_trans (regE_left ih _ _) (Nat.sub_le _ _)
     ·exact Nat.sub_le _ _
end Ent
theorem add_block (a : Addr) (q : Nat) : (a.add q).block = a.block := by
 unfold Addr.add; split <;> rfl
theorem cell_lt {w : World} {p : Addr} {u : Value} (h : w.cell? p = some u) : p.block < w.heap.size := by
 refine Nat.lt_of_not_le (fun hn => ?_)
 have : w.heap[p.block]? = none := Array.getElem?_eq_none hn
 simp [World.cell?, this] at h
def Rd (w : World) (A : Option Addr) (l : List Int) : Prop := ∀ (q : Nat) (h : q < l.length), ∃ ad, A = some ad ∧ w.cell? (ad.add q) = some (.int .i64 l[q])
theorem Rd.chg {S : Nat → Prop} {w w' : World} {A : Option Addr} {l : List Int} (h : Rd w A l) (hc : Chg S w w') (hf : ∀ ad, A = some ad → ¬ S ad.block) : Rd w' A l := by
 intro q hq
 obtain ⟨ad, rfl, h1⟩ := h q hq
 exact ⟨ad, rfl, (hc.cell (cell_lt h1) (by rw [add_block]; exact hf ad rfl)).trans h1⟩
theorem Rd.chg' {S : Nat → Prop} {w w' : World} {A : Option Addr} {l : List Int} (h : Rd w A l) (hc : Chg S w w') (hf : ∀ ad, A = some ad → ¬ S ad.block ∨ l.length = 0) : Rd w' A l := by
 intro q hq
 obtain ⟨ad, rfl, h1⟩ := h q hq
 refine ⟨ad, rfl, (hc.cell (cell_lt h1) ?_).trans h1⟩
 rw [add_block]
 rcases hf ad rfl with h | h
 ·exact h
 ·omega
theorem Rd.of {w : World} {A : Option Addr} {l : List Int} (h : NumsC w A l.length l) : Rd w A l := fun q hq => nums_at h q hq
theorem inn_new {w : World} {B : Nat} {E : Option Addr} {n c : Nat} {l : List Int} (h : InnR w B (.slice E n c) l) (ad : Addr) (he : E = some ad) : B ≤ ad.block := by
 subst he
 obtain ⟨inner, ho⟩ := Kd.R_own h
 exact (own_lt ho ad.block rfl).1
structure AdC (wB : World) (g : Nat) (v : Int) (A B : Option Addr) (ca cb : Nat) (st : List Sta) (tr : List Tra) (H : Option Addr) (hc : Nat) (hs : List Int) : Prop where
 T : TrM wB g v st tr
 M : ChM wB A ca st B cb tr
 H : (Kd.int .u32).C wB H hs.length hs
 hc : hs.length ≤ hc
 hl : hs.length ≤ 100000
 hb : ∀ x ∈ hs, 0 ≤ x ∧ x < 4294967296
 laid : LaidZ wB
 good : chkP v st tr = .none
abbrev adO (g : Nat) (v : Int) (A B : Option Addr) (n m ca cb : Nat) (H : Option Addr) (k hc : Nat) (S : Ent.ES) : Obj :=
 .cells #[.pointer (some ⟨g, 0, none⟩), .int .i64 v, .slice A n ca, .slice B m cb, .slice H k hc, .int .u32 (S.1 : Int), .int .i64 (S.2 : Int)] 115 (0, 0)
structure AdM (wB : World) (g : Nat) (v : Int) (A B : Option Addr) (n m ca cb : Nat) (H : Option Addr) (k hc : Nat) (w : World) (S : Ent.ES) : Prop where
 low : Below wB.heap.size wB w
 blk : w.heap[wB.heap.size]? = some (adO g v A B n m ca cb H k hc S)
 set : S.1 < 4294967296
 left : S.2 ≤ 4000
abbrev AdP (wB : World) : Value := .pointer (some ⟨wB.heap.size, 0, none⟩)
theorem AdM.step {wB : World} {g : Nat} {v : Int} {A B : Option Addr} {n m ca cb : Nat} {H : Option Addr} {k hc : Nat} {w w' : World} {S : Ent.ES} (h : AdM wB g v A B n m ca cb H k hc w S) (hb : Below w.heap.size w w') : AdM wB g v A B n m ca cb H k hc w' S :=
 ⟨below_then h.low h.low.size hb, (hb.block _ (lt_of_block h.blk)).trans h.blk, h.set, h.left⟩
theorem AdM.cells {wB : World} {g : Nat} {v : Int} {A B : Option Addr} {n m ca cb : Nat} {H : Option Addr} {k hc : Nat} {w : World} {S : Ent.ES} (h : AdM wB g v A B n m ca cb H k hc w S) :
  w.cell? ⟨wB.heap.size, 0, none⟩ = some (.pointer (some ⟨g, 0, none⟩)) ∧ w.cell? ⟨wB.heap.size, 1, none⟩ = some (.int .i64 v) ∧ w.cell? ⟨wB.heap.size, 2, none⟩ = some (.slice A n ca) ∧ w.cell? ⟨wB.heap.size, 3, none⟩ = some (.slice B m cb) ∧
   w.cell? ⟨wB.heap.size, 4, none⟩ = some (.slice H k hc) ∧ w.cell? ⟨wB.heap.size, 5, none⟩ = some (.int .u32 (S.1 : Int)) ∧ w.cell? ⟨wB.heap.size, 6, none⟩ = some (.int .i64 (S.2 : Int)) ∧ w.frozen? ⟨wB.heap.size, 5, none⟩ = false ∧ w.frozen? ⟨wB.heap.size, 6, none⟩ = false :=
 ⟨blk_cell h.blk 0, blk_cell h.blk 1, blk_cell h.blk 2, blk_cell h.blk 3, blk_cell h.blk 4, blk_cell h.blk 5, blk_cell h.blk 6, blk_free h.blk 5, blk_free h.blk 6⟩
def DW (wB : World) (g : Nat) (v : Int) (A B : Option Addr) (ca cb : Nat) (st : List Sta) (tr : List Tra) (H : Option Addr) (hc : Nat) (hs : List Int) (f : Nat) : Prop :=
 ∀ (w : World) (S : Ent.ES) (s : Int), AdM wB g v A B st.length tr.length ca cb H hs.length hc w S → S.2 ≤ f → 0 ≤ s →
  Calls Tryz.prog 71 #[AdP wB, .int .i64 s] w fun e w' => e = .returned (.tuple #[]) ∧ AdM wB g v A B st.length tr.length ca cb H hs.length hc w' (Ent.dwnE (shOf st hs) f S s) ∧ Chg (fun b => b = wB.heap.size) w w'
theorem tbel_new {w0 w : World} {g : Nat} {v : Int} {st : List Sta} {tr : List Tra} (h : TrM w0 g v st tr) (hb : Below w0.heap.size w0 w) (ha : Ahead st) (hl : st.length ≤ 24) (s : Int) :
  Calls Tryz.prog 34 #[.pointer (some ⟨g, 0, none⟩), .int .i64 s] w fun e w' => e = .returned (.int .u32 (belP st s : Nat)) ∧ Below w.heap.size w w' := tbel_any (h.below hb) ha hl s
theorem ehist_any (k : Int) (w : World) {b : Bool} (hb : decide (k = 5 ∨ k = 6) = b) : Calls Tryz.prog 67 #[.int .i64 k] w fun e w' => e = .returned (.bool b) ∧ w' = w := by
 subst hb
 by_cases h5 : k = 5
 ·subst h5
  go_enter Tryz.func67, Tryz.ntmps67
  go_wp2_with fail
  go_ret
  exact ⟨rfl, rfl⟩
 ·by_cases h6 : k = 6
  ·subst h6
   go_enter Tryz.func67, Tryz.ntmps67
   go_wp2_with fail
   go_ret
   exact ⟨rfl, rfl⟩
  ·have d5 : (k == 5) = false := beq_eq_false_iff_ne.mpr h5
   have d6 : (k == 6) = false := beq_eq_false_iff_ne.mpr h6
   rw [decide_eq_false (by omega)]
   clear h5 h6
   go_enter Tryz.func67, Tryz.ntmps67
   go_wp2_with fail
   go_ret
   exact ⟨rfl, rfl⟩
theorem up_th {st : List Sta} (ha : Ahead st) (f : Nat) : ∀ (s : Int), ∀ x ∈ upF st f s, thS st x := by
 induction f with
 | zero => intro s x hx; simp [upF] at hx
 | succ f ih =>
  intro s x hx
  simp only [upF] at hx
  split at hx
  ·rename_i c
   rcases List.mem_cons.1 hx with rfl | hx
   ·have := (ahead_at ha c.1).1
    have := c.1.2
    exact ⟨c.2, by omega⟩
   ·exact ih _ x hx
  ·simp at hx
theorem or_at {x q : Nat} (hx : x < 4294967296) (hq : q < 32) : bits .or .u32 (x : Int) (IntKind.u32.wrap (2 ^ min q 32)) = ((x ||| 2 ^ q : Nat) : Int) ∧ x ||| 2 ^ q < 4294967296 := by
 have h2 : 2 ^ q < 4294967296 := Nat.lt_of_lt_of_le (Nat.pow_lt_pow_right (by omega) hq) (by decide)
 have h3 : IntKind.u32.wrap ((2 : Int) ^ min q 32) = ((2 ^ q : Nat) : Int) := by
  rw [Nat.min_eq_left (by omega)]
  have : ((2 : Int) ^ q) = ((2 ^ q : Nat) : Int) := by simp
  rw [this]
  exact Int.emod_eq_of_lt (Int.natCast_nonneg _) (Int.ofNat_lt.mpr h2)
 rw [h3, u32_or_nat x (2 ^ q) hx h2]
 exact ⟨rfl, Nat.or_lt_two_pow (n := 32) hx h2⟩
theorem AdM.put {wB : World} {g : Nat} {v : Int} {A B : Option Addr} {n m ca cb : Nat} {H : Option Addr} {k hc : Nat} {w : World} {S : Ent.ES} (h : AdM wB g v A B n m ca cb H k hc w S) {x : Nat} (hx : x < 4294967296) : AdM wB g v A B n m ca cb H k hc (w.setCell ⟨wB.heap.size, 5, none⟩ (.int .u32 (x : Int))) (x, S.2) :=
 ⟨Chg.below (S := fun b => b = wB.heap.size) ((Chg.of_below (S := fun b => b = wB.heap.size) h.low).setCell (fun _ => rfl) _) (Nat.le_refl _) (fun k hk hh => by have : k = wB.heap.size := hh; omega), blk_set h.blk 5 _, hx, h.left⟩
theorem AdM.putl {wB : World} {g : Nat} {v : Int} {A B : Option Addr} {n m ca cb : Nat} {H : Option Addr} {k hc : Nat} {w : World} {S : Ent.ES} (h : AdM wB g v A B n m ca cb H k hc w S) {x : Nat} (hx : x ≤ 4000) : AdM wB g v A B n m ca cb H k hc (w.setCell ⟨wB.heap.size, 6, none⟩ (.int .i64 (x : Int))) (S.1, x) :=
 ⟨Chg.below (S := fun b => b = wB.heap.size) ((Chg.of_below (S := fun b => b = wB.heap.size) h.low).setCell (fun _ => rfl) _) (Nat.le_refl _) (fun k hk hh => by have : k = wB.heap.size := hh; omega), blk_set h.blk 6 _, h.set, hx⟩
theorem AdM.drew {wB : World} {g : Nat} {v : Int} {A B : Option Addr} {n m ca cb : Nat} {H : Option Addr} {k hc : Nat} {w : World} {S : Ent.ES} (h : AdM wB g v A B n m ca cb H k hc w S) : AdM wB g v A B n m ca cb H k hc w.drew S := h.step (below_drew (Below.refl _ w))
section
variable {wB : World} {g : Nat} {v : Int} {A B : Option Addr} {ca cb : Nat} {st : List Sta} {tr : List Tra} {H : Option Addr} {hc : Nat} {hs : List Int} {f : Nat}
theorem regs_any (hC : AdC wB g v A B ca cb st tr H hc hs) (hD : DW wB g v A B ca cb st tr H hc hs f) (w : World) (S : Ent.ES) (h : AdM wB g v A B st.length tr.length ca cb H hs.length hc w S) (hf : S.2 ≤ f) (s : Int) :
  Calls Tryz.prog 98 #[AdP wB, .int .i64 s] w fun e w' => e = .returned (.tuple #[]) ∧ AdM wB g v A B st.length tr.length ca cb H hs.length hc w' (Ent.regE (shOf st hs) (Ent.dwnE (shOf st hs) f) S s) ∧ Chg (fun b => b = wB.heap.size) w w' := by
 have HC := Lib.hid hC
 have HD := Lib.hid hD
 have HM := Lib.hid h
 have HA := Lib.hid (good_ahead hC.good)
 have hl : st.length ≤ 24 := (chk_none hC.good).1.2.2.2.1
 have HF := Lib.hid hf
 obtain ⟨y0, _⟩ := h.cells
 generalize hG : Ent.regE (shOf st hs) (Ent.dwnE (shOf st hs) f) S s = G
 have HG : Hid ((listP (kidB st s)).foldl (fun S k => if S.1 &&& belP st k = 0 then Ent.dwnE (shOf st hs) f S k else S) S = G) := Lib.hid hG
 clear hC hD h hf hG
 go_enter Tryz.func98, Tryz.ntmps98
 go_wp2_with fail
 refine (tkids_any (HC.out.T.below HM.out.low) hl s).mono ?_
 rintro e w1 ⟨rfl, hb1⟩
 have HM1 := Lib.hid (HM.out.step hb1)
 have HB1 := Lib.hid hb1
 clear hb1 y0
 go_wp2_with fail
 refine (list_any (kidB st s) (kidB_lt hl s) w1 (HC.out.laid.below HM1.out.low)).mono ?_
 rintro e w2 ⟨u, rfl, hu, hb2⟩
 obtain ⟨E, cap, rfl⟩ := Kd.R_slice hu
 obtain ⟨_, hcap, hE⟩ := Kd.R_reads' hu
 have HR := Lib.hid (Rd.of hE)
 have HFar : Hid (∀ ad, E = some ad → ¬ ad.block = wB.heap.size) := Lib.hid (fun ad he hh => by
  have h1 := inn_new hu ad he
  have h2 := lt_of_block HM1.out.blk
  omega)
 have HM2 := Lib.hid (HM1.out.step hb2)
 have HB2 := Lib.hid (Chg.of_below (S := fun b => b = wB.heap.size) (HB1.out.trans (hb2.mono HB1.out.size)))
 have HK : Hid (∀ x, x ∈ listP (kidB st s) → 0 ≤ x) := Lib.hid (fun x hx => (listP_mem hx).1)
 have hL := listP_len (kidB st s)
 generalize listP (kidB st s) = l at *
 clear hu hE hb2 hcap HM HM1 HB1
 go_wp2_with fail
 go_loopw [14] (fun i wr => ∃ (q : Nat) (T : Ent.ES), i = .int .i64 q ∧ q ≤ l.length ∧ Hid (AdM wB g v A B st.length tr.length ca cb H hs.length hc wr T) ∧ Hid (T.2 ≤ f) ∧ Hid ((l.drop q).foldl (fun S k => if S.1 &&& belP st k = 0 then Ent.dwnE (shOf st hs) f S k else S) T = G) ∧ Hid (Chg (fun b => b = wB.heap.size) w wr) ∧ Hid (Rd wr E l)) (fun i _ => l.length - (intOf i).toNat)
 case atStart => exact ⟨0, S, rfl, Nat.zero_le _, HM2, HF, Lib.hid (by rw [List.drop_zero]; exact HG.out), HB2, HR⟩
 case round =>
  clear HM2 HF HB2 HR HG
  obtain ⟨q, T, rfl, hq, HM, HF, HE, HB, HR⟩ := hrel
  by_cases hlt : q < l.length
  ·obtain ⟨ad, rfl, a0⟩ := HR.out q hlt
   have hds : l.drop q = l[q] :: l.drop (q + 1) := List.drop_eq_getElem_cons hlt
   have HE2 := HE.out
   rw [hds, List.foldl_cons] at HE2
   have HK0 := Lib.hid (HK.out l[q] (List.getElem_mem hlt))
   have p1 : ((q : Int) < (l.length : Int)) = True := eq_true (by omega)
   clear hds HE
   generalize l[q] = k at *
   have HE := Lib.hid HE2
   clear HE2
   obtain ⟨y0, y1, y2, y3, y4, y5, y6, f5, f6⟩ := HM.out.cells
   have y5' := y5
   generalize hT1 : (T.1 : Int) = t1 at y5
   go_wp2_with fail
   refine start_ (n := 12) (S := fun w' => w'.cell? ⟨wB.heap.size, 0, none⟩ = some (.pointer (some ⟨g, 0, none⟩)) ∧ w'.cell? ⟨wB.heap.size, 5, none⟩ = some (.int .u32 t1)) (ds := []) #[false, false, false, false, false, false, false, false, false, false, false, false] (by kernel_rfl) rfl rfl ⟨y0, y5⟩ (fun hHeld => ?_)
   refine pure_ (i := 0) (N := some 18) (v := ?_) (a' := ?_) #[true, false, false, false, false, false, false, false, false, false, false, false] rfl rfl (by kernel_rfl) (fun _ _ _ h => h) (Or.inl ⟨by rfl, ?_⟩) ?_ ?_
   rotate_left
   ·intro w'
    go_simp
    with_reducible rfl
   rotate_left
   ·simp only [Act.put, List.setIfInBounds_toArray, List.set_cons_zero, List.set_cons_succ, i64_w, i32_w]
    rfl
   refine pure_ (i := 1) (N := some 19) (v := ?_) (a' := ?_) #[true, true, false, false, false, false, false, false, false, false, false, false] rfl rfl (by kernel_rfl) (fun _ _ _ h => h) (Or.inl ⟨by rfl, ?_⟩) ?_ ?_
   rotate_left
   ·intro w'
    go_simp
    with_reducible rfl
   rotate_left
   ·simp only [Act.put, List.setIfInBounds_toArray, List.set_cons_zero, List.set_cons_succ, i64_w, i32_w]
    rfl
   refine pure_ (i := 2) (N := some 20) (v := ?_) (a' := ?_) #[true, true, true, false, false, false, false, false, false, false, false, false] rfl rfl (by kernel_rfl) (fun _ _ _ h => h) (Or.inl ⟨by rfl, ?_⟩) ?_ ?_
   rotate_left
   ·intro w'
    go_simp
    with_reducible rfl
   rotate_left
   ·simp only [Act.put, List.setIfInBounds_toArray, List.set_cons_zero, List.set_cons_succ, i64_w, i32_w]
    rfl
   refine take_ (i := 3) (N := some 21) (v := ?_) (a' := ?_) #[true, true, true, true, false, false, false, false, false, false, false, false] rfl rfl (by kernel_rfl) (fun _ _ _ h => h) (Or.inl ⟨by rfl, ?_⟩) hHeld ?_ ?_
   rotate_left
   ·rintro w' ⟨s0, s1⟩
    go_simp
    with_reducible rfl
   rotate_left
   ·simp only [Act.put, List.setIfInBounds_toArray, List.set_cons_zero, List.set_cons_succ, i64_w, i32_w]
    rfl
   refine pure_ (i := 4) (N := some 22) (v := ?_) (a' := ?_) #[true, true, true, true, true, false, false, false, false, false, false, false] rfl rfl (by kernel_rfl) (fun _ _ _ h => h) (Or.inl ⟨by rfl, ?_⟩) ?_ ?_
   rotate_left
   ·intro w'
    go_simp
    with_reducible rfl
   rotate_left
   ·simp only [Act.put, List.setIfInBounds_toArray, List.set_cons_zero, List.set_cons_succ, i64_w, i32_w]
    rfl
   refine pure_ (i := 5) (N := some 23) (v := ?_) (a' := ?_) #[true, true, true, true, true, true, false, false, false, false, false, false] rfl rfl (by kernel_rfl) (fun _ _ _ h => h) (Or.inl ⟨by rfl, ?_⟩) ?_ ?_
   rotate_left
   ·intro w'
    go_simp
    with_reducible rfl
   rotate_left
   ·simp only [Act.put, List.setIfInBounds_toArray, List.set_cons_zero, List.set_cons_succ, i64_w, i32_w]
    rfl
   refine pure_ (i := 6) (N := some 24) (v := ?_) (a' := ?_) #[true, true, true, true, true, true, true, false, false, false, false, false] rfl rfl (by kernel_rfl) (fun _ _ _ h => h) (Or.inl ⟨by rfl, ?_⟩) ?_ ?_
   rotate_left
   ·intro w'
    go_simp
    with_reducible rfl
   rotate_left
   ·simp only [Act.put, List.setIfInBounds_toArray, List.set_cons_zero, List.set_cons_succ, i64_w, i32_w]
    rfl
   refine take_ (i := 7) (N := some 25) (v := ?_) (a' := ?_) #[true, true, true, true, true, true, true, true, false, false, false, false] rfl rfl (by kernel_rfl) (fun _ _ _ h => h) (Or.inl ⟨by rfl, ?_⟩) hHeld ?_ ?_
   rotate_left
   ·rintro w' ⟨s0, s1⟩
    go_simp
    with_reducible rfl
   rotate_left
   ·simp only [Act.put, List.setIfInBounds_toArray, List.set_cons_zero, List.set_cons_succ, i64_w, i32_w]
    rfl
   refine pure_ (i := 8) (N := some 26) (v := ?_) (a' := ?_) #[true, true, true, true, true, true, true, true, true, false, false, false] rfl rfl (by kernel_rfl) (fun _ _ _ h => h) (Or.inl ⟨by rfl, ?_⟩) ?_ ?_
   rotate_left
   ·intro w'
    go_simp
    with_reducible rfl
   rotate_left
   ·simp only [Act.put, List.setIfInBounds_toArray, List.set_cons_zero, List.set_cons_succ, i64_w, i32_w]
    rfl
   refine one_ (i := 9) (N := some 27) #[true, true, true, true, true, true, true, true, true, true, false, false] rfl rfl (by kernel_rfl) (by decide) (fun K hK => ?_)
   refine goes_ Tryz.func34 (by kernel_rfl) rfl #[.pointer (some ⟨g, 0, none⟩), .int .i64 k] (by rfl) rfl rfl (by first | rfl | (go_simp; done) | (go_simp; exact ⟨rfl, rfl⟩) | (go_simp; rfl)) ?_
   refine (tbel_new HC.out.T (below_drewN' HM.out.low 1) HA.out hl k).mono ?_
   rintro e1 w3 ⟨rfl, hb3⟩
   have hb3' : Below wr.heap.size wr w3 := below_then (below_drewN' (Below.refl _ wr) 1) (Nat.le_refl _) hb3
   have HM3 := Lib.hid (HM.out.step hb3')
   have HR3 := Lib.hid (HR.out.chg (Chg.of_below (S := fun b => b = wB.heap.size) hb3') HFar.out)
   have HB3 := Lib.hid (HB.out.trans (Chg.of_below hb3'))
   refine ⟨_, rfl, hK.out _ _ ⟨by have := HM3.out.cells; exact this.1, by have := HM3.out.cells.2.2.2.2.2.1; rw [hT1] at this; exact this⟩ (fun hS3 => ?_)⟩
   clear hK K hHeld hb3 hb3' y0 y1 y2 y3 y4 y5 y5' y6 f5 f6 a0
   refine pure_ (i := 10) (N := some 28) (v := ?_) (a' := ?_) #[true, true, true, true, true, true, true, true, true, true, true, false] rfl rfl (by kernel_rfl) (fun _ _ _ h => h) (Or.inl ⟨by rfl, ?_⟩) ?_ ?_
   rotate_left
   ·intro w'
    go_simp
    with_reducible rfl
   rotate_left
   ·simp only [Act.put, List.setIfInBounds_toArray, List.set_cons_zero, List.set_cons_succ, i64_w, i32_w]
    rfl
   refine pure_ (i := 11) (N := some 29) (v := ?_) (a' := ?_) #[true, true, true, true, true, true, true, true, true, true, true, true] rfl rfl (by kernel_rfl) (fun _ _ _ h => h) (Or.inl ⟨by rfl, ?_⟩) ?_ ?_
   rotate_left
   ·intro w'
    go_simp
    with_reducible rfl
   rotate_left
   ·simp only [Act.put, List.setIfInBounds_toArray, List.set_cons_zero, List.set_cons_succ, i64_w, i32_w]
    rfl
   refine done_ (by kernel_rfl) ?_
   subst hT1
   have e1 : bits BinOp.and IntKind.u32 (T.1 : Int) (belP st k : Nat) = ((T.1 &&& belP st k : Nat) : Int) := u32_and_nat _ _ HM3.out.set (bel_lt hl k)
   by_cases hz : T.1 &&& belP st k = 0
   ·have d1 : (bits BinOp.and IntKind.u32 (T.1 : Int) (belP st k : Nat) == 0) = true := by rw [e1, hz]; rfl
    have HE3 : Hid ((l.drop (q + 1)).foldl (fun S k => if S.1 &&& belP st k = 0 then Ent.dwnE (shOf st hs) f S k else S) (Ent.dwnE (shOf st hs) f T k) = G) := Lib.hid (by have := HE.out; rw [if_pos hz] at this; exact this)
    clear e1 hz HE
    go_wp2_with fail
    refine (HD.out w3 T k HM3.out HF.out HK0.out).mono ?_
    rintro e w4 ⟨rfl, hm4, hc4⟩
    have HM4 := Lib.hid hm4
    have HF4 := Lib.hid (Nat.le_trans (Ent.dwnE_left (shOf st hs) f T k) HF.out)
    have HR4 := Lib.hid (HR3.out.chg hc4 HFar.out)
    have HB4 := Lib.hid (HB3.out.trans hc4)
    clear hm4 hc4
    go_wp2_with fail
    go_roundw
    case rel => exact ⟨q + 1, _, by go_num, by omega, HM4, HF4, HE3, HB4, HR4⟩
    case measure => simp [intOf]; omega
   ·have d1 : (bits BinOp.and IntKind.u32 (T.1 : Int) (belP st k : Nat) == 0) = false := by rw [e1, beq_eq_false_iff_ne]; omega
    have HE3 : Hid ((l.drop (q + 1)).foldl (fun S k => if S.1 &&& belP st k = 0 then Ent.dwnE (shOf st hs) f S k else S) T = G) := Lib.hid (by have := HE.out; rw [if_neg hz] at this; exact this)
    clear e1 hz HE
    go_wp2_with fail
    go_roundw
    case rel => exact ⟨q + 1, _, by go_num, by omega, HM3, HF, HE3, HB3, HR3⟩
    case measure => simp [intOf]; omega
  ·obtain rfl : q = l.length := by omega
   have HE3 : Hid (G = T) := Lib.hid (by rw [← HE.out, List.drop_length]; rfl)
   clear HE
   go_wp2_with fail
   go_end0
   exact ⟨rfl, by rw [HE3.out]; exact HM.out, HB.out⟩
theorem abv_any (hC : AdC wB g v A B ca cb st tr H hc hs) (hD : DW wB g v A B ca cb st tr H hc hs f) (w : World) (S : Ent.ES) (h : AdM wB g v A B st.length tr.length ca cb H hs.length hc w S) (hf : S.2 ≤ f) (s tz : Int) :
  Calls Tryz.prog 72 #[AdP wB, .int .i64 s, .int .i64 tz] w fun e w' => e = .returned (.tuple #[]) ∧ AdM wB g v A B st.length tr.length ca cb H hs.length hc w' (Ent.abvE (shOf st hs) (Ent.dwnE (shOf st hs) f) S s tz) ∧ Chg (fun b => b = wB.heap.size) w w' := by
 have HC := Lib.hid hC
 have HD := Lib.hid hD
 have HM := Lib.hid h
 have HA := Lib.hid (good_ahead hC.good)
 have hl : st.length ≤ 24 := (chk_none hC.good).1.2.2.2.1
 have HF := Lib.hid hf
 obtain ⟨y0, _⟩ := h.cells
 generalize hG : Ent.abvE (shOf st hs) (Ent.dwnE (shOf st hs) f) S s tz = G
 have HG : Hid (Ent.abvL (shOf st hs) (Ent.dwnE (shOf st hs) f) tz (upP st s) S = G) := Lib.hid hG
 clear hC hD h hf hG
 go_enter Tryz.func72, Tryz.ntmps72
 go_wp2_with fail
 refine (tup_any (HC.out.T.below HM.out.low) HA.out (by omega) s).mono ?_
 rintro e w2 ⟨u, rfl, hu, hb2⟩
 obtain ⟨E, cap, rfl⟩ := Kd.R_slice hu
 obtain ⟨_, hcap, hE⟩ := Kd.R_reads' hu
 have HR := Lib.hid (Rd.of hE)
 have HFar : Hid (∀ ad, E = some ad → ¬ ad.block = wB.heap.size) := Lib.hid (fun ad he hh => by
  have h1 := inn_new hu ad he
  have h2 := lt_of_block HM.out.blk
  omega)
 have HM2 := Lib.hid (HM.out.step hb2)
 have HB2 := Lib.hid ((Chg.of_below (S := fun b => b = wB.heap.size) hb2))
 have HK : Hid (∀ x, x ∈ upP st s → thS st x) := Lib.hid (fun x hx => up_th HA.out _ s x hx)
 have hL : (upP st s).length ≤ 1000000 := (by
  by_cases c : thS st s
  ·have := upF_len st (s.toNat + 1) s
   have := c.1
   have := c.2
   unfold upP; omega
  ·rw [upP_eq HA.out, if_neg (fun h => c h.1)]; simp)
 generalize upP st s = l at *
 clear hu hE hb2 hcap HM y0
 go_wp2_with fail
 go_loopw [15] (fun i wr => ∃ (q : Nat) (T : Ent.ES), i = .int .i64 q ∧ q ≤ l.length ∧ Hid (AdM wB g v A B st.length tr.length ca cb H hs.length hc wr T) ∧ Hid (T.2 ≤ f) ∧ Hid (Ent.abvL (shOf st hs) (Ent.dwnE (shOf st hs) f) tz (l.drop q) T = G) ∧ Hid (Chg (fun b => b = wB.heap.size) w wr) ∧ Hid (Rd wr E l)) (fun i _ => l.length - (intOf i).toNat)
 case atStart => exact ⟨0, S, rfl, Nat.zero_le _, HM2, HF, Lib.hid (by rw [List.drop_zero]; exact HG.out), HB2, HR⟩
 case round =>
  clear HM2 HF HB2 HR HG
  obtain ⟨q, T, rfl, hq, HM, HF, HE, HB, HR⟩ := hrel
  by_cases hlt : q < l.length
  ·obtain ⟨ad, rfl, a0⟩ := HR.out q hlt
   have hds : l.drop q = l[q] :: l.drop (q + 1) := List.drop_eq_getElem_cons hlt
   have HE2 := HE.out
   rw [hds] at HE2
   have HK0 := Lib.hid (HK.out l[q] (List.getElem_mem hlt))
   have p1 : ((q : Int) < (l.length : Int)) = True := eq_true (by omega)
   clear hds HE
   generalize l[q] = x at *
   by_cases hto : x = tz
   ·have HE3 : Hid (G = T) := Lib.hid (by rw [← HE2]; simp only [Ent.abvL]; rw [if_pos hto])
    have d1 : (x == tz) = true := beq_iff_eq.mpr hto
    clear HE2 hto
    go_wp2_with fail
    (try simp only [Exit.inBlock, Exit.then]); refine bodyPost_ret (results_none rfl _ _ _) rfl ?_
    exact ⟨rfl, by rw [HE3.out]; exact HM.out, HB.out⟩
   have HE : Hid (Ent.abvL (shOf st hs) (Ent.dwnE (shOf st hs) f) tz (l.drop (q + 1)) (if (rdS st x).f0 = 3 then Ent.regE (shOf st hs) (Ent.dwnE (shOf st hs) f) (T.1 ||| 2 ^ x.toNat, T.2) x else (T.1 ||| 2 ^ x.toNat, T.2)) = G) := Lib.hid (by rw [← HE2]; simp only [Ent.abvL]; rw [if_neg hto]; rfl)
   have d1 : (x == tz) = false := beq_eq_false_iff_ne.mpr hto
   clear HE2 hto
   obtain ⟨y0, y1, y2, y3, y4, y5, y6, f5, f6⟩ := HM.out.cells
   have hx0 : 0 ≤ x := HK0.out.1
   have px : (0 ≤ x) = True := eq_true hx0
   generalize hT1 : (T.1 : Int) = t1 at y5
   go_wp2_with fail
   refine start_ (n := 10) (S := fun w' => w'.cell? ⟨wB.heap.size, 5, none⟩ = some (.int .u32 t1) ∧ w'.frozen? ⟨wB.heap.size, 5, none⟩ = false) (ds := [9]) #[false, false, false, false, false, false, false, false, false, false] (by kernel_rfl) rfl rfl ⟨y5, f5⟩ (fun hHeld => ?_)
   refine pure_ (i := 0) (N := some 22) (v := ?_) (a' := ?_) #[true, false, false, false, false, false, false, false, false, false] rfl rfl (by kernel_rfl) (fun _ _ _ h => h) (Or.inl ⟨by rfl, ?_⟩) ?_ ?_
   rotate_left
   ·intro w'
    go_simp
    with_reducible rfl
   rotate_left
   ·simp only [Act.put, List.setIfInBounds_toArray, List.set_cons_zero, List.set_cons_succ, i64_w, i32_w]
    rfl
   refine pure_ (i := 1) (N := some 23) (v := ?_) (a' := ?_) #[true, true, false, false, false, false, false, false, false, false] rfl rfl (by kernel_rfl) (fun _ _ _ h => h) (Or.inl ⟨by rfl, ?_⟩) ?_ ?_
   rotate_left
   ·intro w'
    go_simp
    with_reducible rfl
   rotate_left
   ·simp only [Act.put, List.setIfInBounds_toArray, List.set_cons_zero, List.set_cons_succ, i64_w, i32_w]
    rfl
   refine pure_ (i := 2) (N := some 24) (v := ?_) (a' := ?_) #[true, true, true, false, false, false, false, false, false, false] rfl rfl (by kernel_rfl) (fun _ _ _ h => h) (Or.inl ⟨by rfl, ?_⟩) ?_ ?_
   rotate_left
   ·intro w'
    go_simp
    with_reducible rfl
   rotate_left
   ·simp only [Act.put, List.setIfInBounds_toArray, List.set_cons_zero, List.set_cons_succ, i64_w, i32_w]
    rfl
   refine take_ (i := 3) (N := some 25) (v := ?_) (a' := ?_) #[true, true, true, true, false, false, false, false, false, false] rfl rfl (by kernel_rfl) (fun _ _ _ h => h) (Or.inl ⟨by rfl, ?_⟩) hHeld ?_ ?_
   rotate_left
   ·rintro w' ⟨s0, s1⟩
    go_simp
    with_reducible rfl
   rotate_left
   ·simp only [Act.put, List.setIfInBounds_toArray, List.set_cons_zero, List.set_cons_succ, i64_w, i32_w]
    rfl
   refine pure_ (i := 4) (N := some 26) (v := ?_) (a' := ?_) #[true, true, true, true, true, false, false, false, false, false] rfl rfl (by kernel_rfl) (fun _ _ _ h => h) (Or.inl ⟨by rfl, ?_⟩) ?_ ?_
   rotate_left
   ·intro w'
    go_simp
    with_reducible rfl
   rotate_left
   ·simp only [Act.put, List.setIfInBounds_toArray, List.set_cons_zero, List.set_cons_succ, i64_w, i32_w]
    rfl
   refine pure_ (i := 5) (N := some 27) (v := ?_) (a' := ?_) #[true, true, true, true, true, true, false, false, false, false] rfl rfl (by kernel_rfl) (fun _ _ _ h => h) (Or.inl ⟨by rfl, ?_⟩) ?_ ?_
   rotate_left
   ·intro w'
    go_simp
    with_reducible rfl
   rotate_left
   ·simp only [Act.put, List.setIfInBounds_toArray, List.set_cons_zero, List.set_cons_succ, i64_w, i32_w]
    rfl
   refine pure_ (i := 6) (N := some 28) (v := ?_) (a' := ?_) #[true, true, true, true, true, true, true, false, false, false] rfl rfl (by kernel_rfl) (fun _ _ _ h => h) (Or.inl ⟨by rfl, ?_⟩) ?_ ?_
   rotate_left
   ·intro w'
    go_simp
    with_reducible rfl
   rotate_left
   ·simp only [Act.put, List.setIfInBounds_toArray, List.set_cons_zero, List.set_cons_succ, i64_w, i32_w]
    rfl
   refine pure_ (i := 7) (N := some 29) (v := ?_) (a' := ?_) #[true, true, true, true, true, true, true, true, false, false] rfl rfl (by kernel_rfl) (fun _ _ _ h => h) (Or.inl ⟨by rfl, ?_⟩) ?_ ?_
   rotate_left
   ·intro w'
    go_simp
    with_reducible rfl
   rotate_left
   ·simp only [Act.put, List.setIfInBounds_toArray, List.set_cons_zero, List.set_cons_succ, i64_w, i32_w]
    rfl
   refine pure_ (i := 8) (N := some 30) (v := ?_) (a' := ?_) #[true, true, true, true, true, true, true, true, true, false] rfl rfl (by kernel_rfl) (fun _ _ _ h => h) (Or.inl ⟨by rfl, ?_⟩) ?_ ?_
   rotate_left
   ·intro w'
    go_simp
    with_reducible rfl
   rotate_left
   ·simp only [Act.put, List.setIfInBounds_toArray, List.set_cons_zero, List.set_cons_succ, i64_w, i32_w]
    rfl
   refine last_ (i := 9) (N := none) #[true, true, true, true, true, true, true, true, true, true] rfl rfl (by kernel_rfl) (by decide) (fun K hK => ?_)
   refine skip_ (w1 := ?_) (by rfl) rfl ?_ ?_
   rotate_left
   ·go_simp
    rfl
   refine hK.out _ _ ?_
   clear hK K
   refine done_ (by kernel_rfl) ?_
   subst hT1
   obtain ⟨o1, o2⟩ := or_at HM.out.set (q := x.toNat) (by have := HK0.out.2; omega)
   first | rw [o1] | skip
   have HM3 := Lib.hid (HM.out.put o2).drew
   have hc3 : Chg (fun b => b = wB.heap.size) wr (wr.setCell ⟨wB.heap.size, 5, none⟩ (.int .u32 ((T.1 ||| 2 ^ x.toNat : Nat) : Int))).drew := Chg.drew ((Chg.refl (fun b => b = wB.heap.size) wr).setCell (fun _ => rfl) _)
   have HB3 := Lib.hid (HB.out.trans hc3)
   have HR3 := Lib.hid (HR.out.chg hc3 HFar.out)
   clear hc3 y0 y1 y2 y3 y4 y5 y6 f5 f6 a0 o1 o2 hHeld
   generalize (wr.setCell ⟨wB.heap.size, 5, none⟩ (.int .u32 ((T.1 ||| 2 ^ x.toNat : Nat) : Int))).drew = w3 at HM3 HB3 HR3 ⊢
   obtain ⟨_, _, y2, _⟩ := HM3.out.cells
   obtain ⟨ad2, A2, c2, A3, c3, A4, c4, e2, q0, _⟩ := PAll.at_T54 (HC.out.M.below HM3.out.low).cs x HK0.out.1 HK0.out.2
   subst e2
   have p2 : (x < (st.length : Int)) = True := eq_true HK0.out.2
   by_cases h3 : (rdS st x).f0 = 3
   ·have d3 : ((PAll.rd_T54 st x).f0 == 3) = true := beq_iff_eq.mpr h3
    have HE3 := HE.out
    rw [if_pos h3] at HE3
    have HE4 := Lib.hid HE3
    clear HE3 HE h3
    go_wp2_with fail
    refine (regs_any HC.out HD.out w3 _ HM3.out HF.out x).mono ?_
    rintro e w4 ⟨rfl, hm4, hc4⟩
    have HM4 := Lib.hid hm4
    have HF4 := Lib.hid (Nat.le_trans (Ent.regE_left (sh := shOf st hs) (Ent.dwnE_left (shOf st hs) f) (T.1 ||| 2 ^ x.toNat, T.2) x) HF.out)
    have HR4 := Lib.hid (HR3.out.chg hc4 HFar.out)
    have HB4 := Lib.hid (HB3.out.trans hc4)
    clear hm4 hc4
    go_wp2_with fail
    go_roundw
    case rel => exact ⟨q + 1, _, by go_num, by omega, HM4, HF4, HE4, HB4, HR4⟩
    case measure => simp [intOf]; omega
   ·have d3 : ((PAll.rd_T54 st x).f0 == 3) = false := beq_eq_false_iff_ne.mpr h3
    have HE3 := HE.out
    rw [if_neg h3] at HE3
    have HE4 := Lib.hid HE3
    clear HE3 HE h3
    go_wp2_with fail
    go_roundw
    case rel => exact ⟨q + 1, _, by go_num, by omega, HM3, HF, HE4, HB3, HR3⟩
    case measure => simp [intOf]; omega
  ·obtain rfl : q = l.length := by omega
   have HE3 : Hid (G = T) := Lib.hid (by rw [← HE.out, List.drop_length]; rfl)
   clear HE
   go_wp2_with fail
   go_end0
   exact ⟨rfl, by rw [HE3.out]; exact HM.out, HB.out⟩
end
end Go.Proofs.YtemoonhnncopoaaGreatDoor
end
section
namespace Go.Proofs.YtemoonhnncopoaaGreatDoor
open Go.RowKit Go.Proofs.YtemoonhnncopoaaGreatDoorW.PrintWords Go.Proofs.YtemoonhnncopoaaGreatDoorW.PrintLast
open PX (T V)
theorem nums_low {w : World} {A : Option Addr} {l : List Int} (h : NumsC w A l.length l) {a : Addr} (e : A = some a) : a.block < w.heap.size ∨ l.length = 0 := by
 by_cases hz : l.length = 0
 ·exact .inr hz
 ·obtain ⟨ad, e2, hc⟩ := nums_at h 0 (by omega)
  rw [e] at e2
  obtain rfl := Option.some.inj e2
  have := cell_lt hc
  rw [add_block] at this
  exact .inl this
section
variable {wB : World} {g : Nat} {v : Int} {A B : Option Addr} {ca cb : Nat} {st : List Sta} {tr : List Tra} {H : Option Addr} {hc : Nat} {hs : List Int} {f : Nat}
theorem sta_at (hC : AdC wB g v A B ca cb st tr H hc hs) {s : Int} (hs' : thS st s) : ∃ ad A2 c2 A3 c3 A4 c4, A = some ad ∧ (rdS st s).f2.length ≤ c2 ∧ (Kd.int .i64).C wB A2 (rdS st s).f2.length (rdS st s).f2 ∧
  ∀ w, Below wB.heap.size wB w → w.cell? (ad.add (s.toNat * 5)) = some (.int .i64 (rdS st s).f0) ∧ w.cell? ⟨(ad.add (s.toNat * 5)).block, (ad.add (s.toNat * 5)).off + 1, none⟩ = some (.int .i64 (rdS st s).f1) ∧ w.cell? ⟨(ad.add (s.toNat * 5)).block, (ad.add (s.toNat * 5)).off + 2, none⟩ = some (.slice A2 (rdS st s).f2.length c2) ∧
   w.cell? ⟨(ad.add (s.toNat * 5)).block, (ad.add (s.toNat * 5)).off + 3, none⟩ = some (.slice A3 (rdS st s).f3.length c3) ∧ w.cell? ⟨(ad.add (s.toNat * 5)).block, (ad.add (s.toNat * 5)).off + 4, none⟩ = some (.slice A4 (rdS st s).f4.length c4) := by
 obtain ⟨ad, A2, c2, A3, c3, A4, c4, e, q0, q1, q2, q3, q4, l2, g2, _⟩ := PAll.at_T54 hC.M.cs s hs'.1 hs'.2
 have mv : ∀ {w : World} {p : Addr} {u : Value}, Below wB.heap.size wB w → wB.cell? p = some u → w.cell? p = some u := fun hb h => (World.cell?_of_block (hb.block _ (cell_lt h))).trans h
 exact ⟨ad, A2, c2, A3, c3, A4, c4, e, l2, g2, fun w hb => ⟨mv hb q0, mv hb q1, mv hb q2, mv hb q3, mv hb q4⟩⟩
theorem hist_at (hC : AdC wB g v A B ca cb st tr H hc hs) {q : Nat} (hq : q < hs.length) : ∃ ad, H = some ad ∧ ∀ w, Below wB.heap.size wB w → w.cell? (ad.add q) = some (.int .u32 hs[q]) := by
 obtain ⟨hl, hm, hn⟩ := hC.H
 obtain ⟨ad, e, hp⟩ := hn (by omega)
 obtain ⟨c, h1, h2, h3⟩ := hp q _ (List.getElem?_eq_getElem hq)
 have hk : c = [.int .u32 hs[q]] := h2
 have h4 := h3 0 (.int .u32 hs[q]) (by rw [hk]; rfl)
 have h5 : wB.cell? (ad.add q) = some (.int .u32 hs[q]) := by
  have e1 : q * (Kd.int .u32).sz + 0 = q := by show q * 1 + 0 = q; omega
  have h6 : wB.cell? (ad.add (q * (Kd.int .u32).sz + 0)) = some (.int .u32 hs[q]) := h4
  rw [e1] at h6; exact h6
 exact ⟨ad, e, fun w hb => (World.cell?_of_block (hb.block _ (cell_lt h5))).trans h5⟩
theorem stands_any (hC : AdC wB g v A B ca cb st tr H hc hs) (w : World) (hb : Below wB.heap.size wB w) (s : Int) (hs' : thS st s) :
  Calls Tryz.prog 68 #[ckV v A B st.length tr.length ca cb, .slice H hs.length hc, .int .i64 s] w fun e w' => ∃ E cap, e = .returned (.slice E ((shOf st hs).stands s).length cap) ∧ NumsC w' E ((shOf st hs).stands s).length ((shOf st hs).stands s) ∧ ((shOf st hs).stands s).length ≤ cap ∧
   (∀ ad, E = some ad → ad.block < wB.heap.size ∨ w.heap.size ≤ ad.block ∨ ((shOf st hs).stands s).length = 0) ∧ Below w.heap.size w w' := by
 have hb0 : Below w.heap.size w (w.alloc (.cells #[.int .i64 v, .slice A st.length ca, .slice B tr.length cb] 47)) := (Below.refl _ w).alloc (Nat.le_refl _) _
 have hB0 := hb.trans (hb0.mono hb.size)
 have HB0 := Lib.hid hb0
 have HB := Lib.hid hB0
 have HC := Lib.hid hC
 have HG := blk_new w (.cells #[.int .i64 v, .slice A st.length ca, .slice B tr.length cb] 47)
 obtain ⟨ad, A2, c2, A3, c3, A4, c4, rfl, l2, g2, hq⟩ := sta_at hC hs'
 obtain ⟨_, _, q2, _⟩ := hq _ hB0
 have y1 : (w.alloc (.cells #[.int .i64 v, .slice (some ad) st.length ca, .slice B tr.length cb] 47)).cell? ⟨w.heap.size, 1, none⟩ = some (.slice (some ad) st.length ca) := blk_cell HG 1
 have HS := Lib.hid hs'
 have p1 : (0 ≤ s) = True := eq_true hs'.1
 have p2 : (s < (st.length : Int)) = True := eq_true hs'.2
 have HL := Lib.hid l2
 have HG2 := Lib.hid g2
 have HSz := Lib.hid (Nat.le_trans hb.size (Nat.le_refl w.heap.size))
 clear hb hb0 hB0 hC HG hq l2 g2
 by_cases c1 : s < (hs.length : Int)
 ·have d1 : decide (s < (hs.length : Int)) = true := decide_eq_true c1
  have p3 : (s < (hs.length : Int)) = True := eq_true c1
  obtain ⟨adH, rfl, hcell⟩ := hist_at HC.out (q := s.toNat) (by have := hs'.1; omega)
  have z0 := hcell _ HB.out
  have hx := HC.out.hb _ (List.getElem_mem (show s.toNat < hs.length by have := hs'.1; omega))
  have e0 : rd hs s = hs[s.toNat]'(by have := hs'.1; omega) := by
   unfold rd; rw [List.getD_eq_getElem?_getD, List.getElem?_eq_getElem (by have := hs'.1; omega)]; rfl
  generalize hs[s.toNat]'(by have := hs'.1; omega) = x at *
  by_cases c2 : x = 0
  ·have d2 : (x != 0) = false := by rw [c2]; rfl
   have e1 : (shOf st hs).stands s = (rdS st s).f2 := by show (if s < (hs.length : Int) ∧ rd hs s ≠ 0 then _ else _) = _; rw [if_neg (by rw [e0]; exact fun h => h.2 c2)]
   rw [e1]
   clear c1 c2 hcell e0 e1 hx hs'
   go_enter Tryz.func68, Tryz.ntmps68
   go_wp2_with fail
   go_ret
   exact ⟨A2, c2, rfl, Kd.C_below HG2.out HB.out, HL.out, fun a h => (nums_low HG2.out h).elim .inl (fun h => .inr (.inr h)), HB0.out⟩
  ·have d2 : (x != 0) = true := by rw [bne_iff_ne]; exact c2
   obtain ⟨n, rfl⟩ : ∃ n : Nat, x = (n : Int) := ⟨x.toNat, by omega⟩
   have e1 : (shOf st hs).stands s = listP n := by show (if s < (hs.length : Int) ∧ rd hs s ≠ 0 then _ else _) = _; rw [if_pos ⟨c1, by rw [e0]; exact c2⟩, e0]; rfl
   rw [e1]
   have hx2 : n < 4294967296 := by omega
   clear c1 c2 hcell e0 e1 hx hs'
   go_enter Tryz.func68, Tryz.ntmps68
   go_wp2_with fail
   refine (list_any n hx2 _ (HC.out.laid.below HB.out)).mono ?_
   rintro e w2 ⟨u, rfl, hu, hb2⟩
   obtain ⟨E, cap, rfl⟩ := Kd.R_slice hu
   obtain ⟨_, hcap, hE⟩ := Kd.R_reads' hu
   have HE := Lib.hid hE
   have HU := Lib.hid hu
   have HB2 := Lib.hid (below_then HB0.out HB0.out.size hb2)
   have HCap := Lib.hid hcap
   clear hE hu hb2 hcap
   go_wp2_with fail
   go_ret
   refine ⟨E, cap, rfl, HE.out, HCap.out, fun a h => .inr (.inl ?_), HB2.out⟩
   have := inn_new HU.out a h
   have := HB0.out.size
   omega
 ·have d1 : decide (s < (hs.length : Int)) = false := decide_eq_false c1
  have e1 : (shOf st hs).stands s = (rdS st s).f2 := by show (if s < (hs.length : Int) ∧ rd hs s ≠ 0 then _ else _) = _; rw [if_neg (fun h => c1 h.1)]
  rw [e1]
  clear c1 e1 hs'
  go_enter Tryz.func68, Tryz.ntmps68
  go_wp2_with fail
  go_ret
  exact ⟨A2, c2, rfl, Kd.C_below HG2.out HB.out, HL.out, fun a h => (nums_low HG2.out h).elim .inl (fun h => .inr (.inr h)), HB0.out⟩
end
end Go.Proofs.YtemoonhnncopoaaGreatDoor
end
section
namespace Go.Proofs.YtemoonhnncopoaaGreatDoor
open Go.RowKit Go.Proofs.YtemoonhnncopoaaGreatDoorW.PrintWords Go.Proofs.YtemoonhnncopoaaGreatDoorW.PrintLast
open PX (T V)
theorem ini_true {v : Int} {st : List Sta} {tr : List Tra} (h : chkP v st tr = .none) {s : Int} (hs : thS st s) : iniP st s = true := by
 have hz := (chk_none h).2.1 s hs.1 hs.2
 unfold stateP at hz
 split at hz
 ·omega
 ·split at hz
  ·omega
  ·split at hz
   ·omega
   ·split at hz
    ·omega
    ·rename_i e; simpa using e
theorem ini_one {v : Int} {st : List Sta} {tr : List Tra} (h : chkP v st tr = .none) {s : Int} (hs : thS st s) (hk : (rdS st s).f0 = 2 ∨ (rdS st s).f0 = 5 ∨ (rdS st s).f0 = 6) : (rdS st s).f2.length = 1 ∧ 0 ≤ rd (rdS st s).f2 0 := by
 have hi := ini_true h hs
 have hk' : (PAll.rd_T54 st s).f0 = 2 ∨ (PAll.rd_T54 st s).f0 = 5 ∨ (PAll.rd_T54 st s).f0 = 6 := hk
 unfold iniP at hi
 rw [if_neg (by
  rintro ⟨e1, e2⟩
  rcases hk' with e | e | e
  ·exact e1 e
  ·rw [e] at e2; cases e2
  ·rw [e] at e2; cases e2)] at hi
 split at hi
 ·cases hi
 ·rename_i h1
  split at hi
  ·cases hi
  ·rename_i h2
   have h2 := Classical.not_not.1 h2
   have h1 := Classical.not_not.1 h1
   exact ⟨by show (PAll.rd_T54 st s).f2.length = 1; omega, h2.1⟩
theorem std_pos {v : Int} {st : List Sta} {tr : List Tra} (h : chkP v st tr = .none) (hs : List Int) {s : Int} (ht : thS st s) (hk : (rdS st s).f0 = 5 ∨ (rdS st s).f0 = 6) : ∀ y ∈ (shOf st hs).stands s, 0 ≤ y := by
 intro y hy
 have hy' : y ∈ (if s < (hs.length : Int) ∧ rd hs s ≠ 0 then listP (rd hs s).toNat else (rdS st s).f2) := hy
 split at hy'
 ·exact (listP_mem hy').1
 ·obtain ⟨l1, l0⟩ := ini_one h ht (.inr hk)
  match hf : (rdS st s).f2, l1 with
  | [a], _ =>
   rw [hf] at hy' l0
   obtain rfl := List.mem_singleton.1 hy'
   exact l0
theorem std_len {v : Int} {st : List Sta} {tr : List Tra} (h : chkP v st tr = .none) (hs : List Int) {s : Int} (ht : thS st s) (hk : (rdS st s).f0 = 5 ∨ (rdS st s).f0 = 6) : ((shOf st hs).stands s).length ≤ 32 := by
 show (if s < (hs.length : Int) ∧ rd hs s ≠ 0 then listP (rd hs s).toNat else (rdS st s).f2).length ≤ 32
 split
 ·exact listP_len _
 ·have := (ini_one h ht (.inr hk)).1
  omega
section
variable {wB : World} {g : Nat} {v : Int} {A B : Option Addr} {ca cb : Nat} {st : List Sta} {tr : List Tra} {H : Option Addr} {hc : Nat} {hs : List Int}
theorem dwn_stop (hC : AdC wB g v A B ca cb st tr H hc hs) (w : World) (S : Ent.ES) (h : AdM wB g v A B st.length tr.length ca cb H hs.length hc w S) (s : Int) (hz : S.2 = 0 ∨ (st.length : Int) ≤ s) :
  Calls Tryz.prog 71 #[AdP wB, .int .i64 s] w fun e w' => e = .returned (.tuple #[]) ∧ AdM wB g v A B st.length tr.length ca cb H hs.length hc w' S ∧ Chg (fun b => b = wB.heap.size) w w' := by
 have HM := Lib.hid h
 obtain ⟨y0, y1, y2, y3, y4, y5, y6, f5, f6⟩ := h.cells
 clear h hC
 by_cases c : S.2 = 0
 ·have d1 : ((S.2 : Int) == 0) = true := by rw [c]; rfl
  clear c hz
  go_enter Tryz.func71, Tryz.ntmps71
  go_wp2_with fail
  (try simp only [Exit.inBlock, Exit.then]); refine bodyPost_ret (results_none rfl _ _ _) rfl ?_
  exact ⟨rfl, HM.out, Chg.refl _ _⟩
 ·have d1 : ((S.2 : Int) == 0) = false := by rw [beq_eq_false_iff_ne]; omega
  have d2 : decide (s ≥ (st.length : Int)) = true := decide_eq_true (by rcases hz with h | h; exact absurd h c; exact h)
  clear c hz
  go_enter Tryz.func71, Tryz.ntmps71
  go_wp2_with fail
  (try simp only [Exit.inBlock, Exit.then]); refine bodyPost_ret (results_none rfl _ _ _) rfl ?_
  exact ⟨rfl, HM.out, Chg.refl _ _⟩
theorem dwn_go (hC : AdC wB g v A B ca cb st tr H hc hs) {f : Nat} (hD : DW wB g v A B ca cb st tr H hc hs f) (w : World) (x n : Nat) (h : AdM wB g v A B st.length tr.length ca cb H hs.length hc w (x, n + 1)) (hf : n ≤ f) (s : Int) (hs' : thS st s) :
  Calls Tryz.prog 71 #[AdP wB, .int .i64 s] w fun e w' => e = .returned (.tuple #[]) ∧ AdM wB g v A B st.length tr.length ca cb H hs.length hc w' (Ent.dwnE (shOf st hs) (f + 1) (x, n + 1) s) ∧ Chg (fun b => b = wB.heap.size) w w' := by
 have HC := Lib.hid hC
 have HD := Lib.hid hD
 have hl : st.length ≤ 24 := (chk_none hC.good).1.2.2.2.1
 have HF := Lib.hid hf
 have HS := Lib.hid hs'
 have hn4 : n + 1 ≤ 4000 := h.left
 obtain ⟨y0, y1, y2, y3, y4, y5, y6, f5, f6⟩ := h.cells
 have y6' : w.cell? ⟨wB.heap.size, 6, none⟩ = some (.int .i64 ((n : Int) + 1)) := y6
 have HM0 := h.putl (x := n) (by omega)
 have HX0 : wB.heap.size < w.heap.size := lt_of_block h.blk
 obtain ⟨ad, A2, c2, A3, c3, A4, c4, rfl, l2, g2, hq⟩ := sta_at hC hs'
 generalize hG : Ent.dwnE (shOf st hs) (f + 1) (x, n + 1) s = G
 have HG := Lib.hid hG
 obtain ⟨q0, q1, q2, q3, q4⟩ := hq _ HM0.low
 obtain ⟨z0, z1, z2, z3, z4, z5, z6, _, _⟩ := HM0.cells
 have HM1 := Lib.hid HM0
 have HL2 := Lib.hid l2
 have HG2 := Lib.hid g2
 have d1 : (((n : Int) + 1) == 0) = false := by rw [beq_eq_false_iff_ne]; omega
 have d2 : decide (s ≥ (st.length : Int)) = false := decide_eq_false (by have := hs'.2; omega)
 have p1 : (0 ≤ s) = True := eq_true hs'.1
 have p2 : (s < (st.length : Int)) = True := eq_true hs'.2
 have HSz : Hid ((w.setCell ⟨wB.heap.size, 6, none⟩ (.int .i64 (n : Int))).heap.size = w.heap.size) := Lib.hid (by simp [World.setCell])
 have HC1 : Hid (Chg (fun b => b = wB.heap.size) w (w.setCell ⟨wB.heap.size, 6, none⟩ (.int .i64 (n : Int)))) := Lib.hid ((Chg.refl (fun b => b = wB.heap.size) w).setCell (fun _ => rfl) _)
 clear hC hD h hf hs' hG HM0 hq l2 g2 y6
 go_enter Tryz.func71, Tryz.ntmps71
 go_wp2_with fail
 have HM2 := Lib.hid (HM1.out.step ((Below.refl _ _).alloc (Nat.le_refl _) (.cells #[.int .i64 (rdS st s).f0, .int .i64 (rdS st s).f1, .slice A2 (rdS st s).f2.length c2, .slice A3 (rdS st s).f3.length c3, .slice A4 (rdS st s).f4.length c4] 54)))
 have HC2 := Lib.hid (HC1.out.alloc (.cells #[.int .i64 (rdS st s).f0, .int .i64 (rdS st s).f1, .slice A2 (rdS st s).f2.length c2, .slice A3 (rdS st s).f3.length c3, .slice A4 (rdS st s).f4.length c4] 54))
 have hx2 := blk_new (w.setCell ⟨wB.heap.size, 6, none⟩ (.int .i64 (n : Int))) (.cells #[.int .i64 (rdS st s).f0, .int .i64 (rdS st s).f1, .slice A2 (rdS st s).f2.length c2, .slice A3 (rdS st s).f3.length c3, .slice A4 (rdS st s).f4.length c4] 54)
 rw [HSz.out] at hx2
 have HX := Lib.hid hx2
 clear hx2 HC1 HSz HM1 q0 q1 q2 q3 q4 z0 z1 z2 z3 z4 z5 z6 y0 y1 y2 y3 y4 y5 y6' f5 f6
 generalize (w.setCell ⟨wB.heap.size, 6, none⟩ (.int .i64 (n : Int))).alloc (.cells #[.int .i64 (rdS st s).f0, .int .i64 (rdS st s).f1, .slice A2 (rdS st s).f2.length c2, .slice A3 (rdS st s).f3.length c3, .slice A4 (rdS st s).f4.length c4] 54) = w2 at HM2 HC2 HX ⊢
 have hgs : ¬ w.heap.size = wB.heap.size := by omega
 by_cases hh : (rdS st s).f0 = 5 ∨ (rdS st s).f0 = 6
 ·have HGh : Hid (((shOf st hs).stands s).foldl (fun S y => Ent.abvE (shOf st hs) (Ent.dwnE (shOf st hs) f) S y (rdS st s).f1) (((shOf st hs).stands s).foldl (Ent.dwnE (shOf st hs) f) (x, n)) = G) := Lib.hid (by
   rw [← HG.out]
   exact ((if_neg (show ¬ (n + 1 = 0 ∨ (st.length : Int) ≤ s) by have := HS.out.2; omega)).trans (if_pos hh)).symm)
  have HSp := Lib.hid (std_pos HC.out.good hs HS.out hh)
  have hsl := std_len HC.out.good hs HS.out hh
  refine (ehist_any (rdS st s).f0 _ (decide_eq_true hh)).mono ?_
  rintro e w3 ⟨rfl, h3⟩
  rw [h3]
  clear HG hh h3
  go_wp2_with fail
  obtain ⟨z0, z1, z2, z3, z4, z5, z6, _, _⟩ := HM2.out.cells
  refine start_ (n := 11) (S := fun w' => w'.cell? ⟨wB.heap.size, 1, none⟩ = some (.int .i64 v) ∧ w'.cell? ⟨wB.heap.size, 2, none⟩ = some (.slice (some ad) st.length ca) ∧ w'.cell? ⟨wB.heap.size, 3, none⟩ = some (.slice B tr.length cb) ∧ w'.cell? ⟨wB.heap.size, 4, none⟩ = some (.slice H hs.length hc)) (ds := [9]) #[false, false, false, false, false, false, false, false, false, false, false] (by kernel_rfl) rfl rfl ⟨z1, z2, z3, z4⟩ (fun hHeld => ?_)
  refine pure_ (i := 0) (N := some 43) (v := ?_) (a' := ?_) #[true, false, false, false, false, false, false, false, false, false, false] rfl rfl (by kernel_rfl) (fun _ _ _ h => h) (Or.inl ⟨by rfl, ?_⟩) ?_ ?_
  rotate_left
  ·intro w'
   go_simp
   with_reducible rfl
  rotate_left
  ·simp only [Act.put, List.setIfInBounds_toArray, List.set_cons_zero, List.set_cons_succ, i64_w, i32_w]
   rfl
  refine pure_ (i := 1) (N := some 44) (v := ?_) (a' := ?_) #[true, true, false, false, false, false, false, false, false, false, false] rfl rfl (by kernel_rfl) (fun _ _ _ h => h) (Or.inl ⟨by rfl, ?_⟩) ?_ ?_
  rotate_left
  ·intro w'
   go_simp
   with_reducible rfl
  rotate_left
  ·simp only [Act.put, List.setIfInBounds_toArray, List.set_cons_zero, List.set_cons_succ, i64_w, i32_w]
   rfl
  refine pure_ (i := 2) (N := some 45) (v := ?_) (a' := ?_) #[true, true, true, false, false, false, false, false, false, false, false] rfl rfl (by kernel_rfl) (fun _ _ _ h => h) (Or.inl ⟨by rfl, ?_⟩) ?_ ?_
  rotate_left
  ·intro w'
   go_simp
   with_reducible rfl
  rotate_left
  ·simp only [Act.put, List.setIfInBounds_toArray, List.set_cons_zero, List.set_cons_succ, i64_w, i32_w]
   rfl
  refine take_ (i := 3) (N := some 46) (v := ?_) (a' := ?_) #[true, true, true, true, false, false, false, false, false, false, false] rfl rfl (by kernel_rfl) (fun _ _ _ h => h) (Or.inl ⟨by rfl, ?_⟩) hHeld ?_ ?_
  rotate_left
  ·rintro w' ⟨s0, s1, s2, s3⟩
   go_simp
   with_reducible rfl
  rotate_left
  ·simp only [Act.put, List.setIfInBounds_toArray, List.set_cons_zero, List.set_cons_succ, i64_w, i32_w]
   rfl
  refine pure_ (i := 4) (N := some 47) (v := ?_) (a' := ?_) #[true, true, true, true, true, false, false, false, false, false, false] rfl rfl (by kernel_rfl) (fun _ _ _ h => h) (Or.inl ⟨by rfl, ?_⟩) ?_ ?_
  rotate_left
  ·intro w'
   go_simp
   with_reducible rfl
  rotate_left
  ·simp only [Act.put, List.setIfInBounds_toArray, List.set_cons_zero, List.set_cons_succ, i64_w, i32_w]
   rfl
  refine pure_ (i := 5) (N := some 48) (v := ?_) (a' := ?_) #[true, true, true, true, true, true, false, false, false, false, false] rfl rfl (by kernel_rfl) (fun _ _ _ h => h) (Or.inl ⟨by rfl, ?_⟩) ?_ ?_
  rotate_left
  ·intro w'
   go_simp
   with_reducible rfl
  rotate_left
  ·simp only [Act.put, List.setIfInBounds_toArray, List.set_cons_zero, List.set_cons_succ, i64_w, i32_w]
   rfl
  refine pure_ (i := 6) (N := some 49) (v := ?_) (a' := ?_) #[true, true, true, true, true, true, true, false, false, false, false] rfl rfl (by kernel_rfl) (fun _ _ _ h => h) (Or.inl ⟨by rfl, ?_⟩) ?_ ?_
  rotate_left
  ·intro w'
   go_simp
   with_reducible rfl
  rotate_left
  ·simp only [Act.put, List.setIfInBounds_toArray, List.set_cons_zero, List.set_cons_succ, i64_w, i32_w]
   rfl
  refine take_ (i := 7) (N := some 50) (v := ?_) (a' := ?_) #[true, true, true, true, true, true, true, true, false, false, false] rfl rfl (by kernel_rfl) (fun _ _ _ h => h) (Or.inl ⟨by rfl, ?_⟩) hHeld ?_ ?_
  rotate_left
  ·rintro w' ⟨s0, s1, s2, s3⟩
   go_simp
   with_reducible rfl
  rotate_left
  ·simp only [Act.put, List.setIfInBounds_toArray, List.set_cons_zero, List.set_cons_succ, i64_w, i32_w]
   rfl
  refine pure_ (i := 8) (N := some 51) (v := ?_) (a' := ?_) #[true, true, true, true, true, true, true, true, true, false, false] rfl rfl (by kernel_rfl) (fun _ _ _ h => h) (Or.inl ⟨by rfl, ?_⟩) ?_ ?_
  rotate_left
  ·intro w'
   go_simp
   with_reducible rfl
  rotate_left
  ·simp only [Act.put, List.setIfInBounds_toArray, List.set_cons_zero, List.set_cons_succ, i64_w, i32_w]
   rfl
  refine last_ (i := 9) (N := some 52) #[true, true, true, true, true, true, true, true, true, true, false] rfl rfl (by kernel_rfl) (by decide) (fun K hK => ?_)
  refine goes_ Tryz.func68 (by kernel_rfl) rfl #[ckV v (some ad) B st.length tr.length ca cb, .slice H hs.length hc, .int .i64 s] (by rfl) rfl rfl (by first | rfl | (go_simp; done) | (go_simp; exact ⟨rfl, rfl⟩) | (go_simp; rfl)) ?_
  refine (stands_any HC.out _ (below_drewN' HM2.out.low 1) s HS.out).mono ?_
  rintro e1 w4 ⟨E, cap, rfl, hE, hcap, hfar, hb4⟩
  have hb4' : Below w2.heap.size w2 w4 := below_then (below_drewN' (Below.refl _ w2) 1) (Nat.le_refl _) hb4
  have HM4 := Lib.hid (HM2.out.step hb4')
  have HC4 := Lib.hid (HC2.out.trans (Chg.of_below hb4'))
  have HX4 := Lib.hid ((hb4'.block _ (lt_of_block HX.out)).trans HX.out)
  have HR4 := Lib.hid (Rd.of hE)
  have HFar : Hid (∀ ad, E = some ad → ¬ ad.block = wB.heap.size ∨ ((shOf st hs).stands s).length = 0) := Lib.hid (fun a ha => by
   have h2 := lt_of_block HM2.out.blk
   have h3 : w2.heap.size ≤ (w2.drewN 1).heap.size := Nat.le_refl _
   rcases hfar a ha with h | h | h
   ·exact .inl (by omega)
   ·exact .inl (by omega)
   ·exact .inr h)
  refine ⟨_, rfl, hK.out _ _ ?_⟩
  clear hK K hHeld hE hcap hfar hb4 hb4' HM2 HC2 HX
  refine pure_ (i := 10) (N := some 5) (v := ?_) (a' := ?_) #[true, true, true, true, true, true, true, true, true, true, true] rfl rfl (by kernel_rfl) (fun _ _ _ h => h) (Or.inl ⟨by rfl, ?_⟩) ?_ ?_
  rotate_left
  ·intro w'
   go_simp
   with_reducible rfl
  rotate_left
  ·simp only [Act.put, List.setIfInBounds_toArray, List.set_cons_zero, List.set_cons_succ, i64_w, i32_w]
   rfl
  refine done_ (by kernel_rfl) ?_
  clear z0 z1 z2 z3 z4 z5 z6
  generalize (shOf st hs).stands s = l at *
  go_wp2_with fail
  go_loopw [55] (fun i wr => ∃ (q : Nat) (T : Ent.ES), i = .int .i64 q ∧ q ≤ l.length ∧ Hid (AdM wB g v (some ad) B st.length tr.length ca cb H hs.length hc wr T) ∧ Hid (T.2 ≤ f) ∧ Hid ((l.drop q).foldl (Ent.dwnE (shOf st hs) f) T = l.foldl (Ent.dwnE (shOf st hs) f) (x, n)) ∧ Hid (Chg (fun b => b = wB.heap.size) w wr) ∧ Hid (Rd wr E l) ∧ Hid (wr.heap[w.heap.size]? = some (.cells #[.int .i64 (rdS st s).f0, .int .i64 (rdS st s).f1, .slice A2 (rdS st s).f2.length c2, .slice A3 (rdS st s).f3.length c3, .slice A4 (rdS st s).f4.length c4] 54 (0, 0)))) (fun i _ => l.length - (intOf i).toNat)
  case atStart => exact ⟨0, (x, n), rfl, Nat.zero_le _, HM4, HF, Lib.hid (by rw [List.drop_zero]), HC4, HR4, HX4⟩
  case round =>
   clear HM4 HF HC4 HR4 HX4
   obtain ⟨q, T, rfl, hq, HM, HF, HE, HB, HR, HX⟩ := hrel
   by_cases hlt : q < l.length
   ·obtain ⟨ad2, rfl, a0⟩ := HR.out q hlt
    have hds : l.drop q = l[q] :: l.drop (q + 1) := List.drop_eq_getElem_cons hlt
    have HE2 := HE.out
    rw [hds, List.foldl_cons] at HE2
    have HK0 := Lib.hid (HSp.out l[q] (List.getElem_mem hlt))
    have p3 : ((q : Int) < (l.length : Int)) = True := eq_true (by omega)
    clear hds HE
    generalize l[q] = k at *
    have HE := Lib.hid HE2
    clear HE2
    go_wp2_with fail
    refine (HD.out wr T k HM.out HF.out HK0.out).mono ?_
    rintro e w4 ⟨rfl, hm4, hc4⟩
    have HM4 := Lib.hid hm4
    have HF4 := Lib.hid (Nat.le_trans (Ent.dwnE_left (shOf st hs) f T k) HF.out)
    have HR4 := Lib.hid (HR.out.chg' hc4 HFar.out)
    have HB4 := Lib.hid (HB.out.trans hc4)
    have HX4 := Lib.hid (hc4.blk HX.out hgs)
    clear hm4 hc4 a0
    go_wp2_with fail
    go_roundw
    case rel => exact ⟨q + 1, _, by go_num, by omega, HM4, HF4, HE, HB4, HR4, HX4⟩
    case measure => simp [intOf]; omega
   ·obtain rfl : q = l.length := by omega
    have HE3 : Hid (l.foldl (Ent.dwnE (shOf st hs) f) (x, n) = T) := Lib.hid (by rw [← HE.out, List.drop_length]; rfl)
    have HGi := HGh.out
    rw [HE3.out] at HGi
    have HG := Lib.hid HGi
    clear HE HE3 HGi HGh
    go_wp2_with fail
    go_loopw [65] (fun i wr => ∃ (q : Nat) (U : Ent.ES), i = .int .i64 q ∧ q ≤ l.length ∧ Hid (AdM wB g v (some ad) B st.length tr.length ca cb H hs.length hc wr U) ∧ Hid (U.2 ≤ f) ∧ Hid ((l.drop q).foldl (fun S y => Ent.abvE (shOf st hs) (Ent.dwnE (shOf st hs) f) S y (rdS st s).f1) U = G) ∧ Hid (Chg (fun b => b = wB.heap.size) w wr) ∧ Hid (Rd wr E l) ∧ Hid (wr.heap[w.heap.size]? = some (.cells #[.int .i64 (rdS st s).f0, .int .i64 (rdS st s).f1, .slice A2 (rdS st s).f2.length c2, .slice A3 (rdS st s).f3.length c3, .slice A4 (rdS st s).f4.length c4] 54 (0, 0)))) (fun i _ => l.length - (intOf i).toNat)
    case atStart => exact ⟨0, T, rfl, Nat.zero_le _, HM, HF, Lib.hid (by rw [List.drop_zero]; exact HG.out), HB, HR, HX⟩
    case round =>
     clear HM HF HB HR HX HG
     obtain ⟨q, U, rfl, hq, HM, HF, HE, HB, HR, HX⟩ := hrel
     by_cases hlt : q < l.length
     ·obtain ⟨ad2, rfl, a0⟩ := HR.out q hlt
      have hds : l.drop q = l[q] :: l.drop (q + 1) := List.drop_eq_getElem_cons hlt
      have HE2 := HE.out
      rw [hds, List.foldl_cons] at HE2
      have p3 : ((q : Int) < (l.length : Int)) = True := eq_true (by omega)
      clear hds HE
      generalize l[q] = k at *
      have HE := Lib.hid HE2
      have b1 : wr.cell? ⟨w.heap.size, 1, none⟩ = some (.int .i64 (rdS st s).f1) := blk_cell HX.out 1
      clear HE2
      go_wp2_with fail
      refine (abv_any HC.out HD.out wr U HM.out HF.out k (rdS st s).f1).mono ?_
      rintro e w4 ⟨rfl, hm4, hc4⟩
      have HM4 := Lib.hid hm4
      have HF4 := Lib.hid (Nat.le_trans (Ent.abvL_left (sh := shOf st hs) (Ent.dwnE_left (shOf st hs) f) (rdS st s).f1 (upP st k) U) HF.out)
      have HR4 := Lib.hid (HR.out.chg' hc4 HFar.out)
      have HB4 := Lib.hid (HB.out.trans hc4)
      have HX4 := Lib.hid (hc4.blk HX.out hgs)
      clear hm4 hc4 a0 b1
      go_wp2_with fail
      go_roundw
      case rel => exact ⟨q + 1, _, by go_num, by omega, HM4, HF4, HE, HB4, HR4, HX4⟩
      case measure => simp [intOf]; omega
     ·obtain rfl : q = l.length := by omega
      have HE3 : Hid (G = U) := Lib.hid (by rw [← HE.out, List.drop_length]; rfl)
      clear HE
      go_wp2_with fail
      (try simp only [Exit.inBlock, Exit.then]); refine bodyPost_ret (results_none rfl _ _ _) rfl ?_
      exact ⟨rfl, by rw [HE3.out]; exact HM.out, HB.out⟩
 ·have HGn : Hid ((if (rdS st s).f0 = 2 then Ent.abvE (shOf st hs) (Ent.dwnE (shOf st hs) f) (Ent.dwnE (shOf st hs) f (x ||| 2 ^ s.toNat, n) (rd (rdS st s).f2 0)) (rd (rdS st s).f2 0) s else if (rdS st s).f0 = 3 then Ent.regE (shOf st hs) (Ent.dwnE (shOf st hs) f) (x ||| 2 ^ s.toNat, n) s else (x ||| 2 ^ s.toNat, n)) = G) := Lib.hid (by
   rw [← HG.out]
   exact ((if_neg (show ¬ (n + 1 = 0 ∨ (st.length : Int) ≤ s) by have := HS.out.2; omega)).trans (if_neg hh)).symm)
  refine (ehist_any (rdS st s).f0 _ (decide_eq_false hh)).mono ?_
  rintro e w3 ⟨rfl, h3⟩
  rw [h3]
  clear HG hh h3
  obtain ⟨z0, z1, z2, z3, z4, z5, z6, zf5, _⟩ := HM2.out.cells
  generalize hT1 : ((x : Nat) : Int) = t1 at z5
  go_wp2_with fail
  refine start_ (n := 10) (S := fun w' => w'.cell? ⟨wB.heap.size, 5, none⟩ = some (.int .u32 t1) ∧ w'.frozen? ⟨wB.heap.size, 5, none⟩ = false) (ds := [9]) #[false, false, false, false, false, false, false, false, false, false] (by kernel_rfl) rfl rfl ⟨z5, zf5⟩ (fun hHeld => ?_)
  refine pure_ (i := 0) (N := some 75) (v := ?_) (a' := ?_) #[true, false, false, false, false, false, false, false, false, false] rfl rfl (by kernel_rfl) (fun _ _ _ h => h) (Or.inl ⟨by rfl, ?_⟩) ?_ ?_
  rotate_left
  ·intro w'
   go_simp
   with_reducible rfl
  rotate_left
  ·simp only [Act.put, List.setIfInBounds_toArray, List.set_cons_zero, List.set_cons_succ, i64_w, i32_w]
   rfl
  refine pure_ (i := 1) (N := some 76) (v := ?_) (a' := ?_) #[true, true, false, false, false, false, false, false, false, false] rfl rfl (by kernel_rfl) (fun _ _ _ h => h) (Or.inl ⟨by rfl, ?_⟩) ?_ ?_
  rotate_left
  ·intro w'
   go_simp
   with_reducible rfl
  rotate_left
  ·simp only [Act.put, List.setIfInBounds_toArray, List.set_cons_zero, List.set_cons_succ, i64_w, i32_w]
   rfl
  refine pure_ (i := 2) (N := some 77) (v := ?_) (a' := ?_) #[true, true, true, false, false, false, false, false, false, false] rfl rfl (by kernel_rfl) (fun _ _ _ h => h) (Or.inl ⟨by rfl, ?_⟩) ?_ ?_
  rotate_left
  ·intro w'
   go_simp
   with_reducible rfl
  rotate_left
  ·simp only [Act.put, List.setIfInBounds_toArray, List.set_cons_zero, List.set_cons_succ, i64_w, i32_w]
   rfl
  refine take_ (i := 3) (N := some 78) (v := ?_) (a' := ?_) #[true, true, true, true, false, false, false, false, false, false] rfl rfl (by kernel_rfl) (fun _ _ _ h => h) (Or.inl ⟨by rfl, ?_⟩) hHeld ?_ ?_
  rotate_left
  ·rintro w' ⟨s0, s1⟩
   go_simp
   with_reducible rfl
  rotate_left
  ·simp only [Act.put, List.setIfInBounds_toArray, List.set_cons_zero, List.set_cons_succ, i64_w, i32_w]
   rfl
  refine pure_ (i := 4) (N := some 79) (v := ?_) (a' := ?_) #[true, true, true, true, true, false, false, false, false, false] rfl rfl (by kernel_rfl) (fun _ _ _ h => h) (Or.inl ⟨by rfl, ?_⟩) ?_ ?_
  rotate_left
  ·intro w'
   go_simp
   with_reducible rfl
  rotate_left
  ·simp only [Act.put, List.setIfInBounds_toArray, List.set_cons_zero, List.set_cons_succ, i64_w, i32_w]
   rfl
  refine pure_ (i := 5) (N := some 80) (v := ?_) (a' := ?_) #[true, true, true, true, true, true, false, false, false, false] rfl rfl (by kernel_rfl) (fun _ _ _ h => h) (Or.inl ⟨by rfl, ?_⟩) ?_ ?_
  rotate_left
  ·intro w'
   go_simp
   with_reducible rfl
  rotate_left
  ·simp only [Act.put, List.setIfInBounds_toArray, List.set_cons_zero, List.set_cons_succ, i64_w, i32_w]
   rfl
  refine pure_ (i := 6) (N := some 81) (v := ?_) (a' := ?_) #[true, true, true, true, true, true, true, false, false, false] rfl rfl (by kernel_rfl) (fun _ _ _ h => h) (Or.inl ⟨by rfl, ?_⟩) ?_ ?_
  rotate_left
  ·intro w'
   go_simp
   with_reducible rfl
  rotate_left
  ·simp only [Act.put, List.setIfInBounds_toArray, List.set_cons_zero, List.set_cons_succ, i64_w, i32_w]
   rfl
  refine pure_ (i := 7) (N := some 82) (v := ?_) (a' := ?_) #[true, true, true, true, true, true, true, true, false, false] rfl rfl (by kernel_rfl) (fun _ _ _ h => h) (Or.inl ⟨by rfl, ?_⟩) ?_ ?_
  rotate_left
  ·intro w'
   go_simp
   with_reducible rfl
  rotate_left
  ·simp only [Act.put, List.setIfInBounds_toArray, List.set_cons_zero, List.set_cons_succ, i64_w, i32_w]
   rfl
  refine pure_ (i := 8) (N := some 83) (v := ?_) (a' := ?_) #[true, true, true, true, true, true, true, true, true, false] rfl rfl (by kernel_rfl) (fun _ _ _ h => h) (Or.inl ⟨by rfl, ?_⟩) ?_ ?_
  rotate_left
  ·intro w'
   go_simp
   with_reducible rfl
  rotate_left
  ·simp only [Act.put, List.setIfInBounds_toArray, List.set_cons_zero, List.set_cons_succ, i64_w, i32_w]
   rfl
  refine last_ (i := 9) (N := none) #[true, true, true, true, true, true, true, true, true, true] rfl rfl (by kernel_rfl) (by decide) (fun K hK => ?_)
  refine skip_ (w1 := ?_) (by rfl) rfl ?_ ?_
  rotate_left
  ·go_simp
   rfl
  refine hK.out _ _ ?_
  clear hK K
  refine done_ (by kernel_rfl) ?_
  subst hT1
  obtain ⟨o1, o2⟩ := or_at HM2.out.set (q := s.toNat) (by have := HS.out.2; omega)
  first | rw [o1] | skip
  have HM3 := Lib.hid (HM2.out.put o2).drew
  have hc3 : Chg (fun b => b = wB.heap.size) w2 (w2.setCell ⟨wB.heap.size, 5, none⟩ (.int .u32 ((x ||| 2 ^ s.toNat : Nat) : Int))).drew := Chg.drew ((Chg.refl (fun b => b = wB.heap.size) w2).setCell (fun _ => rfl) _)
  have HC3 := Lib.hid (HC2.out.trans hc3)
  have HX3 := Lib.hid (hc3.blk HX.out hgs)
  clear hc3 z0 z1 z2 z3 z4 z5 z6 zf5 o1 o2 hHeld HX HM2 HC2
  generalize (w2.setCell ⟨wB.heap.size, 5, none⟩ (.int .u32 ((x ||| 2 ^ s.toNat : Nat) : Int))).drew = w3 at HM3 HC3 HX3 ⊢
  obtain ⟨b0, b2⟩ : w3.cell? ⟨w.heap.size, 0, none⟩ = some (.int .i64 (rdS st s).f0) ∧ w3.cell? ⟨w.heap.size, 2, none⟩ = some (.slice A2 (rdS st s).f2.length c2) := ⟨blk_cell HX3.out 0, blk_cell HX3.out 2⟩
  by_cases k2 : (rdS st s).f0 = 2
  ·have e2 : ((rdS st s).f0 == 2) = true := beq_iff_eq.mpr k2
   have hG2 := HGn.out
   rw [if_pos k2] at hG2
   have HG := Lib.hid hG2
   obtain ⟨l1, l0⟩ := ini_one HC.out.good HS.out (.inl k2)
   obtain ⟨ad2, rfl, a0⟩ := nums_at HG2.out 0 (by omega)
   rw [addr0] at a0
   have hrd : rd (rdS st s).f2 0 = (rdS st s).f2[0]'(by omega) := by
    unfold rd; rw [List.getD_eq_getElem?_getD, List.getElem?_eq_getElem (by simpa using (show 0 < (rdS st s).f2.length by omega))]; rfl
   rw [← hrd] at a0
   have HA0 : Hid (∀ wx, Below wB.heap.size wB wx → wx.cell? ad2 = some (.int .i64 (rd (rdS st s).f2 0))) := Lib.hid (fun wx hb => (World.cell?_of_block (hb.block _ (cell_lt a0))).trans a0)
   have a3 := HA0.out _ HM3.out.low
   have p3 : ((0 : Int) < ((rdS st s).f2.length : Int)) = True := eq_true (by omega)
   have p4 : (0 < (rdS st s).f2.length) = True := eq_true (by omega)
   have HL0 := Lib.hid l0
   clear k2 HGn hG2 hrd l1 l0
   generalize rd (rdS st s).f2 0 = y at *
   go_wp2_with fail
   refine (HD.out w3 _ y HM3.out HF.out HL0.out).mono ?_
   rintro e w4 ⟨rfl, hm4, hc4⟩
   have HM4 := Lib.hid hm4
   have HF4 := Lib.hid (Nat.le_trans (Ent.dwnE_left (shOf st hs) f (x ||| 2 ^ s.toNat, n) y) HF.out)
   have HC4 := Lib.hid (HC3.out.trans hc4)
   have b2' : w4.cell? ⟨w.heap.size, 2, none⟩ = some (.slice (some ad2) (rdS st s).f2.length c2) := blk_cell (hc4.blk HX3.out hgs) 2
   have a4 := HA0.out _ hm4.low
   clear hm4 hc4 b0 b2 a3
   go_wp2_with fail
   refine (abv_any HC.out HD.out w4 _ HM4.out HF4.out y s).mono ?_
   rw [HG.out]
   rintro e w5 ⟨rfl, hm5, hc5⟩
   have HM5 := Lib.hid hm5
   have HC5 := Lib.hid (HC4.out.trans hc5)
   clear hm5 hc5
   go_wp2_with fail
   go_end0
   exact ⟨rfl, HM5.out, HC5.out⟩
  ·have e2 : ((rdS st s).f0 == 2) = false := beq_eq_false_iff_ne.mpr k2
   have hG2 := HGn.out
   rw [if_neg k2] at hG2
   by_cases k3 : (rdS st s).f0 = 3
   ·have e3 : ((rdS st s).f0 == 3) = true := beq_iff_eq.mpr k3
    rw [if_pos k3] at hG2
    have HG := Lib.hid hG2
    clear k2 k3 hG2 HGn
    go_wp2_with fail
    refine (regs_any HC.out HD.out w3 _ HM3.out HF.out s).mono ?_
    rw [HG.out]
    rintro e w5 ⟨rfl, hm5, hc5⟩
    have HM5 := Lib.hid hm5
    have HC5 := Lib.hid (HC3.out.trans hc5)
    clear hm5 hc5
    go_wp2_with fail
    go_end0
    exact ⟨rfl, HM5.out, HC5.out⟩
   ·have e3 : ((rdS st s).f0 == 3) = false := beq_eq_false_iff_ne.mpr k3
    rw [if_neg k3] at hG2
    have HG := Lib.hid hG2
    clear k2 k3 hG2 HGn
    go_wp2_with fail
    go_end0
    exact ⟨rfl, by rw [← HG.out]; exact HM3.out, HC3.out⟩
theorem dw_any (hC : AdC wB g v A B ca cb st tr H hc hs) (f : Nat) : DW wB g v A B ca cb st tr H hc hs f := by
 induction f with
 | zero =>
  intro w S s h hf h0
  exact dwn_stop hC w S h s (.inl (by omega))
 | succ f ih =>
  rintro w ⟨x, n⟩ s h hf h0
  by_cases hz : n = 0 ∨ (st.length : Int) ≤ s
  ·have e : Ent.dwnE (shOf st hs) (f + 1) (x, n) s = (x, n) := by
    simp only [Ent.dwnE]; exact if_pos hz
   rw [e]
   exact dwn_stop hC w (x, n) h s hz
  ·obtain ⟨m, rfl⟩ : ∃ m, n = m + 1 := ⟨n - 1, by omega⟩
   exact dwn_go hC ih w x m h (by simp only at hf; omega) s ⟨h0, by omega⟩
end
end Go.Proofs.YtemoonhnncopoaaGreatDoor
end
section
namespace Go.Proofs.YtemoonhnncopoaaGreatDoor
open Go.RowKit Go.Proofs.YtemoonhnncopoaaGreatDoorW.PrintWords Go.Proofs.YtemoonhnncopoaaGreatDoorW.PrintLast
open PX (T V)
section
variable {ops : Array Oper} {Q : Exit → Act → World → Prop} {rest : List Oper} {a : Act} {o : Oper}
theorem inn_append4 {W : World} (hgd : o.guard = none) (s x : Operand)
  (ho : o.op = .call { callee := .builtin .append, args := #[s, x], argTypes := #[27, 27] })
  (B : Nat) (v : Value) (xs : List Int) (p : Int) (hs : a.eval s = v) (N : Nat) (hx : a.eval x = .slice (some ⟨N, 0, none⟩) 1 1) (hN : N = W.heap.size)
  (HO : InnR W B v xs) (hB : B ≤ W.heap.size) (hl : xs.length < 1000000)
  (h : ∀ v1 w1, InnR w1 B v1 (xs ++ [p]) → Below B W w1 → W.grownBy w1 v.ownBlock → (v1.ownBlock = v.ownBlock ∨ ∃ b, v1.ownBlock = some b ∧ W.heap.size ≤ b) → wpList Tryz.prog ops Q rest (a.put o.dst v1) w1) :
  wpList Tryz.prog ops Q (o :: rest) a (W.alloc (.cells #[.int .i64 p] 3)) := by
 subst hN
 exact Kd.R_append (Kd.int .i64) (w0 := W) B hgd s x 27 3 (.int .i64 0) 8 ho Tryz.underlying27 (by kernel_rfl) rfl (by decide) (by omega) v xs p [.int .i64 p]
  (fun _ => True) (fun _ => False) hs hx rfl (fun _ hk => hk.elim) (fun _ _ => trivial) HO (Below.refl _ _) hB (by omega) h
end
def realX (st : List Sta) (out : List Int) (xs : List Int) : List Int := xs.foldl (fun out x => if kindP st x ≠ 0 ∧ out.contains x = false then out ++ [x] else out) out
def realL (st : List Sta) (hs : List Int) (s : Int) : List Int := if kindP st s = 5 ∨ kindP st s = 6 then (shOf st hs).stands s else [s]
def realS (st : List Sta) (hs : List Int) (out : List Int) (s : Int) : List Int := if kindP st s = 0 then out else realX st out (realL st hs s)
def realP (st : List Sta) (hs : List Int) (l : List Int) : List Int := l.foldl (realS st hs) []
theorem kindP_ne {v : Int} {st : List Sta} {tr : List Tra} (h : chkP v st tr = .none) (s : Int) : kindP st s ≠ 0 ↔ thS st s := by
 unfold kindP
 constructor
 ·intro hk
  split at hk
  ·assumption
  ·exact absurd rfl hk
 ·intro ht
  rw [if_pos ht]
  have := good_kind h ht
  omega
section
variable {g : Nat} {v : Int} {st : List Sta} {tr : List Tra} {H : Option Addr} {hc : Nat} {hs : List Int}
theorem real_any (w : World) (hw : LaidZ w) (hT : TrM w g v st tr) (good : chkP v st tr = .none) (hF : fewP st tr = true) (hH : (Kd.int .u32).C w H hs.length hs) (hhc : hs.length ≤ hc) (hhl : hs.length ≤ 100000) (hhb : ∀ x ∈ hs, 0 ≤ x ∧ x < 4294967296)
  (E : Option Addr) (cap : Nat) (l : List Int) (hE : NumsC w E l.length l) (hcap : l.length ≤ cap) (hll : l.length ≤ 1000) :
  Calls Tryz.prog 36 #[.pointer (some ⟨g, 0, none⟩), .slice H hs.length hc, .slice E l.length cap] w fun e w' => ∃ u : Value, e = .returned u ∧ InnR w' w.heap.size u (realP st hs l) ∧ Below w.heap.size w w' := by
 have HT := Lib.hid hT
 have HGood := Lib.hid good
 have HWZ := Lib.hid hw
 have HH := Lib.hid hH
 have HHb := Lib.hid hhb
 have HE := Lib.hid (Rd.of hE)
 have HElow : Hid (∀ ad, E = some ad → ad.block < w.heap.size ∨ l.length = 0) := Lib.hid (fun ad h => nums_low hE h)
 obtain ⟨⟨_, _, hn1, hn, hn2⟩, _⟩ := chk_none good
 obtain ⟨hS, hTr⟩ := few_s hF
 generalize hG : realP st hs l = G
 have HG : Hid (l.foldl (realS st hs) [] = G) := Lib.hid hG
 clear hT good hw hH hhb hE hF hG
 go_enter Tryz.func36, Tryz.ntmps36
 go_wp2_with fail
 refine (tchart_any HT.out (by omega) (by omega) (by omega) hS hTr).mono ?_
 rintro e w1 ⟨gS, ca, B, cb, rfl, hM, hb1, _, _, _⟩
 have hC : AdC w1 g v (some ⟨gS, 0, none⟩) B ca cb st tr H hc hs := ⟨HT.out.below hb1, hM, Kd.C_below HH.out hb1, hhc, hhl, HHb.out, HWZ.out.below hb1, HGood.out⟩
 have HC := Lib.hid hC
 have hal : Below w1.heap.size w1 (w1.alloc (.cells #[.int .i64 v, .slice (some ⟨gS, 0, none⟩) st.length ca, .slice B tr.length cb] 47)) := (Below.refl _ w1).alloc (Nat.le_refl _) _
 have HAl := Lib.hid hal
 have HX := Lib.hid (blk_new w1 (.cells #[.int .i64 v, .slice (some ⟨gS, 0, none⟩) st.length ca, .slice B tr.length cb] 47))
 have HB0 := Lib.hid (below_then hb1 hb1.size hal)
 have HSz : Hid (w1.heap.size < (w1.alloc (.cells #[.int .i64 v, .slice (some ⟨gS, 0, none⟩) st.length ca, .slice B tr.length cb] 47)).heap.size) := Lib.hid (by simp)
 have HS1 := Lib.hid hb1.size
 clear hM hb1 hC hal hS hTr HH HHb HT HWZ
 go_wp2_with fail
 generalize w1.alloc (.cells #[.int .i64 v, .slice (some ⟨gS, 0, none⟩) st.length ca, .slice B tr.length cb] 47) = w2 at HAl HX HB0 HSz ⊢
 have HE2 := Lib.hid (HE.out.chg' (S := fun _ => False) (Chg.of_below HB0.out) (fun _ _ => .inl (fun h => h)))
 go_loopw [7, 20] (fun u i wr => ∃ (q : Nat) (acc : List Int) (z : Value), z = u ∧ i = .int .i64 q ∧ q ≤ l.length ∧ acc.length ≤ 32 * q ∧ Hid (InnR wr w2.heap.size z acc) ∧ Hid ((l.drop q).foldl (realS st hs) acc = G) ∧ Hid (Below w2.heap.size w2 wr)) (fun _ i _ => l.length - (intOf i).toNat)
 case atStart => exact ⟨0, [], _, rfl, rfl, Nat.zero_le _, Nat.le_refl _, Lib.hid (Kd.R_nil _ _ _ _ _), Lib.hid (by rw [List.drop_zero]; exact HG.out), Lib.hid (Below.refl _ _)⟩
 case round =>
  clear HG
  obtain ⟨q, acc, z, rfl, rfl, hq, hacc, HO, HR, HB⟩ := hrel
  have hlow : Below w1.heap.size w1 wr := HAl.out.trans (HB.out.mono (by have := HSz.out; omega))
  have HLow := Lib.hid hlow
  clear hlow
  by_cases hlt : q < l.length
  ·obtain ⟨ad, rfl, a0⟩ := (HE2.out.chg' (S := fun _ => False) (Chg.of_below HB.out) (fun _ _ => .inl (fun h => h))) q hlt
   have hds : l.drop q = l[q] :: l.drop (q + 1) := List.drop_eq_getElem_cons hlt
   have HR2 := HR.out
   rw [hds, List.foldl_cons] at HR2
   have p1 : ((q : Int) < (l.length : Int)) = True := eq_true (by omega)
   clear hds HR
   generalize l[q] = s at *
   by_cases hk : kindP st s = 0
   ·have HR3 : Hid ((l.drop (q + 1)).foldl (realS st hs) acc = G) := Lib.hid (by rw [← HR2]; unfold realS; rw [if_pos hk])
    have HK := Lib.hid hk
    clear HR2 hk
    go_wp2_with fail
    refine (tkind_any (HC.out.T.below HLow.out) s).mono ?_
    rw [HK.out]
    rintro e w3 ⟨rfl, hb3⟩
    have HB3 := Lib.hid (below_then HB.out HB.out.size hb3)
    have HO3 := Lib.hid (Kd.R_below HO.out hb3)
    clear hb3 a0
    go_wp2_with fail
    go_roundw
    case rel => exact ⟨q + 1, acc, _, rfl, by go_num, by omega, by omega, HO3, HR3, HB3⟩
    case measure => simp [intOf]; omega
   ·have ht := (kindP_ne HGood.out s).1 hk
    have hkk := good_kind HGood.out ht
    have hke : kindP st s = (rdS st s).f0 := if_pos ht
    have d0 : (kindP st s == 0) = false := beq_eq_false_iff_ne.mpr hk
    have HTs := Lib.hid ht
    have HKe := Lib.hid hke
    have HR3 : Hid ((l.drop (q + 1)).foldl (realS st hs) (realX st acc (realL st hs s)) = G) := Lib.hid (by rw [← HR2]; simp only [realS]; rw [if_neg hk])
    clear HR2 hk ht hke hkk
    go_wp2_with fail
    refine (tkind_any (HC.out.T.below HLow.out) s).mono ?_
    rintro e w3 ⟨rfl, hb3⟩
    have HB3 := Lib.hid (below_then HB.out HB.out.size hb3)
    have HO3 := Lib.hid (Kd.R_below HO.out hb3)
    have HLow3 := Lib.hid (HLow.out.trans (hb3.mono HLow.out.size))
    clear hb3 a0
    have hal : Below w3.heap.size w3 (w3.alloc (.cells #[.int .i64 s] 3)) := (Below.refl _ w3).alloc (Nat.le_refl _) _
    have HB4 := Lib.hid (below_then HB3.out HB3.out.size hal)
    have HO4 := Lib.hid (Kd.R_below HO3.out hal)
    have HLow4 := Lib.hid (HLow3.out.trans (hal.mono HLow3.out.size))
    have HN4 := Lib.hid (Rd.of (one_new (blk_new w3 (.cells #[.int .i64 s] 3))))
    have HUl : Hid (∀ b, z.ownBlock = some b → b < w3.heap.size) := Lib.hid (fun b hb => by
     obtain ⟨inner, ho⟩ := Kd.R_own HO3.out
     exact (own_lt ho b hb).2)
    go_wp2_with fail
    generalize w3.alloc (.cells #[.int .i64 s] 3) = w4 at HB4 HO4 HLow4 HN4 hal ⊢
    generalize hvs : Value.slice (some ⟨w3.heap.size, 0, none⟩) 1 1 = vs
    have HVs := Lib.hid hvs
    clear hvs
    refine (tkind_any (HC.out.T.below HLow4.out) s).mono ?_
    rintro e w5 ⟨rfl, hb5⟩
    have HB5 := Lib.hid (below_then HB4.out HB4.out.size hb5)
    have HO5 := Lib.hid (Kd.R_below HO4.out hb5)
    have HLow5 := Lib.hid (HLow4.out.trans (hb5.mono HLow4.out.size))
    have HN5 := Lib.hid (HN4.out.chg' (S := fun _ => False) (Chg.of_below hb5) (fun _ _ => .inl (fun h => h)))
    have HS5 := Lib.hid (Nat.le_trans hal.size hb5.size)
    clear hb5 hal
    go_wp2_with fail
    -- what s stands for
    have hcase : ((rdS st s).f0 = 5 ∨ (rdS st s).f0 = 6) ∨ ¬ ((rdS st s).f0 = 5 ∨ (rdS st s).f0 = 6) := Classical.em _
    rcases hcase with hh | hh
    case' inl =>
     refine (ehist_any (kindP st s) _ (decide_eq_true (by rw [HKe.out]; exact hh))).mono ?_
     rintro e w6 ⟨rfl, h6⟩
     rw [h6]
     have hx5 := ((HB5.out.block _ (lt_of_block HX.out)).trans HX.out)
     obtain ⟨x0, x1, x2⟩ : w5.cell? ⟨w1.heap.size, 0, none⟩ = some (.int .i64 v) ∧ w5.cell? ⟨w1.heap.size, 1, none⟩ = some (.slice (some ⟨gS, 0, none⟩) st.length ca) ∧ w5.cell? ⟨w1.heap.size, 2, none⟩ = some (.slice B tr.length cb) := ⟨blk_cell hx5 0, blk_cell hx5 1, blk_cell hx5 2⟩
     have hrl : realL st hs s = (shOf st hs).stands s := if_pos (by rw [HKe.out]; exact hh)
     have HR4 := HR3.out
     rw [hrl] at HR4
     have HR5 := Lib.hid HR4
     have hsl := std_len HGood.out hs HTs.out hh
     clear h6 hx5 hrl HR3 HR4 hh
     go_wp2_with fail
     refine (stands_any HC.out w5 HLow5.out s HTs.out).mono ?_
     rintro e w6 ⟨F, c6, rfl, hF6, hc6, hfar, hb6⟩
     have HB6 := Lib.hid (below_then HB5.out HB5.out.size hb6)
     have HO6 := Lib.hid (Kd.R_below HO5.out hb6)
     have HLow6 := Lib.hid (HLow5.out.trans (hb6.mono HLow5.out.size))
     have HN6 := Lib.hid (Rd.of hF6)
     have HSep : Hid (∀ b, z.ownBlock = some b → ∀ ad, F = some ad → ¬ ad.block = b ∨ ((shOf st hs).stands s).length = 0) := Lib.hid (fun b hb ad hd => by
      have h1 := HUl.out b hb
      obtain ⟨inner, ho⟩ := Kd.R_own HO3.out
      have h2 := (own_lt ho b hb).1
      have h3 := HSz.out
      have h4 := HS5.out
      rcases hfar ad hd with h | h | h
      ·exact .inl (by omega)
      ·exact .inl (by omega)
      ·exact .inr h)
     clear hF6 hc6 hfar hb6 x0 x1 x2
     go_wp2_with fail
     generalize (shOf st hs).stands s = real at *
    case' inr =>
     refine (ehist_any (kindP st s) _ (decide_eq_false (by rw [HKe.out]; exact hh))).mono ?_
     rintro e w6 ⟨rfl, h6⟩
     rw [h6]
     have hrl : realL st hs s = [s] := if_neg (by rw [HKe.out]; exact hh)
     have HR4 := HR3.out
     rw [hrl] at HR4
     have HR5 := Lib.hid HR4
     obtain ⟨F, c6, real, w6, e1, e2, e3, e6⟩ : ∃ (F : Option Addr) (c6 : Nat) (real : List Int) (w6 : World), F = some ⟨w3.heap.size, 0, none⟩ ∧ real = [s] ∧ vs = .slice F real.length c6 ∧ w6 = w5 := ⟨_, 1, [s], w5, rfl, rfl, HVs.out.symm, rfl⟩
     have hsl : real.length ≤ 32 := by rw [e2]; simp
     have HSep : Hid (∀ b, z.ownBlock = some b → ∀ ad, F = some ad → ¬ ad.block = b ∨ real.length = 0) := Lib.hid (fun b hb ad hd => by
      have h1 := HUl.out b hb
      rw [e1] at hd
      obtain rfl := Option.some.inj hd
      exact .inl (by show ¬ w3.heap.size = b; omega))
     have HB6 : Hid (Below w2.heap.size w2 w6) := Lib.hid (by rw [e6]; exact HB5.out)
     have HO6 : Hid (InnR w6 w2.heap.size z acc) := Lib.hid (by rw [e6]; exact HO5.out)
     have HLow6 : Hid (Below w1.heap.size w1 w6) := Lib.hid (by rw [e6]; exact HLow5.out)
     have HN6 : Hid (Rd w6 F real) := Lib.hid (by rw [e6, e1, e2]; exact HN5.out)
     have HR6 := HR5.out
     rw [← e2] at HR6
     rw [← e6]
     have HR5 := Lib.hid HR6
     clear HVs h6 hrl HR3 HR4 hh e6 e1 e2 HR6
     subst e3
     go_wp2_with fail
    all_goals
     clear HB5 HO5 HLow5 HN5 HUl HO3 HO4 HB3 HB4 HLow3 HLow4 HS5 HO HB HLow
     go_loopw [7, 40] (fun u i wr => ∃ (j : Nat) (acc2 : List Int) (z2 : Value), z2 = u ∧ i = .int .i64 j ∧ j ≤ real.length ∧ acc2.length ≤ acc.length + j ∧ Hid (InnR wr w2.heap.size z2 acc2) ∧ Hid ((l.drop (q + 1)).foldl (realS st hs) (realX st acc2 (real.drop j)) = G) ∧ Hid (Below w2.heap.size w2 wr) ∧ Hid (Rd wr F real) ∧ Hid (∀ b, z2.ownBlock = some b → ∀ ad, F = some ad → ¬ ad.block = b ∨ real.length = 0)) (fun _ i _ => real.length - (intOf i).toNat)
     case atStart => exact ⟨0, acc, _, rfl, rfl, Nat.zero_le _, Nat.le_refl _, HO6, Lib.hid (by rw [List.drop_zero]; exact HR5.out), HB6, HN6, HSep⟩
     case round =>
      clear HO6 HR5 HB6 HN6 HSep HLow6
      obtain ⟨j, acc2, z2, rfl, rfl, hj, hacc2, HO, HR, HB, HN, HSep⟩ := hrel
      have hlow : Below w1.heap.size w1 wr := HAl.out.trans (HB.out.mono (by have := HSz.out; omega))
      have HLow := Lib.hid hlow
      clear hlow
      by_cases hlt2 : j < real.length
      ·obtain ⟨ad2, rfl, a0⟩ := HN.out j hlt2
       have hds : real.drop j = real[j] :: real.drop (j + 1) := List.drop_eq_getElem_cons hlt2
       have HR2 := HR.out
       rw [hds] at HR2
       have p2 : ((j : Int) < (real.length : Int)) = True := eq_true (by omega)
       clear hds HR
       generalize real[j] = x at *
       by_cases hkx : kindP st x = 0
       ·have HR3 : Hid ((l.drop (q + 1)).foldl (realS st hs) (realX st acc2 (real.drop (j + 1))) = G) := Lib.hid (by rw [← HR2]; simp only [realX, List.foldl_cons]; rw [if_neg (fun h => h.1 hkx)])
        have HK := Lib.hid hkx
        clear HR2 hkx
        go_wp2_with fail
        refine (tkind_any (HC.out.T.below HLow.out) x).mono ?_
        rw [HK.out]
        rintro e w7 ⟨rfl, hb7⟩
        have HB7 := Lib.hid (below_then HB.out HB.out.size hb7)
        have HO7 := Lib.hid (Kd.R_below HO.out hb7)
        have HN7 := Lib.hid (HN.out.chg' (S := fun _ => False) (Chg.of_below hb7) (fun _ _ => .inl (fun h => h)))
        clear hb7 a0
        go_wp2_with fail
        go_roundw
        case rel => exact ⟨j + 1, acc2, _, rfl, by go_num, by omega, by omega, HO7, HR3, HB7, HN7, HSep⟩
        case measure => simp [intOf]; omega
       ·have dx : (kindP st x != 0) = true := bne_iff_ne.mpr hkx
        have HKx := Lib.hid hkx
        go_wp2_with fail
        refine (tkind_any (HC.out.T.below HLow.out) x).mono ?_
        clear hkx
        rintro e w7 ⟨rfl, hb7⟩
        have HB7 := Lib.hid (below_then HB.out HB.out.size hb7)
        have HO7 := Lib.hid (Kd.R_below HO.out hb7)
        have HN7 := Lib.hid (HN.out.chg' (S := fun _ => False) (Chg.of_below hb7) (fun _ _ => .inl (fun h => h)))
        clear hb7 a0
        obtain ⟨P, pc, hz⟩ := Kd.R_slice HO7.out
        subst hz
        obtain ⟨_, hpc, hP⟩ := Kd.R_reads' HO7.out
        have hal2 : acc2.length ≤ 1000000 := by omega
        go_wp2_with fail
        refine (thas_any P pc acc2 x hal2 hpc hP).mono ?_
        cases hhas : acc2.contains x with
        | true =>
         have HR3 : Hid ((l.drop (q + 1)).foldl (realS st hs) (realX st acc2 (real.drop (j + 1))) = G) := Lib.hid (by rw [← HR2]; simp only [realX, List.foldl_cons]; rw [if_neg (fun h => by rw [hhas] at h; cases h.2)])
         clear HR2 hhas hP
         rintro e w8 ⟨rfl, hb8⟩
         have HB8 := Lib.hid (below_then HB7.out HB7.out.size hb8)
         have HO8 := Lib.hid (Kd.R_below HO7.out hb8)
         have HN8 := Lib.hid (HN7.out.chg' (S := fun _ => False) (Chg.of_below hb8) (fun _ _ => .inl (fun h => h)))
         clear hb8
         go_wp2_with fail
         go_roundw
         case rel => exact ⟨j + 1, acc2, _, rfl, by go_num, by omega, by omega, HO8, HR3, HB8, HN8, HSep⟩
         case measure => simp [intOf]; omega
        | false =>
         have HR3 : Hid ((l.drop (q + 1)).foldl (realS st hs) (realX st (acc2 ++ [x]) (real.drop (j + 1))) = G) := Lib.hid (by rw [← HR2]; simp only [realX, List.foldl_cons]; rw [if_pos ⟨HKx.out, hhas⟩])
         clear HR2 hhas hP
         rintro e w8 ⟨rfl, hb8⟩
         have HB8 := Lib.hid (below_then HB7.out HB7.out.size hb8)
         have HO8 := Lib.hid (Kd.R_below HO7.out hb8)
         have HN8 := Lib.hid (HN7.out.chg' (S := fun _ => False) (Chg.of_below hb8) (fun _ _ => .inl (fun h => h)))
         clear hb8
         have hsz8 := HB8.out.size
         have hal3 : acc2.length < 1000000 := by omega
         go_wp2_with (at_builtin; refine inn_append4 rfl (.tmp 54) (.tmp 56) rfl w2.heap.size _ acc2 x rfl _ rfl rfl HO8.out hsz8 hal3 ?_)
         intro v1 w9 h1 h2 h3 h4
         have HB9 := Lib.hid (HB8.out.trans h2)
         have HO9 := Lib.hid h1
         have HN9 := Lib.hid (HN8.out.chg' (S := fun k => (Value.slice P acc2.length pc).ownBlock = some k) (Chg.of_grown h3 (fun k hk _ => hk)) (fun ad hd => by
          by_cases hb : (Value.slice P acc2.length pc).ownBlock = some ad.block
          ·rcases HSep.out _ hb ad hd with h | h
           ·exact absurd rfl h
           ·exact .inr h
          ·exact .inl hb))
         have HSep9 : Hid (∀ b, v1.ownBlock = some b → ∀ ad, some ad2 = some ad → ¬ ad.block = b ∨ real.length = 0) := Lib.hid (fun b hb ad hd => by
          rcases h4 with h4 | ⟨b', h4, h5⟩
          ·rw [h4] at hb; exact HSep.out b hb ad hd
          ·obtain ⟨ad3, he, hc⟩ := HN8.out j hlt2
           have hlt := cell_lt hc
           rw [add_block] at hlt
           rw [hd] at he
           obtain rfl := Option.some.inj he
           rw [h4] at hb
           obtain rfl := Option.some.inj hb
           exact .inl (by omega))
         clear h1 h2 h3 h4
         go_wp2_with fail
         go_roundw
         case rel => exact ⟨j + 1, acc2 ++ [x], _, rfl, by go_num, by omega, by rw [List.length_append, List.length_singleton]; omega, HO9, HR3, HB9, HN9, HSep9⟩
         case measure => simp [intOf]; omega
      ·obtain rfl : j = real.length := by omega
       have HR3 : Hid ((l.drop (q + 1)).foldl (realS st hs) acc2 = G) := Lib.hid (by rw [← HR.out, List.drop_length]; rfl)
       go_wp2_with fail
       go_roundw
       case rel => exact ⟨q + 1, acc2, _, rfl, by go_num, by omega, by omega, HO, HR3, HB⟩
       case measure => simp [intOf]; omega
  ·obtain rfl : q = l.length := by omega
   have HR3 : Hid (acc = G) := Lib.hid (by rw [← HR.out, List.drop_length]; rfl)
   go_wp2_with fail
   go_ret
   have h1 := HB0.out.size
   exact ⟨_, rfl, by rw [← HR3.out]; exact Kd.R_lower HO.out h1, HB0.out.trans (HB.out.mono h1)⟩
end
end Go.Proofs.YtemoonhnncopoaaGreatDoor
end
section
namespace Go.Proofs.YtemoonhnncopoaaGreatDoor
open Go.RowKit Go.Proofs.YtemoonhnncopoaaGreatDoorW.PrintWords Go.Proofs.YtemoonhnncopoaaGreatDoorW.PrintLast
open PX (T V)
structure RC (w : World) (A B : Option Addr) (ca cb : Nat) (st : List Sta) (tr : List Tra) (H : Option Addr) (hc : Nat) (hs : List Int) : Prop where
 M : ChM w A ca st B cb tr
 H : (Kd.int .u32).C w H hs.length hs
 hc : hs.length ≤ hc
 hl : hs.length ≤ 100000
 hb : ∀ x ∈ hs, 0 ≤ x ∧ x < 4294967296
end Go.Proofs.YtemoonhnncopoaaGreatDoor
end
section
namespace Go.Proofs.YtemoonhnncopoaaGreatDoor
open Go.RowKit Go.Proofs.YtemoonhnncopoaaGreatDoorW.PrintWords Go.Proofs.YtemoonhnncopoaaGreatDoorW.PrintLast
open PX (T V)
def setD (st : List Sta) (hs : List Int) (S : Ent.ES) (s : Int) : Ent.ES := if kindP st s ≠ 0 then Ent.dwnE (shOf st hs) 4000 S s else S
def setA (st : List Sta) (hs : List Int) (fr : Int) (S : Ent.ES) (s : Int) : Ent.ES := Ent.abvE (shOf st hs) (Ent.dwnE (shOf st hs) 4000) S s fr
def setP (st : List Sta) (hs : List Int) (fr : Int) (l : List Int) : Nat := ((realP st hs l).foldl (setA st hs fr) (l.foldl (setD st hs) (0, 4000))).1
theorem setA_left (st : List Sta) (hs : List Int) (fr : Int) (S : Ent.ES) (s : Int) : (setA st hs fr S s).2 ≤ S.2 := Ent.abvL_left (Ent.dwnE_left _ _) _ _ _
theorem realX_len (st : List Sta) (xs : List Int) : ∀ out : List Int, (realX st out xs).length ≤ out.length + xs.length := by
 induction xs with
 | nil => intro out; exact Nat.le_refl _
 | cons x xs ih =>
  intro out
  simp only [realX, List.foldl_cons, List.length_cons]
  refine Nat.le_trans (ih _) ?_
  split
  ·rw [List.length_append, List.length_singleton]; omega
  ·omega
theorem real_len {v : Int} {st : List Sta} {tr : List Tra} (h : chkP v st tr = .none) (hs l : List Int) : (realP st hs l).length ≤ 32 * l.length := by
 have key : ∀ (l acc : List Int), (l.foldl (realS st hs) acc).length ≤ acc.length + 32 * l.length := by
  intro l
  induction l with
  | nil => intro acc; exact Nat.le_refl _
  | cons s l ih =>
   intro acc
   rw [List.foldl_cons]
   refine Nat.le_trans (ih _) ?_
   have : (realS st hs acc s).length ≤ acc.length + 32 := by
    unfold realS
    by_cases hk : kindP st s = 0
    ·rw [if_pos hk]; omega
    ·rw [if_neg hk]
     have ht := (kindP_ne h s).1 hk
     have hke : kindP st s = (rdS st s).f0 := if_pos ht
     refine Nat.le_trans (realX_len _ _ _) ?_
     unfold realL
     split
     ·rename_i hh
      rw [hke] at hh
      have := std_len h hs ht hh
      omega
     ·simp
   rw [List.length_cons]
   omega
 have := key l []
 rw [List.length_nil, Nat.zero_add] at this
 exact this
theorem rd_c {w : World} {A : Option Addr} {l : List Int} (h : Rd w A l) (hl : l.length ≤ 9223372036854775807) : NumsC w A l.length l := by
 refine ⟨rfl, hl, fun h0 => ?_⟩
 obtain ⟨ad, rfl, _⟩ := h 0 h0
 refine ⟨ad, rfl, fun j p hj => ?_⟩
 obtain ⟨hjl, rfl⟩ := List.getElem?_eq_some_iff.1 hj
 obtain ⟨ad2, e, h2⟩ := h j hjl
 obtain rfl := Option.some.inj e
 refine ⟨[.int .i64 l[j]], rfl, rfl, fun i u hi => ?_⟩
 match i, hi with
 | 0, hi =>
  simp only [List.getElem?_cons_zero, Option.some.injEq] at hi
  subst hi
  have e : j * (Kd.int .i64).sz + 0 = j := by show j * 1 + 0 = j; omega
  rw [e]; exact h2
 | n + 1, hi => simp at hi
section
variable {g : Nat} {v : Int} {st : List Sta} {tr : List Tra} {H : Option Addr} {hc : Nat} {hs : List Int}
theorem eset_any (w : World) (hw : LaidZ w) (hT : TrM w g v st tr) (good : chkP v st tr = .none) (hF : fewP st tr = true) (hH : (Kd.int .u32).C w H hs.length hs) (hhc : hs.length ≤ hc) (hhl : hs.length ≤ 100000) (hhb : ∀ x ∈ hs, 0 ≤ x ∧ x < 4294967296)
  (fr : Int) (E : Option Addr) (cap : Nat) (l : List Int) (hE : NumsC w E l.length l) (hcap : l.length ≤ cap) (hll : l.length ≤ 1000) :
  Calls Tryz.prog 39 #[.pointer (some ⟨g, 0, none⟩), .slice H hs.length hc, .int .i64 fr, .slice E l.length cap] w fun e w' => e = .returned (.int .u32 (setP st hs fr l : Nat)) ∧ setP st hs fr l < 4294967296 ∧ Below w.heap.size w w' := by
 have HT := Lib.hid hT
 have HGood := Lib.hid good
 have HF := Lib.hid hF
 have HWZ := Lib.hid hw
 have HH := Lib.hid hH
 have HHb := Lib.hid hhb
 have HEn := Lib.hid hE
 have HElow : Hid (∀ ad, E = some ad → ad.block < w.heap.size ∨ l.length = 0) := Lib.hid (fun ad h => nums_low hE h)
 have HRl := Lib.hid (real_len good hs l)
 obtain ⟨⟨_, _, hn1, hn, hn2⟩, _⟩ := chk_none good
 obtain ⟨hS, hTr⟩ := few_s hF
 generalize hG : setP st hs fr l = G
 have HG : Hid (((realP st hs l).foldl (setA st hs fr) (l.foldl (setD st hs) (0, 4000))).1 = G) := Lib.hid hG
 clear hT good hw hH hhb hE hF hG
 go_enter Tryz.func39, Tryz.ntmps39
 go_wp2_with fail
 refine (tchart_any HT.out (by omega) (by omega) (by omega) hS hTr).mono ?_
 rintro e w1 ⟨gS, ca, B, cb, rfl, hM, hb1, _, _, _⟩
 have hC : AdC w1 g v (some ⟨gS, 0, none⟩) B ca cb st tr H hc hs := ⟨HT.out.below hb1, hM, Kd.C_below HH.out hb1, hhc, hhl, HHb.out, HWZ.out.below hb1, HGood.out⟩
 have HC := Lib.hid hC
 have hal : Below w1.heap.size w1 (w1.alloc (adO g v (some ⟨gS, 0, none⟩) B st.length tr.length ca cb H hs.length hc (0, 4000))) := (Below.refl _ w1).alloc (Nat.le_refl _) _
 have HM : Hid (AdM w1 g v (some ⟨gS, 0, none⟩) B st.length tr.length ca cb H hs.length hc (w1.alloc (adO g v (some ⟨gS, 0, none⟩) B st.length tr.length ca cb H hs.length hc (0, 4000))) (0, 4000)) := Lib.hid ⟨hal, blk_new w1 _, by decide, Nat.le_refl _⟩
 have HB1 := Lib.hid hb1
 have HR0 := Lib.hid (Rd.of (Kd.C_below HEn.out (below_then hb1 hb1.size hal)))
 have HFar : Hid (∀ ad, E = some ad → ¬ ad.block = w1.heap.size ∨ l.length = 0) := Lib.hid (fun ad h => by
  rcases HElow.out ad h with h | h
  ·have := hb1.size; exact .inl (by omega)
  ·exact .inr h)
 have HH2 := HH
 have HHb2 := HHb
 have HT2 := HT
 have HWZ2 := HWZ
 clear hM hb1 hC hal hS hTr HH HHb HT HWZ HEn
 go_wp2_with fail
 generalize w1.alloc (adO g v (some ⟨gS, 0, none⟩) B st.length tr.length ca cb H hs.length hc (0, 4000)) = w2 at HM HR0 ⊢
 go_loopw [24] (fun i wr => ∃ (q : Nat) (T : Ent.ES), i = .int .i64 q ∧ q ≤ l.length ∧ Hid (AdM w1 g v (some ⟨gS, 0, none⟩) B st.length tr.length ca cb H hs.length hc wr T) ∧ Hid (T.2 ≤ 4000) ∧ Hid ((l.drop q).foldl (setD st hs) T = l.foldl (setD st hs) (0, 4000)) ∧ Hid (Rd wr E l)) (fun i _ => l.length - (intOf i).toNat)
 case atStart => exact ⟨0, _, rfl, Nat.zero_le _, HM, Lib.hid (Nat.le_refl _), Lib.hid (by rw [List.drop_zero]), HR0⟩
 case round =>
  clear HM HR0
  obtain ⟨q, T, rfl, hq, HM, HF4, HE, HR⟩ := hrel
  by_cases hlt : q < l.length
  ·obtain ⟨ad, rfl, a0⟩ := HR.out q hlt
   have hds : l.drop q = l[q] :: l.drop (q + 1) := List.drop_eq_getElem_cons hlt
   have HE2 := HE.out
   rw [hds, List.foldl_cons] at HE2
   have p1 : ((q : Int) < (l.length : Int)) = True := eq_true (by omega)
   clear hds HE
   generalize l[q] = s at *
   by_cases hk : kindP st s = 0
   ·have HE3 : Hid ((l.drop (q + 1)).foldl (setD st hs) T = l.foldl (setD st hs) (0, 4000)) := Lib.hid (by rw [← HE2]; simp only [setD]; rw [if_neg (fun h => h hk)])
    have HK := Lib.hid hk
    clear HE2 hk
    go_wp2_with fail
    refine (tkind_any (HC.out.T.below HM.out.low) s).mono ?_
    rw [HK.out]
    rintro e w3 ⟨rfl, hb3⟩
    have HM3 := Lib.hid (HM.out.step hb3)
    have HR3 := Lib.hid (HR.out.chg' (S := fun _ => False) (Chg.of_below hb3) (fun _ _ => .inl (fun h => h)))
    clear hb3 a0
    go_wp2_with fail
    go_roundw
    case rel => exact ⟨q + 1, T, by go_num, by omega, HM3, HF4, HE3, HR3⟩
    case measure => simp [intOf]; omega
   ·have HE3 : Hid ((l.drop (q + 1)).foldl (setD st hs) (Ent.dwnE (shOf st hs) 4000 T s) = l.foldl (setD st hs) (0, 4000)) := Lib.hid (by rw [← HE2]; simp only [setD]; rw [if_pos hk])
    have HTh := Lib.hid ((kindP_ne HGood.out s).1 hk)
    have d0 : (kindP st s != 0) = true := bne_iff_ne.mpr hk
    clear HE2 hk
    go_wp2_with fail
    refine (tkind_any (HC.out.T.below HM.out.low) s).mono ?_
    rintro e w3 ⟨rfl, hb3⟩
    have HM3 := Lib.hid (HM.out.step hb3)
    have HR3 := Lib.hid (HR.out.chg' (S := fun _ => False) (Chg.of_below hb3) (fun _ _ => .inl (fun h => h)))
    clear hb3 a0
    go_wp2_with fail
    refine (dw_any HC.out 4000 w3 T s HM3.out HF4.out HTh.out.1).mono ?_
    rintro e w4 ⟨rfl, hm4, hc4⟩
    have HM4 := Lib.hid hm4
    have HF5 := Lib.hid (Nat.le_trans (Ent.dwnE_left (shOf st hs) 4000 T s) HF4.out)
    have HR4 := Lib.hid (HR3.out.chg' hc4 HFar.out)
    clear hm4 hc4
    go_wp2_with fail
    go_roundw
    case rel => exact ⟨q + 1, _, by go_num, by omega, HM4, HF5, HE3, HR4⟩
    case measure => simp [intOf]; omega
  ·obtain rfl : q = l.length := by omega
   have hE3 : l.foldl (setD st hs) (0, 4000) = T := by rw [← HE.out, List.drop_length]; rfl
   have hG3 := HG.out
   rw [hE3] at hG3
   have HG3 := Lib.hid hG3
   have hrp : (Kd.int .i64).C wr E l.length l := by
    have := HR.out
    exact rd_c this (by omega)
   have HP := Lib.hid hrp
   have hrl := HRl.out
   have HLow := Lib.hid (HB1.out.trans (HM.out.low.mono HB1.out.size))
   clear HE hE3 hG3 hrp HG HR HRl
   go_wp2_with fail
   refine (real_any wr (HWZ2.out.below HLow.out) (HT2.out.below HLow.out) HGood.out HF.out (Kd.C_below HH2.out HLow.out) hhc hhl HHb2.out E cap l HP.out hcap hll).mono ?_
   rintro e w5 ⟨u, rfl, hu, hb5⟩
   obtain ⟨F, c5, rfl⟩ := Kd.R_slice hu
   obtain ⟨_, hc5, hF5⟩ := Kd.R_reads' hu
   have HR5 := Lib.hid (Rd.of hF5)
   have HFar5 : Hid (∀ ad, F = some ad → ¬ ad.block = w1.heap.size ∨ (realP st hs l).length = 0) := Lib.hid (fun ad he => .inl (fun hh => by
    have h1 := inn_new hu ad he
    have h2 := lt_of_block HM.out.blk
    omega))
   have HM5 := Lib.hid (HM.out.step hb5)
   generalize realP st hs l = rl at *
   clear hu hF5 hb5 HM HP HLow hc5
   have hrl2 : rl.length ≤ 1000000 := by omega
   go_wp2_with fail
   go_loopw [41] (fun i wr => ∃ (q : Nat) (U : Ent.ES), i = .int .i64 q ∧ q ≤ rl.length ∧ Hid (AdM w1 g v (some ⟨gS, 0, none⟩) B st.length tr.length ca cb H hs.length hc wr U) ∧ Hid (U.2 ≤ 4000) ∧ Hid (((rl.drop q).foldl (setA st hs fr) U).1 = G) ∧ Hid (Rd wr F rl)) (fun i _ => rl.length - (intOf i).toNat)
   case atStart => exact ⟨0, T, rfl, Nat.zero_le _, HM5, HF4, Lib.hid (by rw [List.drop_zero]; exact HG3.out), HR5⟩
   case round =>
    clear HM5 HF4 HR5 HG3
    obtain ⟨q, U, rfl, hq, HM, HF4, HE, HR⟩ := hrel
    by_cases hlt : q < rl.length
    ·obtain ⟨ad, rfl, a0⟩ := HR.out q hlt
     have hds : rl.drop q = rl[q] :: rl.drop (q + 1) := List.drop_eq_getElem_cons hlt
     have HE2 := HE.out
     rw [hds, List.foldl_cons] at HE2
     have p1 : ((q : Int) < (rl.length : Int)) = True := eq_true (by omega)
     clear hds HE
     generalize rl[q] = s at *
     have HE := Lib.hid HE2
     clear HE2
     go_wp2_with fail
     refine (abv_any HC.out (dw_any HC.out 4000) wr U HM.out HF4.out s fr).mono ?_
     rintro e w4 ⟨rfl, hm4, hc4⟩
     have HM4 := Lib.hid hm4
     have HF5 := Lib.hid (Nat.le_trans (setA_left st hs fr U s) HF4.out)
     have HR4 := Lib.hid (HR.out.chg' hc4 HFar5.out)
     clear hm4 hc4 a0
     go_wp2_with fail
     go_roundw
     case rel => exact ⟨q + 1, _, by go_num, by omega, HM4, HF5, HE, HR4⟩
     case measure => simp [intOf]; omega
    ·obtain rfl : q = rl.length := by omega
     have HE3 : Hid (U.1 = G) := Lib.hid (by rw [← HE.out, List.drop_length]; rfl)
     obtain ⟨_, _, _, _, _, y5, _⟩ := HM.out.cells
     clear HE
     go_wp2_with fail
     go_ret
     exact ⟨by rw [← HE3.out]; rfl, by rw [← HE3.out]; exact HM.out.set, HB1.out.trans (HM.out.low.mono HB1.out.size)⟩
end
end Go.Proofs.YtemoonhnncopoaaGreatDoor
end
section
namespace Go.Proofs.YtemoonhnncopoaaGreatDoor
open Go.RowKit Go.Proofs.YtemoonhnncopoaaGreatDoorW.PrintWords Go.Proofs.YtemoonhnncopoaaGreatDoorW.PrintLast
open PX (T V)
theorem states_of {W : World} {g : Nat} {cs : Array Value} (h : W.heap[g]? = some (.cells cs 54 (0, 0))) (l : List Sta) (hl : l.length ≤ 9223372036854775807)
  (row : ∀ (j : Nat) (x : Sta), l[j]? = some x → ∃ c : List Value, c.length = 5 ∧ PAll.k54.K W x c ∧ ∀ i u, c[i]? = some u → cs[j * 5 + i]? = some u) :
  Kd.C PAll.k54 W (some ⟨g, 0, none⟩) l.length l := by
 refine ⟨rfl, hl, fun _ => ⟨_, rfl, ?_⟩⟩
 intro j p hj
 obtain ⟨c, h1, h2, h3⟩ := row j p hj
 refine ⟨c, h1, h2, fun i u hu => ?_⟩
 rw [add_at, blk_cell h]
 have := h3 i u hu
 have e : 0 + (j * (PAll.k54).sz + i) = j * 5 + i := by show 0 + (j * 5 + i) = j * 5 + i; omega
 rw [e]; exact this
theorem sta_plain {W : World} (k p : Int) : PAll.k54.K W (⟨k, p, [], [], []⟩ : Sta) [.int .i64 k, .int .i64 p, .slice none 0 0, .slice none 0 0, .slice none 0 0] :=
 PAll.k54_mk W _ (A2 := none) (c2 := 0) (Nat.le_refl _) (nilC _ W) (A3 := none) (c3 := 0) (Nat.le_refl _) (nilC _ W) (A4 := none) (c4 := 0) (Nat.le_refl _) (nilC _ W)
theorem sta_ini {W : World} (k p : Int) {A0 : Option Addr} {c0 : Nat} {i0 : List Int} (hc : i0.length ≤ c0) (hi : (Kd.int .i64).C W A0 i0.length i0) : PAll.k54.K W (⟨k, p, i0, [], []⟩ : Sta) [.int .i64 k, .int .i64 p, .slice A0 i0.length c0, .slice none 0 0, .slice none 0 0] :=
 PAll.k54_mk W _ (A2 := A0) (c2 := c0) hc hi (A3 := none) (c3 := 0) (Nat.le_refl _) (nilC _ W) (A4 := none) (c4 := 0) (Nat.le_refl _) (nilC _ W)
abbrev three8 : List Sta := [⟨2, -1, [2], [], []⟩, ⟨2, 0, [2], [], []⟩, ⟨1, 1, [], [], []⟩]
theorem chk8 : chkP 0 three8 [] = .none := by
 have a0 : stateP 0 three8 0 = 0 := by simp [stateP, parP, kidsP, kidsF, iniP, histP, inC, inF, actsP, PAll.rd_T54, rd]
 have a1 : stateP 0 three8 1 = 0 := by simp [stateP, parP, kidsP, kidsF, iniP, histP, inC, inF, actsP, PAll.rd_T54, rd]
 have a2 : stateP 0 three8 2 = 0 := by simp [stateP, parP, kidsP, kidsF, iniP, histP, inC, inF, actsP, PAll.rd_T54, rd]
 simp [chkP, findBad, a0, a1, a2]
theorem few8 : fewP three8 [] = true := by decide
theorem six8 : setP three8 [] 0 [2] = 6 := by kernel_rfl
theorem seven8 : setP three8 [] (-1) [2] = 7 := by kernel_rfl
theorem eset_nil (w : World) (H E : Option Addr) (a b c d : Nat) (fr : Int) : Calls Tryz.prog 39 #[.pointer none, .slice H a b, .int .i64 fr, .slice E c d] w fun e w' => e = .returned (.int .u32 0) ∧ w' = w := by
 go_enter Tryz.func39, Tryz.ntmps39
 go_wp2_with fail
 go_ret
 exact ⟨rfl, rfl⟩
theorem up08 (w : World) (hw : LaidZ w) : Calls Tryz.prog 35 #[] w fun e w' => e = .returned (.bool true) ∧ Below w.heap.size w w' := by
 have k6 := eqErr
 have HW := Lib.hid hw
 clear hw
 go_enter Tryz.func35, Tryz.ntmps35
 go_wp2_with fail
 have e1 : (w.alloc (.cells #[.int .i64 2] 3)).heap.size = w.heap.size + 1 := by simp
 have k1 := blk_new w (.cells #[.int .i64 2] 3)
 have b1 : Below w.heap.size w (w.alloc (.cells #[.int .i64 2] 3)) := (Below.refl _ w).alloc (Nat.le_refl _) _
 generalize w.alloc (.cells #[.int .i64 2] 3) = w1 at e1 k1 b1 ⊢
 have e2 : (w1.alloc (.cells #[.int .i64 2] 3)).heap.size = w.heap.size + 1 + 1 := by simp [e1]
 have k2 := blk_new w1 (.cells #[.int .i64 2] 3)
 have b2 : Below w1.heap.size w1 (w1.alloc (.cells #[.int .i64 2] 3)) := (Below.refl _ w1).alloc (Nat.le_refl _) _
 rw [e1] at k2
 generalize w1.alloc (.cells #[.int .i64 2] 3) = w2 at e2 k2 b2 ⊢
 have k3 := blk_new w2 (.cells #[.int .i64 2, .int .i64 (-1), .slice (some ⟨w.heap.size, 0, none⟩) 1 1, .slice none 0 0, .slice none 0 0, .int .i64 2, .int .i64 0, .slice (some ⟨w.heap.size + 1, 0, none⟩) 1 1, .slice none 0 0, .slice none 0 0, .int .i64 1, .int .i64 1, .slice none 0 0, .slice none 0 0, .slice none 0 0] 54)
 have b3 : Below w2.heap.size w2 (w2.alloc (.cells #[.int .i64 2, .int .i64 (-1), .slice (some ⟨w.heap.size, 0, none⟩) 1 1, .slice none 0 0, .slice none 0 0, .int .i64 2, .int .i64 0, .slice (some ⟨w.heap.size + 1, 0, none⟩) 1 1, .slice none 0 0, .slice none 0 0, .int .i64 1, .int .i64 1, .slice none 0 0, .slice none 0 0, .slice none 0 0] 54)) := (Below.refl _ w2).alloc (Nat.le_refl _) _
 rw [e2] at k3
 generalize w2.alloc (.cells #[.int .i64 2, .int .i64 (-1), .slice (some ⟨w.heap.size, 0, none⟩) 1 1, .slice none 0 0, .slice none 0 0, .int .i64 2, .int .i64 0, .slice (some ⟨w.heap.size + 1, 0, none⟩) 1 1, .slice none 0 0, .slice none 0 0, .int .i64 1, .int .i64 1, .slice none 0 0, .slice none 0 0, .slice none 0 0] 54) = w3 at k3 b3 ⊢
 have c1 := (b3.block _ (by omega)).trans ((b2.block _ (by omega)).trans k1)
 have c2 := (b3.block _ (by omega)).trans k2
 have HB3 := Lib.hid (below_then (below_then b1 (by omega) b2) (by omega) b3)
 have HM : Hid (ChM w3 (some ⟨w.heap.size + 1 + 1, 0, none⟩) 3 three8 none 0 []) := Lib.hid ⟨states_of k3 three8 (by decide) (fun j x hj => by
  match j, hj with
  | 0, hj =>
   obtain rfl := Option.some.inj hj
   refine ⟨_, rfl, sta_ini (i0 := [2]) 2 (-1) (Nat.le_refl _) (one_new c1), fun i u hu => ?_⟩
   match i, hu with
   | 0, hu => exact hu
   | 1, hu => exact hu
   | 2, hu => exact hu
   | 3, hu => exact hu
   | 4, hu => exact hu
   | n + 5, hu => simp at hu
  | 1, hj =>
   obtain rfl := Option.some.inj hj
   refine ⟨_, rfl, sta_ini (i0 := [2]) 2 0 (Nat.le_refl _) (one_new c2), fun i u hu => ?_⟩
   match i, hu with
   | 0, hu => exact hu
   | 1, hu => exact hu
   | 2, hu => exact hu
   | 3, hu => exact hu
   | 4, hu => exact hu
   | n + 5, hu => simp at hu
  | 2, hj =>
   obtain rfl := Option.some.inj hj
   refine ⟨_, rfl, sta_plain 1 1, fun i u hu => ?_⟩
   match i, hu with
   | 0, hu => exact hu
   | 1, hu => exact hu
   | 2, hu => exact hu
   | 3, hu => exact hu
   | 4, hu => exact hu
   | n + 5, hu => simp at hu
  | n + 3, hj => simp at hj), Nat.le_refl _, nilC _ _, Nat.le_refl _⟩
 clear e1 k1 b1 e2 k2 b2 k3 b3 c1 c2
 refine (tnew_any 0 _ none 3 0 three8 [] few8 w3 (HW.out.toLaid.below HB3.out) HM.out).mono ?_
 rintro e w4 ⟨⟨p, ev, rfl, h⟩, hb4⟩
 rcases h with ⟨_, g, rfl, rfl, hg, hT⟩ | ⟨h, _⟩
 rotate_left
 ·exact absurd chk8 h
 have HT := Lib.hid hT
 have HB4 := Lib.hid (below_then HB3.out HB3.out.size hb4)
 clear hT hb4 hg
 go_wp2_with fail
 have hal : Below w4.heap.size w4 (w4.alloc (.cells #[.int .i64 2] 3)) := (Below.refl _ w4).alloc (Nat.le_refl _) _
 have HN := Lib.hid (one_new (blk_new w4 (.cells #[.int .i64 2] 3)))
 have HB5 := Lib.hid (below_then HB4.out HB4.out.size hal)
 have HT5 := Lib.hid (HT.out.below hal)
 clear hal
 generalize w4.alloc (.cells #[.int .i64 2] 3) = w5 at HN HB5 HT5 ⊢
 refine (eset_any w5 (HW.out.below HB5.out) HT5.out chk8 few8 (H := none) (hc := 0) (hs := []) (nilC _ _) (Nat.le_refl _) (by decide) (by simp) 0 (some ⟨w4.heap.size, 0, none⟩) 1 [2] HN.out (Nat.le_refl _) (by decide)).mono ?_
 rw [six8]
 rintro e w6 ⟨rfl, _, hb6⟩
 have HB6 := Lib.hid (below_then HB5.out HB5.out.size hb6)
 have HT6 := Lib.hid (HT5.out.below hb6)
 clear hb6 HN
 go_wp2_with fail
 have hal : Below w6.heap.size w6 (w6.alloc (.cells #[.int .i64 2] 3)) := (Below.refl _ w6).alloc (Nat.le_refl _) _
 have HN := Lib.hid (one_new (blk_new w6 (.cells #[.int .i64 2] 3)))
 have HB7 := Lib.hid (below_then HB6.out HB6.out.size hal)
 have HT7 := Lib.hid (HT6.out.below hal)
 clear hal
 generalize w6.alloc (.cells #[.int .i64 2] 3) = w7 at HN HB7 HT7 ⊢
 refine (eset_any w7 (HW.out.below HB7.out) HT7.out chk8 few8 (H := none) (hc := 0) (hs := []) (nilC _ _) (Nat.le_refl _) (by decide) (by simp) (-1) (some ⟨w6.heap.size, 0, none⟩) 1 [2] HN.out (Nat.le_refl _) (by decide)).mono ?_
 rw [seven8]
 rintro e w8 ⟨rfl, _, hb8⟩
 have HB8 := Lib.hid (below_then HB7.out HB7.out.size hb8)
 clear hb8 HN
 go_wp2_with fail
 have hal : Below w8.heap.size w8 (w8.alloc (.cells #[.int .i64 2] 3)) := (Below.refl _ w8).alloc (Nat.le_refl _) _
 have HB9 := Lib.hid (below_then HB8.out HB8.out.size hal)
 clear hal
 generalize w8.alloc (.cells #[.int .i64 2] 3) = w9 at HB9 ⊢
 refine (eset_nil w9 none (some ⟨w8.heap.size, 0, none⟩) 0 0 1 1 0).mono ?_
 rintro e wa ⟨rfl, rfl⟩
 go_wp2_with fail
 go_ret
 exact ⟨rfl, HB9.out⟩
end Go.Proofs.YtemoonhnncopoaaGreatDoor
end
section
namespace Go.Proofs.YtemoonhnncopoaaGreatDoor
open Go.RowKit Go.Proofs.YtemoonhnncopoaaGreatDoorW.PrintWords
open PX (T V)
open Go.Proofs.YtemoonhnncopoaaGreatDoorW.PrintLast
theorem kidsF_len (s : Int) (l : List Sta) : ∀ i : Int, (kidsF s l i).length ≤ l.length := by
 induction l with
 | nil => intro i; simp [kidsF]
 | cons x l ih => intro i; simp only [kidsF]; have := ih (i + 1); split <;> simp <;> omega
theorem kids_len (st : List Sta) (s : Int) : (kidsP st s).length ≤ st.length := kidsF_len s st 0
end Go.Proofs.YtemoonhnncopoaaGreatDoor
end
