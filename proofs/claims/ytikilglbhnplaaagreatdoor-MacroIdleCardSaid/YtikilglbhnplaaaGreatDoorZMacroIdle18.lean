/- Texts of this claim, merged (Eset, Mip, Lvs, Rap, Lea, Rdy, Gat, Del). -/
import Derived.WalkMore
import Derived.Lib.SliceRun
import Derived.Test.YtikilglbhnplaaaGreatDoorZMacroIdle17
import Derived.Test.YtikilglbhnplaaaGreatDoorZMacroIdle11
import Derived.Test.YtikilglbhnplaaaGreatDoorZMacroIdle16
set_option linter.unusedVariables false
set_option linter.unusedSimpArgs false
set_option maxRecDepth 100000
set_option maxHeartbeats 32000000
section
namespace Go.Proofs.YtikilglbhnplaaaGreatDoor
open Go.RowKit Go.Proofs.YtikilglbhnplaaaGreatDoorW.PrintWords Go.Proofs.YtikilglbhnplaaaGreatDoorW.PrintLast
open PX (T V)
def setD (st : List Sta) (hs : List Int) (S : Ent.ES) (s : Int) : Ent.ES := if kindP st s ≠ 0 then Ent.dwnE (shOf st hs) 4000 S s else S
def setA (st : List Sta) (hs : List Int) (fr : Int) (S : Ent.ES) (s : Int) : Ent.ES := Ent.abvE (shOf st hs) (Ent.dwnE (shOf st hs) 4000) S s fr
def setP (st : List Sta) (hs : List Int) (fr : Int) (l : List Int) : Nat := ((realP st hs l).foldl (setA st hs fr) (l.foldl (setD st hs) (0, 4000))).1
theorem setA_left (st : List Sta) (hs : List Int) (fr : Int) (S : Ent.ES) (s : Int) : (setA st hs fr S s).2 ≤ S.2 := Ent.abvL_left (Ent.dwnE_left _ _) _ _ _
theorem realX_len (st : List Sta) (xs : List Int) : ∀ out : List Int, (realX st out xs).length ≤ out.length + xs.length := by
 induction xs with
 | nil => intro out; exact Nat.le_refl _
 | cons x xs ih =>
  intro out
  simp only [realX, List.foldl_cons, List.length_cons]
  refine Nat.le_trans (ih _) ?_
  split
  ·rw [List.length_append, List.length_singleton]; omega
  ·omega
theorem real_len {v : Int} {st : List Sta} {tr : List Tra} (h : chkP v st tr = .none) (hs l : List Int) : (realP st hs l).length ≤ 32 * l.length := by
 have key : ∀ (l acc : List Int), (l.foldl (realS st hs) acc).length ≤ acc.length + 32 * l.length := by
  intro l
  induction l with
  | nil => intro acc; exact Nat.le_refl _
  | cons s l ih =>
   intro acc
   rw [List.foldl_cons]
   refine Nat.le_trans (ih _) ?_
   have : (realS st hs acc s).length ≤ acc.length + 32 := by
    unfold realS
    by_cases hk : kindP st s = 0
    ·rw [if_pos hk]; omega
    ·rw [if_neg hk]
     have ht := (kindP_ne h s).1 hk
     have hke : kindP st s = (rdS st s).f0 := if_pos ht
     refine Nat.le_trans (realX_len _ _ _) ?_
     unfold realL
     split
     ·rename_i hh
      rw [hke] at hh
      have := std_len h hs ht hh
      omega
     ·simp
   rw [List.length_cons]
   omega
 have := key l []
 rw [List.length_nil, Nat.zero_add] at this
 exact this
theorem rd_c {w : World} {A : Option Addr} {l : List Int} (h : Rd w A l) (hl : l.length ≤ 9223372036854775807) : NumsC w A l.length l := by
 refine ⟨rfl, hl, fun h0 => ?_⟩
 obtain ⟨ad, rfl, _⟩ := h 0 h0
 refine ⟨ad, rfl, fun j p hj => ?_⟩
 obtain ⟨hjl, rfl⟩ := List.getElem?_eq_some_iff.1 hj
 obtain ⟨ad2, e, h2⟩ := h j hjl
 obtain rfl := Option.some.inj e
 refine ⟨[.int .i64 l[j]], rfl, rfl, fun i u hi => ?_⟩
 match i, hi with
 | 0, hi =>
  simp only [List.getElem?_cons_zero, Option.some.injEq] at hi
  subst hi
  have e : j * (Kd.int .i64).sz + 0 = j := by show j * 1 + 0 = j; omega
  rw [e]; exact h2
 | n + 1, hi => simp at hi
section
variable {g : Nat} {v : Int} {st : List Sta} {tr : List Tra} {H : Option Addr} {hc : Nat} {hs : List Int}
theorem eset_any (w : World) (hw : LaidZ w) (hT : TrM w g v st tr) (good : chkP v st tr = .none) (hF : fewP st tr = true) (hH : (Kd.int .u32).C w H hs.length hs) (hhc : hs.length ≤ hc) (hhl : hs.length ≤ 100000) (hhb : ∀ x ∈ hs, 0 ≤ x ∧ x < 4294967296)
  (fr : Int) (E : Option Addr) (cap : Nat) (l : List Int) (hE : NumsC w E l.length l) (hcap : l.length ≤ cap) (hll : l.length ≤ 1000) :
  Calls Tryz.prog 13 #[.pointer (some ⟨g, 0, none⟩), .slice H hs.length hc, .int .i64 fr, .slice E l.length cap] w fun e w' => e = .returned (.int .u32 (setP st hs fr l : Nat)) ∧ setP st hs fr l < 4294967296 ∧ Below w.heap.size w w' := by
 have HT := Lib.hid hT
 have HGood := Lib.hid good
 have HF := Lib.hid hF
 have HWZ := Lib.hid hw
 have HH := Lib.hid hH
 have HHb := Lib.hid hhb
 have HEn := Lib.hid hE
 have HElow : Hid (∀ ad, E = some ad → ad.block < w.heap.size ∨ l.length = 0) := Lib.hid (fun ad h => nums_low hE h)
 have HRl := Lib.hid (real_len good hs l)
 obtain ⟨⟨_, _, hn1, hn, hn2⟩, _⟩ := chk_none good
 obtain ⟨hS, hTr⟩ := few_s hF
 generalize hG : setP st hs fr l = G
 have HG : Hid (((realP st hs l).foldl (setA st hs fr) (l.foldl (setD st hs) (0, 4000))).1 = G) := Lib.hid hG
 clear hT good hw hH hhb hE hF hG
 go_enter Tryz.func13, Tryz.ntmps13
 go_wp2_with fail
 refine (tchart_any HT.out (by omega) (by omega) (by omega) hS hTr).mono ?_
 rintro e w1 ⟨gS, ca, B, cb, rfl, hM, hb1, _, _, _⟩
 have hC : AdC w1 g v (some ⟨gS, 0, none⟩) B ca cb st tr H hc hs := ⟨HT.out.below hb1, hM, Kd.C_below HH.out hb1, hhc, hhl, HHb.out, HWZ.out.below hb1, HGood.out⟩
 have HC := Lib.hid hC
 have hal : Below w1.heap.size w1 (w1.alloc (adO g v (some ⟨gS, 0, none⟩) B st.length tr.length ca cb H hs.length hc (0, 4000))) := (Below.refl _ w1).alloc (Nat.le_refl _) _
 have HM : Hid (AdM w1 g v (some ⟨gS, 0, none⟩) B st.length tr.length ca cb H hs.length hc (w1.alloc (adO g v (some ⟨gS, 0, none⟩) B st.length tr.length ca cb H hs.length hc (0, 4000))) (0, 4000)) := Lib.hid ⟨hal, blk_new w1 _, by decide, Nat.le_refl _⟩
 have HB1 := Lib.hid hb1
 have HR0 := Lib.hid (Rd.of (Kd.C_below HEn.out (below_then hb1 hb1.size hal)))
 have HFar : Hid (∀ ad, E = some ad → ¬ ad.block = w1.heap.size ∨ l.length = 0) := Lib.hid (fun ad h => by
  rcases HElow.out ad h with h | h
  ·have := hb1.size; exact .inl (by omega)
  ·exact .inr h)
 have HH2 := HH
 have HHb2 := HHb
 have HT2 := HT
 have HWZ2 := HWZ
 clear hM hb1 hC hal hS hTr HH HHb HT HWZ HEn
 go_wp2_with fail
 generalize w1.alloc (adO g v (some ⟨gS, 0, none⟩) B st.length tr.length ca cb H hs.length hc (0, 4000)) = w2 at HM HR0 ⊢
 go_loopw [24] (fun i wr => ∃ (q : Nat) (T : Ent.ES), i = .int .i64 q ∧ q ≤ l.length ∧ Hid (AdM w1 g v (some ⟨gS, 0, none⟩) B st.length tr.length ca cb H hs.length hc wr T) ∧ Hid (T.2 ≤ 4000) ∧ Hid ((l.drop q).foldl (setD st hs) T = l.foldl (setD st hs) (0, 4000)) ∧ Hid (Rd wr E l)) (fun i _ => l.length - (intOf i).toNat)
 case atStart => exact ⟨0, _, rfl, Nat.zero_le _, HM, Lib.hid (Nat.le_refl _), Lib.hid (by rw [List.drop_zero]), HR0⟩
 case round =>
  clear HM HR0
  obtain ⟨q, T, rfl, hq, HM, HF4, HE, HR⟩ := hrel
  by_cases hlt : q < l.length
  ·obtain ⟨ad, rfl, a0⟩ := HR.out q hlt
   have hds : l.drop q = l[q] :: l.drop (q + 1) := List.drop_eq_getElem_cons hlt
   have HE2 := HE.out
   rw [hds, List.foldl_cons] at HE2
   have p1 : ((q : Int) < (l.length : Int)) = True := eq_true (by omega)
   clear hds HE
   generalize l[q] = s at *
   by_cases hk : kindP st s = 0
   ·have HE3 : Hid ((l.drop (q + 1)).foldl (setD st hs) T = l.foldl (setD st hs) (0, 4000)) := Lib.hid (by rw [← HE2]; simp only [setD]; rw [if_neg (fun h => h hk)])
    have HK := Lib.hid hk
    clear HE2 hk
    go_wp2_with fail
    refine (tkind_any (HC.out.T.below HM.out.low) s).mono ?_
    rw [HK.out]
    rintro e w3 ⟨rfl, hb3⟩
    have HM3 := Lib.hid (HM.out.step hb3)
    have HR3 := Lib.hid (HR.out.chg' (S := fun _ => False) (Chg.of_below hb3) (fun _ _ => .inl (fun h => h)))
    clear hb3 a0
    go_wp2_with fail
    go_roundw
    case rel => exact ⟨q + 1, T, by go_num, by omega, HM3, HF4, HE3, HR3⟩
    case measure => simp [intOf]; omega
   ·have HE3 : Hid ((l.drop (q + 1)).foldl (setD st hs) (Ent.dwnE (shOf st hs) 4000 T s) = l.foldl (setD st hs) (0, 4000)) := Lib.hid (by rw [← HE2]; simp only [setD]; rw [if_pos hk])
    have HTh := Lib.hid ((kindP_ne HGood.out s).1 hk)
    have d0 : (kindP st s != 0) = true := bne_iff_ne.mpr hk
    clear HE2 hk
    go_wp2_with fail
    refine (tkind_any (HC.out.T.below HM.out.low) s).mono ?_
    rintro e w3 ⟨rfl, hb3⟩
    have HM3 := Lib.hid (HM.out.step hb3)
    have HR3 := Lib.hid (HR.out.chg' (S := fun _ => False) (Chg.of_below hb3) (fun _ _ => .inl (fun h => h)))
    clear hb3 a0
    go_wp2_with fail
    refine (dw_any HC.out 4000 w3 T s HM3.out HF4.out HTh.out.1).mono ?_
    rintro e w4 ⟨rfl, hm4, hc4⟩
    have HM4 := Lib.hid hm4
    have HF5 := Lib.hid (Nat.le_trans (Ent.dwnE_left (shOf st hs) 4000 T s) HF4.out)
    have HR4 := Lib.hid (HR3.out.chg' hc4 HFar.out)
    clear hm4 hc4
    go_wp2_with fail
    go_roundw
    case rel => exact ⟨q + 1, _, by go_num, by omega, HM4, HF5, HE3, HR4⟩
    case measure => simp [intOf]; omega
  ·obtain rfl : q = l.length := by omega
   have hE3 : l.foldl (setD st hs) (0, 4000) = T := by rw [← HE.out, List.drop_length]; rfl
   have hG3 := HG.out
   rw [hE3] at hG3
   have HG3 := Lib.hid hG3
   have hrp : (Kd.int .i64).C wr E l.length l := by
    have := HR.out
    exact rd_c this (by omega)
   have HP := Lib.hid hrp
   have hrl := HRl.out
   have HLow := Lib.hid (HB1.out.trans (HM.out.low.mono HB1.out.size))
   clear HE hE3 hG3 hrp HG HR HRl
   go_wp2_with fail
   refine (real_any wr (HWZ2.out.below HLow.out) (HT2.out.below HLow.out) HGood.out HF.out (Kd.C_below HH2.out HLow.out) hhc hhl HHb2.out E cap l HP.out hcap hll).mono ?_
   rintro e w5 ⟨u, rfl, hu, hb5⟩
   obtain ⟨F, c5, rfl⟩ := Kd.R_slice hu
   obtain ⟨_, hc5, hF5⟩ := Kd.R_reads' hu
   have HR5 := Lib.hid (Rd.of hF5)
   have HFar5 : Hid (∀ ad, F = some ad → ¬ ad.block = w1.heap.size ∨ (realP st hs l).length = 0) := Lib.hid (fun ad he => .inl (fun hh => by
    have h1 := inn_new hu ad he
    have h2 := lt_of_block HM.out.blk
    omega))
   have HM5 := Lib.hid (HM.out.step hb5)
   generalize realP st hs l = rl at *
   clear hu hF5 hb5 HM HP HLow hc5
   have hrl2 : rl.length ≤ 1000000 := by omega
   go_wp2_with fail
   go_loopw [41] (fun i wr => ∃ (q : Nat) (U : Ent.ES), i = .int .i64 q ∧ q ≤ rl.length ∧ Hid (AdM w1 g v (some ⟨gS, 0, none⟩) B st.length tr.length ca cb H hs.length hc wr U) ∧ Hid (U.2 ≤ 4000) ∧ Hid (((rl.drop q).foldl (setA st hs fr) U).1 = G) ∧ Hid (Rd wr F rl)) (fun i _ => rl.length - (intOf i).toNat)
   case atStart => exact ⟨0, T, rfl, Nat.zero_le _, HM5, HF4, Lib.hid (by rw [List.drop_zero]; exact HG3.out), HR5⟩
   case round =>
    clear HM5 HF4 HR5 HG3
    obtain ⟨q, U, rfl, hq, HM, HF4, HE, HR⟩ := hrel
    by_cases hlt : q < rl.length
    ·obtain ⟨ad, rfl, a0⟩ := HR.out q hlt
     have hds : rl.drop q = rl[q] :: rl.drop (q + 1) := List.drop_eq_getElem_cons hlt
     have HE2 := HE.out
     rw [hds, List.foldl_cons] at HE2
     have p1 : ((q : Int) < (rl.length : Int)) = True := eq_true (by omega)
     clear hds HE
     generalize rl[q] = s at *
     have HE := Lib.hid HE2
     clear HE2
     go_wp2_with fail
     refine (abv_any HC.out (dw_any HC.out 4000) wr U HM.out HF4.out s fr).mono ?_
     rintro e w4 ⟨rfl, hm4, hc4⟩
     have HM4 := Lib.hid hm4
     have HF5 := Lib.hid (Nat.le_trans (setA_left st hs fr U s) HF4.out)
     have HR4 := Lib.hid (HR.out.chg' hc4 HFar5.out)
     clear hm4 hc4 a0
     go_wp2_with fail
     go_roundw
     case rel => exact ⟨q + 1, _, by go_num, by omega, HM4, HF5, HE, HR4⟩
     case measure => simp [intOf]; omega
    ·obtain rfl : q = rl.length := by omega
     have HE3 : Hid (U.1 = G) := Lib.hid (by rw [← HE.out, List.drop_length]; rfl)
     obtain ⟨_, _, _, _, _, y5, _⟩ := HM.out.cells
     clear HE
     go_wp2_with fail
     go_ret
     exact ⟨by rw [← HE3.out]; rfl, by rw [← HE3.out]; exact HM.out.set, HB1.out.trans (HM.out.low.mono HB1.out.size)⟩
end
end Go.Proofs.YtikilglbhnplaaaGreatDoor
end
section
namespace Go.Proofs.YtikilglbhnplaaaGreatDoor
open Go.RowKit Go.Proofs.YtikilglbhnplaaaGreatDoorW.PrintWords
structure Ses where
 conf : Nat
 hist : List Int
 env : List Int
 inn : List Int
 stat : Int
 out : List Ou
noncomputable def actsM (m : Ses) (l : List Ac) : Ses :=
 { m with env := (doA ⟨m.env, [], []⟩ l).env, out := m.out ++ (doA ⟨m.env, [], []⟩ l).out, inn := m.inn ++ (doA ⟨m.env, [], []⟩ l).inn }
def bitOr (l : List Int) : Nat := l.foldl (fun x y => x ||| 2 ^ y.toNat) 0
def recH (st : List Sta) (conf set : Nat) (h : List Int) (q : Nat) : List Int :=
 if (rdS st (q : Int)).f0 < 5 ∨ set.testBit (rdS st (q : Int)).f1.toNat = false then h
 else if (rdS st (q : Int)).f0 = 5 then h.set q ((conf &&& kidB st (rdS st (q : Int)).f1 : Nat) : Int)
 else h.set q ((bitOr (lvP st (conf &&& belP st (rdS st (q : Int)).f1)) : Nat) : Int)
def recN (st : List Sta) (conf set : Nat) (h : List Int) : Nat → List Int
 | 0 => h
 | q + 1 => recH st conf set (recN st conf set h q) q
noncomputable def lvD (st : List Sta) (set : Nat) : Nat → Ses → Ses
 | 0, m => m
 | q + 1, m => lvD st set q (if set.testBit q = true then { actsM m (rdS st (q : Int)).f4 with conf := (actsM m (rdS st (q : Int)).f4).conf &&& (4294967295 - 2 ^ q) } else m)
noncomputable def lvM (st : List Sta) (set : Nat) (m : Ses) : Ses := lvD st set st.length { m with hist := recN st m.conf set m.hist st.length }
def doneF (st : List Sta) (conf : Nat) : Nat → Int → Bool
 | 0, _ => false
 | f + 1, s =>
  if (rdS st s).f0 = 2 then (listP (kidB st s &&& conf)).any (fun k => kindP st k == 4)
  else if (rdS st s).f0 = 3 then (listP (kidB st s)).all (doneF st conf f)
  else false
def finM (st : List Sta) (m : Ses) (s : Int) : Ses :=
 if (rdS st s).f1 = 0 then { m with stat := 2 }
 else if kindP st (rdS st (rdS st s).f1).f1 = 3 ∧ doneF st m.conf (st.length + 1) (rdS st (rdS st s).f1).f1 = true then { m with inn := m.inn ++ [2000 + (rdS st s).f1] ++ [2000 + (rdS st (rdS st s).f1).f1] }
 else { m with inn := m.inn ++ [2000 + (rdS st s).f1] }
noncomputable def entA (st : List Sta) (m : Ses) (q : Nat) : Ses := actsM { m with conf := m.conf ||| 2 ^ q } (rdS st (q : Int)).f3
noncomputable def entS (st : List Sta) (set : Nat) (m : Ses) (q : Nat) : Ses :=
 if set.testBit q = true ∧ m.conf.testBit q = false then (if (rdS st (q : Int)).f0 = 4 then finM st (entA st m q) q else entA st m q) else m
noncomputable def entN (st : List Sta) (set : Nat) (m : Ses) : Nat → Ses
 | 0 => m
 | q + 1 => entS st set (entN st set m q) q
noncomputable def entM (st : List Sta) (set : Nat) (m : Ses) : Ses := entN st set m st.length
def padH (st : List Sta) (h : List Int) : List Int := h ++ List.replicate (st.length - h.length) 0
def stpL (st : List Sta) (tr : List Tra) (conf : Nat) (l : List Int) : Nat := l.foldl (fun x i => x ||| leaP st tr conf i) 0
noncomputable def stpT (tr : List Tra) (m : Ses) (l : List Int) : Ses := l.foldl (fun m i => if thT tr i then actsM m (rdT tr i).f5 else m) m
def stpE (st : List Sta) (tr : List Tra) (hist : List Int) (l : List Int) : Nat := l.foldl (fun x i => if thT tr i ∧ (rdT tr i).f3 ≠ [] then x ||| setP st hist (reaP st tr i) (rdT tr i).f3 else x) 0
noncomputable def stpB (st : List Sta) (tr : List Tra) (m : Ses) (l : List Int) : Ses := stpT tr (lvM st (stpL st tr m.conf l) { m with hist := padH st m.hist, out := [] }) l
noncomputable def stpM (st : List Sta) (tr : List Tra) (m : Ses) (l : List Int) : Ses := entM st (stpE st tr (stpB st tr m l).hist l) (stpB st tr m l)
def ses0 (st : List Sta) (v : Int) : Ses := ⟨0, List.replicate st.length 0, List.replicate v.toNat 0, [], 1, []⟩
noncomputable def fstM (v : Int) (st : List Sta) : Ses := entM st (setP st (entM st 1 (ses0 st v)).hist 0 (rdS st 0).f2) (entM st 1 (ses0 st v))
noncomputable def rndS (st : List Sta) (tr : List Tra) (m : Ses) (l : List Int) (n : Nat) : Ses :=
 if l = [] then { m with inn := m.inn ++ List.replicate n 1001 }
 else { stpM st tr { m with inn := m.inn ++ List.replicate n 1001 } l with out := m.out ++ (stpM st tr { m with inn := m.inn ++ List.replicate n 1001 } l).out }
def tooL (m : Ses) : Ses := if 50 < m.inn.length then { m with stat := 3 } else m
noncomputable def tknM (st : List Sta) (tr : List Tra) (m : Ses) (ev : Int) : List Int := siP st tr m.conf (gaP st tr m.conf m.env ev).1
noncomputable def rndM (st : List Sta) (tr : List Tra) (m : Ses) (fuel : Nat) (ev : Int) : Ses × Nat × Bool :=
 if fuel = 0 then ({ m with stat := 3 }, 0, true)
 else (tooL (rndS st tr m (tknM st tr m ev) (gaP st tr m.conf m.env ev).2), fuel - 1, !(tknM st tr m ev).isEmpty)
noncomputable def setlM (st : List Sta) (tr : List Tra) : Nat → Ses → Nat → Ses
 | 0, m, _ => m
 | F + 1, m, fuel =>
  if m.stat ≠ 1 then m
  else if (rndM st tr m fuel 0).2.2 = true then setlM st tr F (rndM st tr m fuel 0).1 (rndM st tr m fuel 0).2.1
  else match (rndM st tr m fuel 0).1.inn with
   | [] => (rndM st tr m fuel 0).1
   | e :: r => if (rndM st tr m fuel 0).1.stat ≠ 1 then (rndM st tr m fuel 0).1
    else setlM st tr F (rndM st tr { (rndM st tr m fuel 0).1 with inn := r } (rndM st tr m fuel 0).2.1 e).1 (rndM st tr { (rndM st tr m fuel 0).1 with inn := r } (rndM st tr m fuel 0).2.1 e).2.1
noncomputable def staM (v : Int) (st : List Sta) (tr : List Tra) : Ses := setlM st tr 42 (fstM v st) 40
noncomputable def takM (st : List Sta) (tr : List Tra) (m : Ses) (ev : Int) : Ses :=
 if m.stat ≠ 1 then { m with out := [] } else setlM st tr 42 (rndM st tr { m with out := [] } 40 ev).1 (rndM st tr { m with out := [] } 40 ev).2.1
end Go.Proofs.YtikilglbhnplaaaGreatDoor
end
section
namespace Go.Proofs.YtikilglbhnplaaaGreatDoor
open Go.RowKit Go.Proofs.YtikilglbhnplaaaGreatDoorW.PrintWords
open PX (T V)
theorem lvN_len (st : List Sta) (set q : Nat) : (lvN st set q).length ≤ q := by
 induction q with
 | zero => simp [lvN]
 | succ q ih =>
  simp only [lvN, List.length_append]
  split <;> simp <;> omega
theorem bit_at {set q : Nat} (h : set < 4294967296) : bits BinOp.and IntKind.u32 ((set : Int) / 2 ^ q) 1 = if set.testBit q = true then 1 else 0 := by
 have e : ((set : Int) / 2 ^ q) = ((set / 2 ^ q : Nat) : Int) := by simp
 have h2 : set / 2 ^ q < 4294967296 := Nat.lt_of_le_of_lt (Nat.div_le_self _ _) h
 rw [e, show (1 : Int) = ((1 : Nat) : Int) from rfl, u32_and_nat _ 1 h2 (by decide), nat_mask1, Nat.testBit_eq_decide_div_mod_eq]
 by_cases c : set / 2 ^ q % 2 = 1
 ·rw [c]; simp
 ·have : set / 2 ^ q % 2 = 0 := by omega
  rw [this]; simp
section
variable {g : Nat} {v : Int} {st : List Sta} {tr : List Tra} {w : World}
theorem tlv_any (h : TrM w g v st tr) (hl : st.length ≤ 24) (set : Nat) (hset : set < 4294967296) :
  Calls Tryz.prog 57 #[.pointer (some ⟨g, 0, none⟩), .int .u32 (set : Nat)] w fun e w' => ∃ u, e = .returned u ∧ InnR w' w.heap.size u (lvP st set) ∧ Below w.heap.size w w' := by
 obtain ⟨A, ca, B, cb, h1, h2⟩ := h
 have y1 : w.cell? ⟨g, 1, none⟩ = some (.slice A st.length ca) := blk_cell h1 1
 have HCs := Lib.hid h2.cs
 clear h1 h2
 go_enter Tryz.func57, Tryz.ntmps57
 go_wp2_with fail
 go_loopw [5, 14] (fun o x wr => ∃ q : Nat, x = .int .i64 q ∧ q ≤ st.length ∧ Hid (InnR wr w.heap.size o (lvN st set q)) ∧ Hid (Below w.heap.size w wr)) (fun _ x _ => st.length - (intOf x).toNat)
 case atStart => exact ⟨0, rfl, Nat.zero_le _, Lib.hid (Kd.R_nil _ _ _ _ _), Lib.hid (Below.refl _ _)⟩
 case round =>
  obtain ⟨q, rfl, hq, HO, HB⟩ := hrel
  by_cases hlt : q < st.length
  ·have p1 : ((q : Int) < (st.length : Int)) = True := eq_true (by omega)
   obtain ⟨ad, A2, c2, A3, c3, A4, c4, rfl, q0, q1, q2, q3, q4, _⟩ := PAll.at_T66 (Kd.C_below HCs.out HB.out) (q : Int) (by omega) (by omega)
   rw [Int.toNat_natCast] at q0 q1 q2 q3 q4
   have hsz := HB.out.size
   have HB1 := Lib.hid (HB.out.alloc HB.out.size (.cells #[.int .i64 (PAll.rd_T66 st q).f0, .int .i64 (PAll.rd_T66 st q).f1, .slice A2 (PAll.rd_T66 st q).f2.length c2, .slice A3 (PAll.rd_T66 st q).f3.length c3, .slice A4 (PAll.rd_T66 st q).f4.length c4] 66))
   have HO1 := Lib.hid (Kd.R_alloc HO.out (.cells #[.int .i64 (PAll.rd_T66 st q).f0, .int .i64 (PAll.rd_T66 st q).f1, .slice A2 (PAll.rd_T66 st q).f2.length c2, .slice A3 (PAll.rd_T66 st q).f3.length c3, .slice A4 (PAll.rd_T66 st q).f4.length c4] 66))
   have hsz1 := HB1.out.size
   obtain ⟨AO, cO, rfl⟩ := Kd.R_slice HO.out
   by_cases hb : set.testBit q = true
   ·have d0 : (bits BinOp.and IntKind.u32 ((set : Int) / 2 ^ q) 1 == 1) = true := by rw [bit_at hset, if_pos hb]; rfl
    by_cases hk : (PAll.rd_T66 st q).f0 = 1 ∨ (PAll.rd_T66 st q).f0 = 4
    ·have HS : Hid (lvN st set (q + 1) = lvN st set q ++ [(q : Int)]) := Lib.hid (by simp only [lvN]; rw [if_pos ⟨hb, hk⟩])
     have hlen := lvN_len st set q
     have hac : (lvN st set q).length < 1000000 := by omega
     by_cases h1 : (PAll.rd_T66 st q).f0 = 1
     ·have d1 : ((PAll.rd_T66 st q).f0 == 1) = true := by simp [h1]
      clear hb hk h1 hlen
      go_wp2_with (at_builtin; refine inn_append rfl (.tmp 34) (.tmp 36) rfl w.heap.size _ (lvN st set q) (q : Int) rfl _ rfl (by simp) HO1.out hsz1 hac ?_)
      intro v1 w2 h1 h2 h3
      have HB2 := Lib.hid (HB1.out.trans h2)
      have HO2 := Lib.hid h1
      go_wp2_with fail
      go_roundw
      case rel => exact ⟨q + 1, by go_num, by omega, by rw [HS.out]; exact HO2, HB2⟩
      case measure => simp [intOf]; omega
     ·have d1 : ((PAll.rd_T66 st q).f0 == 1) = false := by simp [h1]
      have d2 : ((PAll.rd_T66 st q).f0 == 4) = true := by simp [hk.resolve_left h1]
      clear hb hk h1 hlen
      go_wp2_with (at_builtin; refine inn_append rfl (.tmp 34) (.tmp 36) rfl w.heap.size _ (lvN st set q) (q : Int) rfl _ rfl (by simp) HO1.out hsz1 hac ?_)
      intro v1 w2 h1 h2 h3
      have HB2 := Lib.hid (HB1.out.trans h2)
      have HO2 := Lib.hid h1
      go_wp2_with fail
      go_roundw
      case rel => exact ⟨q + 1, by go_num, by omega, by rw [HS.out]; exact HO2, HB2⟩
      case measure => simp [intOf]; omega
    ·have HS : Hid (lvN st set (q + 1) = lvN st set q) := Lib.hid (by simp only [lvN]; rw [if_neg (fun h => hk h.2), List.append_nil])
     have d1 : ((PAll.rd_T66 st q).f0 == 1) = false := by simp; exact fun h => hk (.inl h)
     have d2 : ((PAll.rd_T66 st q).f0 == 4) = false := by simp; exact fun h => hk (.inr h)
     have HO2 := HO1
     have HAl := HB1
     clear hb hk
     go_wp2_with fail
     go_roundw
     case rel => exact ⟨q + 1, by go_num, by omega, by rw [HS.out]; exact HO2, HAl⟩
     case measure => simp [intOf]; omega
   ·have d0 : (bits BinOp.and IntKind.u32 ((set : Int) / 2 ^ q) 1 == 1) = false := by rw [bit_at hset, if_neg hb]; rfl
    have HS : Hid (lvN st set (q + 1) = lvN st set q) := Lib.hid (by simp only [lvN]; rw [if_neg (fun h => hb h.1), List.append_nil])
    have HO2 := HO1
    have HAl := HB1
    clear hb
    go_wp2_with fail
    go_roundw
    case rel => exact ⟨q + 1, by go_num, by omega, by rw [HS.out]; exact HO2, HAl⟩
    case measure => simp [intOf]; omega
  ·obtain rfl : q = st.length := by omega
   have p1 : ((st.length : Int) < (st.length : Int)) = False := eq_false (by omega)
   go_wp2_with fail
   go_ret
   exact ⟨_, rfl, HO.out, HB.out⟩
end
end Go.Proofs.YtikilglbhnplaaaGreatDoor
end
section
namespace Go.Proofs.YtikilglbhnplaaaGreatDoor
open Go.RowKit Go.Proofs.YtikilglbhnplaaaGreatDoorW.PrintWords Go.Proofs.YtikilglbhnplaaaGreatDoorW.PrintLast
section
variable {P : Program} {ops : Array Oper} {Q : Exit → Act → World → Prop}
theorem val_ {oi : Oper} {N : Option Tmp} {a : Act} {w w1 : World} {v : Value} {K : Act → World → Prop} (hw : Region.wanted oi (yielded ops a.tmps) = true) (hN : oi.dst = N) (hrun : (execOp a.eval oi).run P w = .ok (.value v) w1)
  (h : K (a.put N v) w1) : if Region.wanted oi (yielded ops a.tmps) = true then Oper.wp P oi a w K Q else K (a.put N undef) w := by
 rw [if_pos hw]
 unfold Oper.wp
 rw [hrun]
 show K (a.put oi.dst v) w1
 rw [hN]
 exact h
end
section
variable {ops : Array Oper} {Q : Exit → Act → World → Prop} {rest : List Oper} {a : Act} {o : Oper}
theorem inn_app_row {W : World} (hgd : o.guard = none) (s x : Operand)
  (ho : o.op = .call { callee := .builtin .append, args := #[s, x], argTypes := #[36, 36] })
  (B : Nat) (v : Value) (xs ys : List Int) (A : Option Addr) (m c : Nat) (hs : a.eval s = v) (hx : a.eval x = .slice A m c) (hm : ys.length = m)
  (HO : InnR W B v xs) (HR : NumsC W A m ys) (hB : B ≤ W.heap.size) (hl : xs.length + m < 1000000)
  (h : ∀ v1 w1, InnR w1 B v1 (xs ++ ys) → Below B W w1 → W.grownBy w1 v.ownBlock → wpList Tryz.prog ops Q rest (a.put o.dst v1) w1) :
  wpList Tryz.prog ops Q (o :: rest) a W :=
 Kd.R_append_row (Value.int .i64) (0 : Int) (w0 := W) B hgd s x 36 3 (.int .i64 0) 8 ho Tryz.underlying36 (by kernel_rfl) rfl (by decide) v xs ys A m c (fun _ => True) hs hx (fun _ _ => trivial) HO HR (Below.refl _ _) hB (by omega) (fun v1 w1 h1 h2 h3 _ => h v1 w1 h1 h2 h3)
end
theorem inn_at {w : World} {B gl n cap : Nat} {xs : List Int} (h : InnR w B (.slice (some ⟨gl, 0, none⟩) n cap) xs) (q : Nat) (hq : q < xs.length) : w.cell? ⟨gl, q, none⟩ = some (.int .i64 xs[q]) ∧ w.frozen? ⟨gl, q, none⟩ = false := by
 obtain ⟨rfl, _, hC⟩ := Kd.R_reads' h
 have h2 := Kd.R_celln (0 : Int) h (q : Int) (by omega) (by omega)
 obtain ⟨ad, e, hc⟩ := nums_at hC q hq
 obtain rfl := Option.some.inj e
 rw [Int.toNat_natCast] at h2
 refine ⟨?_, h2.2⟩
 rwa [show (⟨gl, 0, none⟩ : Addr).add q = ⟨gl, q, none⟩ by simp only [Addr.add]; split <;> simp_all] at hc
theorem inn_put {w : World} {B gl n cap : Nat} {xs : List Int} (h : InnR w B (.slice (some ⟨gl, 0, none⟩) n cap) xs) (q : Nat) (x : Int) : InnR (w.setCell ⟨gl, q, none⟩ (.int .i64 x)) B (.slice (some ⟨gl, 0, none⟩) n cap) (xs.set q x) := by
 have := Kd.R_putn h (q : Int) x
 rwa [Int.toNat_natCast] at this
end Go.Proofs.YtikilglbhnplaaaGreatDoor
end
section
namespace Go.Proofs.YtikilglbhnplaaaGreatDoor
open Go.RowKit Go.Proofs.YtikilglbhnplaaaGreatDoorW.PrintWords Go.Proofs.YtikilglbhnplaaaGreatDoorW.PrintLast
open PX (T V)
theorem trans_fact {v : Int} {st : List Sta} {tr : List Tra} (h : chkP v st tr = .none) {i : Int} (hi : thT tr i) :
  (0 < (rdT tr i).f0 ∧ (rdT tr i).f0 < (st.length : Int) ∧ (rdS st (rdT tr i).f0).f0 ≤ 3) ∧ tgtP st (rdT tr i).f3 = true ∧ ((rdT tr i).f2.toList.isEmpty = false → typP (rdT tr i).f2 2 v = true) ∧ actsP v (rdT tr i).f5 = true := by
 have h1 := (chk_none h).2.2 i hi.1 hi.2
 change transP v st (rdT tr i) = 0 at h1
 generalize rdT tr i = t at *
 unfold transP at h1
 split at h1
 ·cases h1
 ·rename_i c1
  split at h1
  ·cases h1
  ·split at h1
   ·cases h1
   ·rename_i c3
    split at h1
    ·cases h1
    ·rename_i c4
     split at h1
     ·cases h1
     ·rename_i c5
      obtain ⟨n1, n2, n3⟩ : t.f0 ≠ 0 ∧ (0 ≤ t.f0 ∧ t.f0 < (st.length : Int)) ∧ ¬ 3 < (PAll.rd_T66 st t.f0).f0 := ⟨fun h => c1 (.inl h), Classical.not_not.1 (fun h => c1 (.inr (.inl h))), fun h => c1 (.inr (.inr h))⟩
      refine ⟨⟨by omega, n2.2, Int.not_lt.1 n3⟩, by simpa using c3, fun he => ?_, by simpa using c5⟩
      cases hy : typP t.f2 2 v
      ·exact absurd ⟨he, hy⟩ c4
      ·rfl
theorem map_step (f : Int → Int) (l : List Int) (q : Nat) (h : q < l.length) : ((l.take q).map f ++ l.drop q).set q (f l[q]) = (l.take (q + 1)).map f ++ l.drop (q + 1) := by
 have e : q - ((l.take q).map f).length = 0 := by simp; omega
 rw [List.set_append_right _ _ (by simp; omega), e, List.drop_eq_getElem_cons h, List.set_cons_zero, List.take_succ_eq_append_getElem h, List.map_append, List.append_assoc]
 rfl
theorem tgtF_in {st : List Sta} (l : List Int) : ∀ pre : List Int, tgtF st pre l = true → ∀ a ∈ l, 0 < a ∧ a < (st.length : Int) := by
 induction l with
 | nil => intro pre _ a h; cases h
 | cons b l ih =>
  intro pre h a ha
  simp only [tgtF] at h
  split at h
  ·cases h
  ·rename_i c
   split at h
   ·rcases List.mem_cons.1 ha with rfl | ha
    ·omega
    ·exact ih _ h a ha
   ·cases h
theorem tgt_fact {st : List Sta} {l : List Int} (h : tgtP st l = true) : l.length ≤ 3 ∧ ∀ a ∈ l, 0 < a ∧ a < (st.length : Int) := by
 unfold tgtP at h
 split at h
 ·cases h
 ·exact ⟨by omega, tgtF_in l [] h⟩
section
variable {g : Nat} {v : Int} {st : List Sta} {tr : List Tra} {w : World}
theorem reafn_any (h : TrM w g v st tr) (ha : Ahead st) (hl : st.length ≤ 1000) (g1 g2 : Nat) (x0 s : Int) (cs : Array Value) (h1 : w.heap[g1]? = some (.cells #[.pointer (some ⟨g, 0, none⟩)] 33 (0, 0))) (h2 : w.heap[g2]? = some (.cells cs 63 (0, 0))) (hc : cs[0]? = some (.int .i64 x0)) :
  Calls Tryz.prog 95 #[.int .i64 s, .pointer (some ⟨g1, 0, none⟩), .pointer (some ⟨g2, 0, none⟩)] w fun e w' => e = .returned (.bool (!inP st s x0)) ∧ Below w.heap.size w w' := by
 have H := Lib.hid h
 have HA := Lib.hid ha
 have y1 : w.cell? ⟨g1, 0, none⟩ = some (.pointer (some ⟨g, 0, none⟩)) := blk_cell h1 0
 have y2 : w.cell? ⟨g2, 0, none⟩ = some (.int .i64 x0) := (blk_cell h2 0).trans hc
 clear h ha h1 h2 hc
 go_enter Tryz.func95, Tryz.ntmps95
 go_wp2_with fail
 refine (tin_any H.out HA.out hl s x0).mono ?_
 rintro e w1 ⟨rfl, hb1⟩
 go_wp2_with fail
 go_ret
 exact ⟨by simp [inP], hb1⟩
theorem reach_any (h : TrM w g v st tr) (good : chkP v st tr = .none) (hF : fewP st tr = true) (i : Int) :
  Calls Tryz.prog 68 #[.pointer (some ⟨g, 0, none⟩), .int .i64 i] w fun e w' => e = .returned (.int .i64 (reaP st tr i)) ∧ Below w.heap.size w w' := by
 have hmf : ∀ (fn : Fn) (first cap : Array Value) (w : World), (Instr.makeFunc fn first cap).run Tryz.prog w = .ok (.func fn first cap) w := fun _ _ _ _ => rfl
 have hrun : ∀ args w, (callFunc 95 args).run Tryz.prog w = .ok (.enter 95 args) w := fun _ _ => rfl
 have hb0 : Below w.heap.size w (w.alloc (.cells #[.pointer (some ⟨g, 0, none⟩)] 33)) := (Below.refl _ w).alloc (Nat.le_refl _) _
 have hk0 := blk_new w (.cells #[.pointer (some ⟨g, 0, none⟩)] 33)
 have HB0 := Lib.hid hb0
 have HK0 := Lib.hid hk0
 have y1 : (w.alloc (.cells #[.pointer (some ⟨g, 0, none⟩)] 33)).cell? ⟨w.heap.size, 0, none⟩ = some (.pointer (some ⟨g, 0, none⟩)) := blk_cell hk0 0
 have H0 := Lib.hid (h.below hb0)
 have HGood := Lib.hid good
 have HA := Lib.hid (good_ahead good)
 obtain ⟨⟨_, _, hn1, hn, hn2⟩, _⟩ := chk_none good
 obtain ⟨hS, hTr⟩ := few_s hF
 clear hb0 hk0 h good hF
 go_enter Tryz.func68, Tryz.ntmps68
 go_wp2_with fail
 generalize w.alloc (.cells #[.pointer (some ⟨g, 0, none⟩)] 33) = w0 at HB0 HK0 y1 H0 ⊢
 refine (tchart_any H0.out (by omega) (by omega) (by omega) hS hTr).mono ?_
 rintro e w1 ⟨gS, ca, B, cb, rfl, hM, hb1, _, _, _⟩
 generalize (some ⟨gS, 0, none⟩ : Option Addr) = A at hM ⊢
 have hal : Below w1.heap.size w1 (w1.alloc (.cells #[.int .i64 v, .slice A st.length ca, .slice B tr.length cb] 25)) := (Below.refl _ w1).alloc (Nat.le_refl _) _
 have hkc := blk_new w1 (.cells #[.int .i64 v, .slice A st.length ca, .slice B tr.length cb] 25)
 have HB2 := Lib.hid (below_then hb1 hb1.size hal)
 have HM := Lib.hid (hM.below hal)
 have HKC := Lib.hid hkc
 have z1 : (w1.alloc (.cells #[.int .i64 v, .slice A st.length ca, .slice B tr.length cb] 25)).cell? ⟨w1.heap.size, 1, none⟩ = some (.slice A st.length ca) := blk_cell hkc 1
 have z2 : (w1.alloc (.cells #[.int .i64 v, .slice A st.length ca, .slice B tr.length cb] 25)).cell? ⟨w1.heap.size, 2, none⟩ = some (.slice B tr.length cb) := blk_cell hkc 2
 clear hM hb1 hkc hal y1 hS hTr
 by_cases c1 : i < 0
 ·have d1 : decide (i < 0) = true := decide_eq_true c1
  have HR : Hid (reaP st tr i = -1) := Lib.hid (if_pos (.inl (fun h => by have := h.1; omega)))
  clear c1
  go_wp2_with fail
  go_ret
  exact ⟨by rw [HR.out]; rfl, below_then HB0.out HB0.out.size HB2.out⟩
 by_cases c2 : (tr.length : Int) ≤ i
 ·have d1 : decide (i < 0) = false := decide_eq_false c1
  have d2 : decide (i ≥ (tr.length : Int)) = true := decide_eq_true c2
  have d2' : decide ((tr.length : Int) ≤ i) = true := decide_eq_true c2
  have HR : Hid (reaP st tr i = -1) := Lib.hid (if_pos (.inl (fun h => by have := h.2; omega)))
  clear c1 c2
  go_wp2_with fail
  go_ret
  exact ⟨by rw [HR.out]; rfl, below_then HB0.out HB0.out.size HB2.out⟩
 have hth : thT tr i := ⟨by omega, by omega⟩
 have d1 : decide (i < 0) = false := decide_eq_false c1
 have d2 : decide (i ≥ (tr.length : Int)) = false := decide_eq_false c2
 have d2' : decide ((tr.length : Int) ≤ i) = false := decide_eq_false c2
 have p0 : (0 ≤ i) = True := eq_true (by omega)
 have p1 : (i < (tr.length : Int)) = True := eq_true (by omega)
 obtain ⟨ad, A3, c3, A5, c5, rfl, q0, q1, q2, q3, q4, q5, l3, g3, l5, g5⟩ := PAll.at_T63 HM.out.ct i (by omega) (by omega)
 obtain ⟨⟨t1, t2, t3⟩, t4, _⟩ := trans_fact HGood.out hth
 obtain ⟨t5, t6⟩ := tgt_fact t4
 have hRe : reaP st tr i = if (rdT tr i).f3 = [] then -1 else if (rdT tr i).f4 = true ∧ kindP st (rdT tr i).f0 = 2 ∧ ((rdT tr i).f3.map (ownP st)).any (fun s => !inP st s (rdT tr i).f0) = false then (rdT tr i).f0
   else joinP st ((rdT tr i).f3.map (ownP st) ++ [(rdT tr i).f0]) := by
  unfold reaP
  by_cases e : (rdT tr i).f3 = []
  ·rw [if_pos (.inr e), if_pos e]
  ·rw [if_neg (by rintro (h | h); exact h hth; exact e h), if_neg e]
 generalize hX : rdT tr i = x at t1 t2 t3 t4 t5 t6 hRe
 have hX' : PAll.rd_T63 tr i = x := hX
 rw [hX'] at q0 q1 q2 q3 q4 q5 l3 g3 l5 g5
 clear hX'
 have HRe := Lib.hid hRe
 clear hRe hX c1 c2
 obtain ⟨so, ev, gu, ts, itn, ac⟩ := x
 simp only at q0 q1 q2 q3 q4 q5 l3 g3 l5 g5 t1 t2 t3 t4 t5 t6 HRe
 by_cases c3' : ts = []
 ·subst c3'
  have HR : Hid (reaP st tr i = -1) := Lib.hid (by rw [HRe.out, if_pos rfl])
  clear HRe
  go_wp2_with fail
  go_ret
  exact ⟨by rw [HR.out]; rfl, below_then HB0.out HB0.out.size HB2.out⟩
 have hpos : 0 < ts.length := List.length_pos_iff.2 c3'
 have d3 : ((ts.length : Int) == 0) = false := by rw [beq_eq_false_iff_ne]; omega
 have hRe := HRe.out
 rw [if_neg c3'] at hRe
 have HRe := Lib.hid hRe
 clear hRe c3'
 have hal : Below (w1.alloc (.cells #[.int .i64 v, .slice A st.length ca, (.slice (some ad) tr.length cb)] 25)).heap.size (w1.alloc (.cells #[.int .i64 v, .slice A st.length ca, (.slice (some ad) tr.length cb)] 25)) ((w1.alloc (.cells #[.int .i64 v, .slice A st.length ca, (.slice (some ad) tr.length cb)] 25)).alloc (.cells #[.int .i64 so, .int .i64 ev, .string gu, .slice A3 ts.length c3, .bool itn, .slice A5 ac.length c5] 63)) := (Below.refl _ _).alloc (Nat.le_refl _) _
 have hkx := blk_new (w1.alloc (.cells #[.int .i64 v, .slice A st.length ca, (.slice (some ad) tr.length cb)] 25)) (.cells #[.int .i64 so, .int .i64 ev, .string gu, .slice A3 ts.length c3, .bool itn, .slice A5 ac.length c5] 63)
 have hsz : (w1.alloc (.cells #[.int .i64 v, .slice A st.length ca, (.slice (some ad) tr.length cb)] 25)).heap.size = w1.heap.size + 1 := by simp
 have hkc3 := (hal.block _ (lt_of_block HKC.out)).trans HKC.out
 have HB3 := Lib.hid (below_then HB2.out HB2.out.size hal)
 have HG3 := Lib.hid (Kd.C_below g3 hal)
 have HM3 := Lib.hid (HM.out.below hal)
 rw [hsz] at hkx
 have x3 : ((w1.alloc (.cells #[.int .i64 v, .slice A st.length ca, (.slice (some ad) tr.length cb)] 25)).alloc (.cells #[.int .i64 so, .int .i64 ev, .string gu, .slice A3 ts.length c3, .bool itn, .slice A5 ac.length c5] 63)).cell? ⟨w1.heap.size + 1, 3, none⟩ = some (.slice A3 ts.length c3) := blk_cell hkx 3
 have HKX := Lib.hid hkx
 have HKC3 := Lib.hid hkc3
 clear g3 g5 hal hkx hkc3 t4 hsz
 go_wp2_with fail
 generalize (w1.alloc (.cells #[.int .i64 v, .slice A st.length ca, (.slice (some ad) tr.length cb)] 25)).alloc (.cells #[.int .i64 so, .int .i64 ev, .string gu, .slice A3 ts.length c3, .bool itn, .slice A5 ac.length c5] 63) = w3 at HB3 HG3 HM3 HKX HKC3 x3 ⊢
 refine (cloneIn A3 c3 ts.length ts rfl w3 l3 HG3.out (by omega)).mono ?_
 rintro e w4 ⟨u, rfl, hu, hb4⟩
 obtain ⟨gl, cl, rfl, hgl, _⟩ := Kd.R_form hu hpos
 have HU := Lib.hid hu
 have HB4 := Lib.hid hb4
 have HT6 := Lib.hid t6
 have HK0' := Lib.hid ((HB3.out.block _ (lt_of_block HK0.out)).trans HK0.out)
 clear hu hb4 x3 t6 HG3 q0 q1 q2 q3 q4 q5 HKC HM z1 z2 HK0
 go_wp2_with fail
 go_loopw [44] (fun k wr => ∃ q : Nat, k = .int .i64 q ∧ q ≤ ts.length ∧ Hid (InnR wr w3.heap.size (.slice (some ⟨gl, 0, none⟩) ts.length cl) ((ts.take q).map (ownP st) ++ ts.drop q)) ∧ Hid (Below w3.heap.size w3 wr)) (fun k _ => ts.length - (intOf k).toNat)
 case atStart => exact ⟨0, rfl, Nat.zero_le _, Lib.hid (by simpa using HU.out), HB4⟩
 case round =>
  clear HU HB4
  obtain ⟨q, rfl, hq, HU, HB4⟩ := hrel
  have HKX4 := Lib.hid ((HB4.out.block _ (lt_of_block HKX.out)).trans HKX.out)
  have HKC4 := Lib.hid ((HB4.out.block _ (lt_of_block HKC3.out)).trans HKC3.out)
  have HM4 := Lib.hid (HM3.out.below HB4.out)
  by_cases hlt : q < ts.length
  ·have p2 : ((q : Int) < (ts.length : Int)) = True := eq_true (by omega)
   have z1 : wr.cell? ⟨w1.heap.size, 1, none⟩ = some (.slice A st.length ca) := blk_cell HKC4.out 1
   have hll : ((ts.take q).map (ownP st) ++ ts.drop q).length = ts.length := by simp; omega
   obtain ⟨u0, u1⟩ := inn_at HU.out q (by omega)
   have hat : ((ts.take q).map (ownP st) ++ ts.drop q)[q]'(by omega) = ts[q] := by
    rw [List.getElem_append_right (by simp; omega)]
    simp [List.getElem_drop, Nat.min_eq_left hq]
   rw [hat] at u0
   have hnx := map_step (ownP st) ts q hlt
   have hsame : ownP st ts[q] = ts[q] → ((ts.take q).map (ownP st) ++ ts.drop q) = (ts.take (q + 1)).map (ownP st) ++ ts.drop (q + 1) := by
    intro h
    rw [← hnx, h, ← hat]
    exact (List.set_getElem_self _).symm
   have HNx := Lib.hid hnx
   have HSm := Lib.hid hsame
   obtain ⟨s0, s1⟩ := HT6.out ts[q] (List.getElem_mem hlt)
   clear hat hnx hsame hll
   generalize ts[q] = s at *
   have hks := good_kind HGood.out (s := s) ⟨by omega, s1⟩
   obtain ⟨ad2, B2, e2, B3, e3, B4, e4, rfl, k0, k1, _⟩ := PAll.at_T66 HM4.out.cs s (by omega) s1
   have p3 : (0 ≤ s) = True := eq_true (by omega)
   have p4 : (s < (st.length : Int)) = True := eq_true s1
   by_cases hk : 5 ≤ (PAll.rd_T66 st s).f0
   ·have d1 : decide ((PAll.rd_T66 st s).f0 ≥ 5) = true := decide_eq_true hk
    have d1' : decide (5 ≤ (PAll.rd_T66 st s).f0) = true := decide_eq_true hk
    have hown : ownP st s = (PAll.rd_T66 st s).f1 := by
     unfold ownP
     rw [if_pos (show histP (PAll.rd_T66 st s).f0 = true by
      unfold histP
      rcases (show (PAll.rd_T66 st s).f0 = 5 ∨ (PAll.rd_T66 st s).f0 = 6 by have := hks; change _ ∧ (PAll.rd_T66 st s).f0 ≤ 6 at this; omega) with e | e <;> rw [e] <;> rfl)]
    have HN2 := Lib.hid (HNx.out.symm.trans (by rw [hown]))
    clear hk hown HNx HSm
    go_wp2_with fail
    have hput := inn_put HU.out q (PAll.rd_T66 st s).f1
    have HU2 : Hid (InnR (wr.setCell ⟨gl, q, none⟩ (.int .i64 (PAll.rd_T66 st s).f1)) w3.heap.size (.slice (some ⟨gl, 0, none⟩) ts.length cl) ((ts.take (q + 1)).map (ownP st) ++ ts.drop (q + 1))) := Lib.hid (by rw [HN2.out]; exact hput)
    have HB5 := Lib.hid (HB4.out.setCell (p := ⟨gl, q, none⟩) hgl (.int .i64 (PAll.rd_T66 st s).f1))
    go_roundw
    case rel => exact ⟨q + 1, by go_num, by omega, HU2, HB5⟩
    case measure => simp [intOf]; omega
   ·have d1 : decide ((PAll.rd_T66 st s).f0 ≥ 5) = false := decide_eq_false hk
    have d1' : decide (5 ≤ (PAll.rd_T66 st s).f0) = false := decide_eq_false hk
    have hown : ownP st s = s := by
     unfold ownP
     rw [if_neg]
     unfold histP
     simp only [Bool.or_eq_true, beq_iff_eq]
     omega
    have HU2 : Hid (InnR wr w3.heap.size (.slice (some ⟨gl, 0, none⟩) ts.length cl) ((ts.take (q + 1)).map (ownP st) ++ ts.drop (q + 1))) := Lib.hid (by rw [← HSm.out hown]; exact HU.out)
    clear hk hown HNx HSm HU
    go_wp2_with fail
    go_roundw
    case rel => exact ⟨q + 1, by go_num, by omega, HU2, HB4⟩
    case measure => simp [intOf]; omega
  ·obtain rfl : q = ts.length := by omega
   have p2 : ((ts.length : Int) < (ts.length : Int)) = False := eq_false (by omega)
   have HUe : Hid (InnR wr w3.heap.size (.slice (some ⟨gl, 0, none⟩) ts.length cl) (ts.map (ownP st))) := Lib.hid (by have := HU.out; simpa using this)
   clear HU
   have HKa := Lib.hid ((HB4.out.block _ (lt_of_block HK0'.out)).trans HK0'.out)
   have HKb := HKX4
   have hla := lt_of_block HK0'.out
   have hlb := lt_of_block HKX.out
   have y1 : wr.cell? ⟨w.heap.size, 0, none⟩ = some (.pointer (some ⟨g, 0, none⟩)) := blk_cell HKa.out 0
   have x0 : wr.cell? ⟨w1.heap.size + 1, 0, none⟩ = some (.int .i64 so) := blk_cell HKX4.out 0
   have x4 : wr.cell? ⟨w1.heap.size + 1, 4, none⟩ = some (.bool itn) := blk_cell HKX4.out 4
   have HTr := Lib.hid (H0.out.below (below_then HB3.out HB3.out.size HB4.out))
   cases itn with
   | false =>
    have HRj : Hid (reaP st tr i = joinP st (ts.map (ownP st) ++ [so])) := Lib.hid (by rw [HRe.out, if_neg (fun h => by cases h.1)])
    go_wp2_with fail
    have hlj : ((ts.map (ownP st)) ++ [so]).length ≤ 1000 := by simp; omega
    have hsz7 := HB4.out.size
    have hl7 : (ts.map (ownP st)).length < 1000000 := by simp; omega
    have HUd := Lib.hid (Kd.R_drew HUe.out)
    have HTd := Lib.hid (HTr.out.below (below_drew (Below.refl _ _)))
    have HBd := Lib.hid (below_drew HB4.out)
    refine start_ (n := 8) (S := fun w' => w'.cell? ⟨w.heap.size, 0, none⟩ = some (.pointer (some ⟨g, 0, none⟩)) ∧ w'.cell? ⟨w1.heap.size + 1, 0, none⟩ = some (.int .i64 so)) (ds := [6]) (tf8 0) (by kernel_rfl) rfl (by kernel_rfl) ⟨y1, x0⟩ (fun hHeld => ?_)
    refine nxt_ (v := ?_) (a' := ?_) rfl rfl (by kernel_rfl) (fun _ _ _ h => h) (Or.inl ⟨by rfl, ?_⟩) hHeld ?_ ?_
    rotate_left
    ·rintro w' ⟨s0, s1⟩
     go_simp
     first | done | with_reducible rfl
    rotate_left
    ·simp only [Act.put, List.setIfInBounds_toArray, List.set_cons_zero, List.set_cons_succ, i64_w, i32_w]
     first | done | rfl
    iterate 2
     refine pxt_ (v := ?_) (a' := ?_) rfl rfl (by kernel_rfl) (fun _ _ _ h => h) (Or.inl ⟨by rfl, ?_⟩) ?_ ?_
     rotate_left
     ·intro w'
      go_simp
      first | done | with_reducible rfl
     rotate_left
     ·simp only [Act.put, List.setIfInBounds_toArray, List.set_cons_zero, List.set_cons_succ, i64_w, i32_w]
      first | done | rfl
    refine nxt_ (v := ?_) (a' := ?_) rfl rfl (by kernel_rfl) (fun _ _ _ h => h) (Or.inl ⟨by rfl, ?_⟩) hHeld ?_ ?_
    rotate_left
    ·rintro w' ⟨s0, s1⟩
     go_simp
     first | done | with_reducible rfl
    rotate_left
    ·simp only [Act.put, List.setIfInBounds_toArray, List.set_cons_zero, List.set_cons_succ, i64_w, i32_w]
     first | done | rfl
    refine one_ (i := 4) (N := some 88) (tf8 5) rfl rfl (by kernel_rfl) (by decide) (fun K hK => ?_)
    refine val_ (v := ?_) (w1 := wr.drew.alloc (.cells #[.int .i64 so] 3)) (by rfl) rfl ?_ ?_
    rotate_left 1
    ·go_simp
     rfl
    refine hK.out _ _ ⟨blk_cell (blk_alloc _ (blk_drew HKa.out)) 0, blk_cell (blk_alloc _ (blk_drew HKb.out)) 0⟩ (fun _ => ?_)
    clear hK K
    refine one_ (i := 5) (N := some 89) (tf8 6) rfl rfl (by kernel_rfl) (by decide) (fun K hK => ?_)
    refine inn_step (W := wr.drew) rfl (.tmp 85) (.tmp 88) rfl w3.heap.size _ (ts.map (ownP st)) so rfl _ rfl (by rfl) HUd.out hsz7 hl7 ?_
    intro v1 w7 h1 h2 h3
    obtain ⟨Aj, cj, rfl⟩ := Kd.R_slice h1
    obtain ⟨_, hcj, hCj⟩ := Kd.R_reads' h1
    refine hK.out _ _ ⟨blk_cell ((h2.block _ hla).trans (blk_drew HKa.out)) 0, blk_cell ((h2.block _ hlb).trans (blk_drew HKb.out)) 0⟩ (fun _ => ?_)
    clear hK K
    refine last_ (i := 6) (N := some 90) (tf8 7) rfl rfl (by kernel_rfl) (by decide) (fun K hK => ?_)
    refine goes_ Tryz.func14 (by kernel_rfl) rfl #[.pointer (some ⟨g, 0, none⟩), .slice Aj (ts.map (ownP st) ++ [so]).length cj] (by rfl) rfl rfl (by first | rfl | (go_simp; done) | (go_simp; exact ⟨rfl, rfl⟩) | (go_simp; rfl)) ?_
    refine (tjoin_any (H0.out.below (below_then HB3.out HB3.out.size (HBd.out.trans h2))) HA.out (by omega) Aj cj (ts.map (ownP st) ++ [so]) hCj hcj (by omega)).mono ?_
    rintro e8 w8 ⟨rfl, hb8⟩
    refine ⟨_, rfl, hK.out _ _ ?_⟩
    clear hK K
    have HB8 := Lib.hid (below_then (HBd.out.trans h2) (Nat.le_trans HBd.out.size h2.size) hb8)
    refine pxt_ (v := ?_) (a' := ?_) rfl rfl (by kernel_rfl) (fun _ _ _ h => h) (Or.inl ⟨by rfl, ?_⟩) ?_ ?_
    rotate_left
    ·intro w'
     go_simp
     first | done | with_reducible rfl
    rotate_left
    ·simp only [Act.put, List.setIfInBounds_toArray, List.set_cons_zero, List.set_cons_succ, i64_w, i32_w]
     first | done | rfl
    refine done_ (by kernel_rfl) ?_
    go_wp2_with fail
    go_ret
    exact ⟨by rw [HRj.out]; rfl, below_then HB0.out HB0.out.size (below_then HB3.out HB3.out.size HB8.out)⟩
   | true =>
    go_wp2_with fail
    refine (tkind_any HTr.out so).mono ?_
    rintro e w5 ⟨rfl, hb5⟩
    have HB5 := Lib.hid (below_then HB4.out HB4.out.size hb5)
    have HU5 := Lib.hid (Kd.R_below HUe.out hb5)
    have HT5 := Lib.hid (HTr.out.below hb5)
    have ka5 := (hb5.block _ (lt_of_block HKa.out)).trans HKa.out
    have kb5 := (hb5.block _ (lt_of_block HKb.out)).trans HKb.out
    have HKa := Lib.hid ka5
    have HKb := Lib.hid kb5
    have y1 : w5.cell? ⟨w.heap.size, 0, none⟩ = some (.pointer (some ⟨g, 0, none⟩)) := blk_cell ka5 0
    have x0 : w5.cell? ⟨w1.heap.size + 1, 0, none⟩ = some (.int .i64 so) := blk_cell kb5 0
    clear hb5 ka5 kb5 HUe HTr
    by_cases hk : kindP st so = 2
    ·have d2 : (kindP st so == 2) = true := by simp [hk]
     have HAs : Hid (AsksL 95 w.heap.size (w1.heap.size + 1) w5 (ts.map (ownP st)) (fun s => !inP st s so)) := Lib.hid (fun wx hb x hx => reafn_any (HT5.out.below hb) HA.out (by omega) w.heap.size (w1.heap.size + 1) so x _ ((hb.block _ (lt_of_block HKa.out)).trans HKa.out) ((hb.block _ (lt_of_block HKb.out)).trans HKb.out) rfl)
     obtain ⟨hn5, hc5, hC5⟩ := Kd.R_reads' HU5.out
     have hcon := fhas_any 95 w.heap.size (w1.heap.size + 1) hrun (some ⟨gl, 0, none⟩) cl (ts.map (ownP st)) hC5 (by rw [← hn5]; exact hc5) (by rw [← hn5]; omega) _ HAs.out
     rw [← hn5] at hcon
     have HCon := Lib.hid hcon
     clear hcon hC5 hn5 hc5
     go_wp2_with fail
     refine HCon.out.mono ?_
     cases hany : (ts.map (ownP st)).any (fun s => !inP st s so) with
     | false =>
      have HR : Hid (reaP st tr i = so) := Lib.hid (by rw [HRe.out, if_pos ⟨by trivial, hk, hany⟩])
      clear hany hk
      rintro e w6 ⟨rfl, hb6⟩
      have x0 : w6.cell? ⟨w1.heap.size + 1, 0, none⟩ = some (.int .i64 so) := blk_cell ((hb6.block _ (lt_of_block HKb.out)).trans HKb.out) 0
      have HB6 := Lib.hid (below_then HB5.out HB5.out.size hb6)
      clear hb6
      go_wp2_with fail
      go_ret
      exact ⟨by rw [HR.out]; rfl, below_then HB0.out HB0.out.size (below_then HB3.out HB3.out.size HB6.out)⟩
     | true =>
      have HRj : Hid (reaP st tr i = joinP st (ts.map (ownP st) ++ [so])) := Lib.hid (by rw [HRe.out, if_neg (fun h => by rw [hany] at h; cases h.2.2)])
      clear hany hk
      rintro e w6 ⟨rfl, hb6⟩
      have HB6 := Lib.hid (below_then HB5.out HB5.out.size hb6)
      have HU6 := Lib.hid (Kd.R_below HU5.out hb6)
      have HT6 := Lib.hid (HT5.out.below hb6)
      have ka6 := (hb6.block _ (lt_of_block HKa.out)).trans HKa.out
      have kb6 := (hb6.block _ (lt_of_block HKb.out)).trans HKb.out
      have HKa := Lib.hid ka6
      have HKb := Lib.hid kb6
      have y1 : w6.cell? ⟨w.heap.size, 0, none⟩ = some (.pointer (some ⟨g, 0, none⟩)) := blk_cell ka6 0
      have x0 : w6.cell? ⟨w1.heap.size + 1, 0, none⟩ = some (.int .i64 so) := blk_cell kb6 0
      clear hb6 ka6 kb6
      go_wp2_with fail
      have hlj : ((ts.map (ownP st)) ++ [so]).length ≤ 1000 := by simp; omega
      have hsz7 := HB6.out.size
      have hl7 : (ts.map (ownP st)).length < 1000000 := by simp; omega
      have HUd := Lib.hid (Kd.R_drew HU6.out)
      have HTd := Lib.hid (HT6.out.below (below_drew (Below.refl _ _)))
      have HBd := Lib.hid (below_drew HB6.out)
      refine start_ (n := 8) (S := fun w' => w'.cell? ⟨w.heap.size, 0, none⟩ = some (.pointer (some ⟨g, 0, none⟩)) ∧ w'.cell? ⟨w1.heap.size + 1, 0, none⟩ = some (.int .i64 so)) (ds := [6]) (tf8 0) (by kernel_rfl) rfl (by kernel_rfl) ⟨y1, x0⟩ (fun hHeld => ?_)
      refine nxt_ (v := ?_) (a' := ?_) rfl rfl (by kernel_rfl) (fun _ _ _ h => h) (Or.inl ⟨by rfl, ?_⟩) hHeld ?_ ?_
      rotate_left
      ·rintro w' ⟨s0, s1⟩
       go_simp
       first | done | with_reducible rfl
      rotate_left
      ·simp only [Act.put, List.setIfInBounds_toArray, List.set_cons_zero, List.set_cons_succ, i64_w, i32_w]
       first | done | rfl
      iterate 2
       refine pxt_ (v := ?_) (a' := ?_) rfl rfl (by kernel_rfl) (fun _ _ _ h => h) (Or.inl ⟨by rfl, ?_⟩) ?_ ?_
       rotate_left
       ·intro w'
        go_simp
        first | done | with_reducible rfl
       rotate_left
       ·simp only [Act.put, List.setIfInBounds_toArray, List.set_cons_zero, List.set_cons_succ, i64_w, i32_w]
        first | done | rfl
      refine nxt_ (v := ?_) (a' := ?_) rfl rfl (by kernel_rfl) (fun _ _ _ h => h) (Or.inl ⟨by rfl, ?_⟩) hHeld ?_ ?_
      rotate_left
      ·rintro w' ⟨s0, s1⟩
       go_simp
       first | done | with_reducible rfl
      rotate_left
      ·simp only [Act.put, List.setIfInBounds_toArray, List.set_cons_zero, List.set_cons_succ, i64_w, i32_w]
       first | done | rfl
      refine one_ (i := 4) (N := some 88) (tf8 5) rfl rfl (by kernel_rfl) (by decide) (fun K hK => ?_)
      refine val_ (v := ?_) (w1 := w6.drew.alloc (.cells #[.int .i64 so] 3)) (by rfl) rfl ?_ ?_
      rotate_left 1
      ·go_simp
       rfl
      refine hK.out _ _ ⟨blk_cell (blk_alloc _ (blk_drew HKa.out)) 0, blk_cell (blk_alloc _ (blk_drew HKb.out)) 0⟩ (fun _ => ?_)
      clear hK K
      refine one_ (i := 5) (N := some 89) (tf8 6) rfl rfl (by kernel_rfl) (by decide) (fun K hK => ?_)
      refine inn_step (W := w6.drew) rfl (.tmp 85) (.tmp 88) rfl w3.heap.size _ (ts.map (ownP st)) so rfl _ rfl (by rfl) HUd.out hsz7 hl7 ?_
      intro v1 w7 h1 h2 h3
      obtain ⟨Aj, cj, rfl⟩ := Kd.R_slice h1
      obtain ⟨_, hcj, hCj⟩ := Kd.R_reads' h1
      refine hK.out _ _ ⟨blk_cell ((h2.block _ hla).trans (blk_drew HKa.out)) 0, blk_cell ((h2.block _ hlb).trans (blk_drew HKb.out)) 0⟩ (fun _ => ?_)
      clear hK K
      refine last_ (i := 6) (N := some 90) (tf8 7) rfl rfl (by kernel_rfl) (by decide) (fun K hK => ?_)
      refine goes_ Tryz.func14 (by kernel_rfl) rfl #[.pointer (some ⟨g, 0, none⟩), .slice Aj (ts.map (ownP st) ++ [so]).length cj] (by rfl) rfl rfl (by first | rfl | (go_simp; done) | (go_simp; exact ⟨rfl, rfl⟩) | (go_simp; rfl)) ?_
      refine (tjoin_any (H0.out.below (below_then HB3.out HB3.out.size (HBd.out.trans h2))) HA.out (by omega) Aj cj (ts.map (ownP st) ++ [so]) hCj hcj (by omega)).mono ?_
      rintro e8 w8 ⟨rfl, hb8⟩
      refine ⟨_, rfl, hK.out _ _ ?_⟩
      clear hK K
      have HB8 := Lib.hid (below_then (HBd.out.trans h2) (Nat.le_trans HBd.out.size h2.size) hb8)
      refine pxt_ (v := ?_) (a' := ?_) rfl rfl (by kernel_rfl) (fun _ _ _ h => h) (Or.inl ⟨by rfl, ?_⟩) ?_ ?_
      rotate_left
      ·intro w'
       go_simp
       first | done | with_reducible rfl
      rotate_left
      ·simp only [Act.put, List.setIfInBounds_toArray, List.set_cons_zero, List.set_cons_succ, i64_w, i32_w]
       first | done | rfl
      refine done_ (by kernel_rfl) ?_
      go_wp2_with fail
      go_ret
      exact ⟨by rw [HRj.out]; rfl, below_then HB0.out HB0.out.size (below_then HB3.out HB3.out.size HB8.out)⟩
    ·have d2 : (kindP st so == 2) = false := by simp [hk]
     have HRj : Hid (reaP st tr i = joinP st (ts.map (ownP st) ++ [so])) := Lib.hid (by rw [HRe.out, if_neg (fun h => hk h.2.1)])
     clear hk
     go_wp2_with fail
     have hlj : ((ts.map (ownP st)) ++ [so]).length ≤ 1000 := by simp; omega
     have hsz7 := HB5.out.size
     have hl7 : (ts.map (ownP st)).length < 1000000 := by simp; omega
     have HUd := Lib.hid (Kd.R_drew HU5.out)
     have HTd := Lib.hid (HT5.out.below (below_drew (Below.refl _ _)))
     have HBd := Lib.hid (below_drew HB5.out)
     refine start_ (n := 8) (S := fun w' => w'.cell? ⟨w.heap.size, 0, none⟩ = some (.pointer (some ⟨g, 0, none⟩)) ∧ w'.cell? ⟨w1.heap.size + 1, 0, none⟩ = some (.int .i64 so)) (ds := [6]) (tf8 0) (by kernel_rfl) rfl (by kernel_rfl) ⟨y1, x0⟩ (fun hHeld => ?_)
     refine nxt_ (v := ?_) (a' := ?_) rfl rfl (by kernel_rfl) (fun _ _ _ h => h) (Or.inl ⟨by rfl, ?_⟩) hHeld ?_ ?_
     rotate_left
     ·rintro w' ⟨s0, s1⟩
      go_simp
      first | done | with_reducible rfl
     rotate_left
     ·simp only [Act.put, List.setIfInBounds_toArray, List.set_cons_zero, List.set_cons_succ, i64_w, i32_w]
      first | done | rfl
     iterate 2
      refine pxt_ (v := ?_) (a' := ?_) rfl rfl (by kernel_rfl) (fun _ _ _ h => h) (Or.inl ⟨by rfl, ?_⟩) ?_ ?_
      rotate_left
      ·intro w'
       go_simp
       first | done | with_reducible rfl
      rotate_left
      ·simp only [Act.put, List.setIfInBounds_toArray, List.set_cons_zero, List.set_cons_succ, i64_w, i32_w]
       first | done | rfl
     refine nxt_ (v := ?_) (a' := ?_) rfl rfl (by kernel_rfl) (fun _ _ _ h => h) (Or.inl ⟨by rfl, ?_⟩) hHeld ?_ ?_
     rotate_left
     ·rintro w' ⟨s0, s1⟩
      go_simp
      first | done | with_reducible rfl
     rotate_left
     ·simp only [Act.put, List.setIfInBounds_toArray, List.set_cons_zero, List.set_cons_succ, i64_w, i32_w]
      first | done | rfl
     refine one_ (i := 4) (N := some 88) (tf8 5) rfl rfl (by kernel_rfl) (by decide) (fun K hK => ?_)
     refine val_ (v := ?_) (w1 := w5.drew.alloc (.cells #[.int .i64 so] 3)) (by rfl) rfl ?_ ?_
     rotate_left 1
     ·go_simp
      rfl
     refine hK.out _ _ ⟨blk_cell (blk_alloc _ (blk_drew HKa.out)) 0, blk_cell (blk_alloc _ (blk_drew HKb.out)) 0⟩ (fun _ => ?_)
     clear hK K
     refine one_ (i := 5) (N := some 89) (tf8 6) rfl rfl (by kernel_rfl) (by decide) (fun K hK => ?_)
     refine inn_step (W := w5.drew) rfl (.tmp 85) (.tmp 88) rfl w3.heap.size _ (ts.map (ownP st)) so rfl _ rfl (by rfl) HUd.out hsz7 hl7 ?_
     intro v1 w7 h1 h2 h3
     obtain ⟨Aj, cj, rfl⟩ := Kd.R_slice h1
     obtain ⟨_, hcj, hCj⟩ := Kd.R_reads' h1
     refine hK.out _ _ ⟨blk_cell ((h2.block _ hla).trans (blk_drew HKa.out)) 0, blk_cell ((h2.block _ hlb).trans (blk_drew HKb.out)) 0⟩ (fun _ => ?_)
     clear hK K
     refine last_ (i := 6) (N := some 90) (tf8 7) rfl rfl (by kernel_rfl) (by decide) (fun K hK => ?_)
     refine goes_ Tryz.func14 (by kernel_rfl) rfl #[.pointer (some ⟨g, 0, none⟩), .slice Aj (ts.map (ownP st) ++ [so]).length cj] (by rfl) rfl rfl (by first | rfl | (go_simp; done) | (go_simp; exact ⟨rfl, rfl⟩) | (go_simp; rfl)) ?_
     refine (tjoin_any (H0.out.below (below_then HB3.out HB3.out.size (HBd.out.trans h2))) HA.out (by omega) Aj cj (ts.map (ownP st) ++ [so]) hCj hcj (by omega)).mono ?_
     rintro e8 w8 ⟨rfl, hb8⟩
     refine ⟨_, rfl, hK.out _ _ ?_⟩
     clear hK K
     have HB8 := Lib.hid (below_then (HBd.out.trans h2) (Nat.le_trans HBd.out.size h2.size) hb8)
     refine pxt_ (v := ?_) (a' := ?_) rfl rfl (by kernel_rfl) (fun _ _ _ h => h) (Or.inl ⟨by rfl, ?_⟩) ?_ ?_
     rotate_left
     ·intro w'
      go_simp
      first | done | with_reducible rfl
     rotate_left
     ·simp only [Act.put, List.setIfInBounds_toArray, List.set_cons_zero, List.set_cons_succ, i64_w, i32_w]
      first | done | rfl
     refine done_ (by kernel_rfl) ?_
     go_wp2_with fail
     go_ret
     exact ⟨by rw [HRj.out]; rfl, below_then HB0.out HB0.out.size (below_then HB3.out HB3.out.size HB8.out)⟩
theorem lset_any (h : TrM w g v st tr) (good : chkP v st tr = .none) (hF : fewP st tr = true) (set : Nat) (hset : set < 4294967296) (i : Int) :
  Calls Tryz.prog 65 #[.pointer (some ⟨g, 0, none⟩), .int .u32 (set : Nat), .int .i64 i] w fun e w' => e = .returned (.int .u32 (leaP st tr set i : Nat)) ∧ Below w.heap.size w w' := by
 have H := Lib.hid h
 have HGood := Lib.hid good
 have HF := Lib.hid hF
 clear h good hF
 go_enter Tryz.func65, Tryz.ntmps65
 go_wp2_with fail
 refine (reach_any H.out HGood.out HF.out i).mono ?_
 rintro e w1 ⟨rfl, hb1⟩
 have HB1 := Lib.hid hb1
 clear hb1
 by_cases c : reaP st tr i = -1
 ·have d1 : (reaP st tr i == -1) = true := by simp [c]
  have HR : Hid (leaP st tr set i = 0) := Lib.hid (if_pos c)
  clear c
  go_wp2_with fail
  go_ret
  exact ⟨by rw [HR.out]; rfl, HB1.out⟩
 ·have d1 : (reaP st tr i == -1) = false := by simp [c]
  have HR : Hid (leaP st tr set i = set &&& belP st (reaP st tr i)) := Lib.hid (if_neg c)
  obtain ⟨⟨_, _, hn1, hn, hn2⟩, _⟩ := chk_none HGood.out
  have hbl : belP st (reaP st tr i) < 4294967296 := by
   have h1 := setN_lt st (fun x => inP st x (reaP st tr i)) st.length
   have h2 : 2 ^ st.length ≤ 2 ^ 24 := Nat.pow_le_pow_right (by omega) hn
   have h3 : (2 : Nat) ^ 24 < 4294967296 := by decide
   unfold belP; omega
  have e1 : bits BinOp.and IntKind.u32 (set : Int) (belP st (reaP st tr i) : Nat) = ((set &&& belP st (reaP st tr i) : Nat) : Int) := u32_and_nat _ _ hset hbl
  clear c hbl
  go_wp2_with fail
  refine (tbel_any (H.out.below HB1.out) (good_ahead HGood.out) hn (reaP st tr i)).mono ?_
  rintro e w2 ⟨rfl, hb2⟩
  go_wp2_with (simp only [e1])
  go_ret
  exact ⟨by rw [HR.out, ← e1]; rfl, below_then HB1.out HB1.out.size hb2⟩
theorem clash_any (h : TrM w g v st tr) (good : chkP v st tr = .none) (hF : fewP st tr = true) (set : Nat) (hset : set < 4294967296) (i k : Int) :
  Calls Tryz.prog 60 #[.pointer (some ⟨g, 0, none⟩), .int .u32 (set : Nat), .int .i64 i, .int .i64 k] w fun e w' => e = .returned (.bool (claP st tr set i k)) ∧ Below w.heap.size w w' := by
 have H := Lib.hid h
 have HGood := Lib.hid good
 have HF := Lib.hid hF
 have hle : ∀ j, leaP st tr set j < 4294967296 := by
  intro j
  unfold leaP
  split
  ·decide
  ·exact Nat.lt_of_le_of_lt Nat.and_le_left hset
 have e1 : bits BinOp.and IntKind.u32 (leaP st tr set i : Nat) (leaP st tr set k : Nat) = ((leaP st tr set i &&& leaP st tr set k : Nat) : Int) := u32_and_nat _ _ (hle i) (hle k)
 have HR : Hid (claP st tr set i k = (((leaP st tr set i &&& leaP st tr set k : Nat) : Int) != 0)) := Lib.hid (by
  unfold claP
  by_cases c : leaP st tr set i &&& leaP st tr set k = 0
  ·rw [c]; rfl
  ·rw [decide_eq_true c]; symm; rw [bne_iff_ne]; omega)
 clear h good hF hle
 go_enter Tryz.func60, Tryz.ntmps60
 go_wp2_with fail
 refine (lset_any H.out HGood.out HF.out set hset i).mono ?_
 rintro e w1 ⟨rfl, hb1⟩
 have HB1 := Lib.hid hb1
 clear hb1
 go_wp2_with fail
 refine (lset_any (H.out.below HB1.out) HGood.out HF.out set hset k).mono ?_
 rintro e w2 ⟨rfl, hb2⟩
 go_wp2_with (simp only [e1])
 go_ret
 exact ⟨by rw [HR.out, ← e1]; rfl, below_then HB1.out HB1.out.size hb2⟩
end
end Go.Proofs.YtikilglbhnplaaaGreatDoor
end
section
namespace Go.Proofs.YtikilglbhnplaaaGreatDoor
open Go.RowKit Go.Proofs.YtikilglbhnplaaaGreatDoorW.PrintWords
open PX (T V)
theorem few_z {st : List Sta} {tr : List Tra} (h : fewP st tr = true) : ∀ x ∈ tr, x.f2.size ≤ 281474976710656 := by
 simp only [fewP, Bool.and_eq_true, decide_eq_true_eq, List.all_eq_true] at h
 intro x hx
 have := h.2 x hx
 simp only [fewT, Bool.and_eq_true, decide_eq_true_eq] at this
 omega
theorem few_ap {l : List Ac} (h : fewAP l = true) : ∀ a ∈ l, a.f3.size ≤ 281474976710656 := by
 simp only [fewAP, Bool.and_eq_true, decide_eq_true_eq, List.all_eq_true] at h
 intro a ha
 have := h.1 a ha
 omega
theorem few_a {st : List Sta} {tr : List Tra} (h : fewP st tr = true) : (∀ x ∈ st, (∀ a ∈ x.f3, a.f3.size ≤ 281474976710656) ∧ ∀ a ∈ x.f4, a.f3.size ≤ 281474976710656) ∧ ∀ x ∈ tr, ∀ a ∈ x.f5, a.f3.size ≤ 281474976710656 := by
 simp only [fewP, Bool.and_eq_true, decide_eq_true_eq, List.all_eq_true] at h
 refine ⟨fun x hx => ?_, fun x hx => ?_⟩
 ·have := h.1.2 x hx
  simp only [fewS, Bool.and_eq_true] at this
  exact ⟨few_ap this.1.1, few_ap this.1.2⟩
 ·have := h.2 x hx
  simp only [fewT, Bool.and_eq_true] at this
  exact few_ap this.1.1
theorem rdy_any (x : Tra) (A3 A5 : Option Addr) (c3 c5 : Nat) (hs : x.f2.size ≤ 281474976710656) (E : Option Addr) (ecap : Nat) (env : List Int) (w : World) (hw : Laid w) (hE : NumsC w E env.length env) (ev : Int) :
  Calls Tryz.prog 58 #[.agg #[.int .i64 x.f0, .int .i64 x.f1, .string x.f2, .slice A3 x.f3.length c3, .bool x.f4, .slice A5 x.f5.length c5], .slice E env.length ecap, .int .i64 ev] w fun e w' => e = .returned (.tuple #[.bool (rdyP x env ev).1, .bool (rdyP x env ev).2]) ∧ Below w.heap.size w w' := by
 have hb0 : Below w.heap.size w (w.alloc (.cells #[.int .i64 x.f0, .int .i64 x.f1, .string x.f2, .slice A3 x.f3.length c3, .bool x.f4, .slice A5 x.f5.length c5] 63)) := (Below.refl _ w).alloc (Nat.le_refl _) _
 have HB0 := Lib.hid hb0
 have HW := Lib.hid (hw.below hb0)
 have HE := Lib.hid (Kd.C_below hE hb0)
 have hk0 := blk_new w (.cells #[.int .i64 x.f0, .int .i64 x.f1, .string x.f2, .slice A3 x.f3.length c3, .bool x.f4, .slice A5 x.f5.length c5] 63)
 have hR : rdyP x env ev = if x.f1 ≠ ev ∨ x.f2.toList.isEmpty = true then (x.f1 == ev, false) else if (ofR (parseT x.f2) env).2.ok && (ofR (parseT x.f2) env).1.1 == 2 then ((ofR (parseT x.f2) env).1.2 == 1, false) else (false, true) := rfl
 obtain ⟨y0, y1, y2, y3, y4, y5⟩ : _ ∧ _ ∧ _ ∧ _ ∧ _ ∧ _ := ⟨blk_cell hk0 0, blk_cell hk0 1, blk_cell hk0 2, blk_cell hk0 3, blk_cell hk0 4, blk_cell hk0 5⟩
 clear hb0 hw hE hk0
 have HS := Lib.hid hs
 clear hs
 obtain ⟨f0, f1, f2, f3, f4, f5⟩ := x
 simp only at *
 by_cases h1 : f1 = ev
 ·subst h1
  have d1 : (f1 != f1) = false := by simp
  have d2 : (f1 == f1) = true := by simp
  by_cases h2 : f2.toList.isEmpty = true
  ·rw [if_pos (.inr h2)] at hR
   have HR := Lib.hid hR
   have e2 : f2.toList = [] := List.isEmpty_iff.1 h2
   clear hR
   go_enter Tryz.func58, Tryz.ntmps58
   go_wp2_with fail
   go_ret2
   exact ⟨by rw [HR.out]; simp, HB0.out⟩
  ·have h2' : f2.toList.isEmpty = false := by simpa using h2
   rw [if_neg (by rintro (h | h); exact h rfl; exact h2 h)] at hR
   have HR := Lib.hid hR
   clear hR h2
   go_enter Tryz.func58, Tryz.ntmps58
   go_wp2_with fail
   refine (of_any f2 HS.out E ecap env _ HW.out HE.out (parseT f2) (parseT_ok f2)).mono ?_
   rintro e w1 ⟨er, rfl, hev, hb⟩
   generalize ofR (parseT f2) env = r at hev HR ⊢
   obtain ⟨⟨k, n⟩, err⟩ := r
   have hb' := hb.alloc hb.size (.cells #[.int .i64 k, .int .i64 n] 147)
   have HB1 := Lib.hid (below_then HB0.out HB0.out.size hb')
   clear hb hb' y0 y1 y2 y3 y4 y5
   simp only [agV]
   by_cases he : err = .none
   ·subst he
    obtain rfl : er = .nilIface := hev
    by_cases hk : k = 2
    ·subst hk
     go_wp2_with fail
     go_ret2
     exact ⟨by rw [HR.out]; rfl, HB1.out⟩
    ·have k1 : (k == 2) = false := by simp [hk]
     have k2 : (k != 2) = true := by simp [hk]
     go_wp2_with fail
     go_ret2
     exact ⟨by rw [HR.out]; simp only [k1]; rfl, HB1.out⟩
   ·have hok : err.ok = false := by cases err <;> first | rfl | exact absurd rfl he
    rcases er_some hev he with ⟨c, rfl⟩ | ⟨c, rfl⟩
    all_goals
     go_wp2_with fail
     go_ret2
     exact ⟨by rw [HR.out]; simp only [hok]; rfl, HB1.out⟩
 ·have d1 : (f1 != ev) = true := by simp [h1]
  have d2 : (f1 == ev) = false := by simp [h1]
  rw [if_pos (.inl h1)] at hR
  have HR := Lib.hid hR
  clear hR h1
  go_enter Tryz.func58, Tryz.ntmps58
  go_wp2_with fail
  go_ret2
  exact ⟨by rw [HR.out]; simp [d2], HB0.out⟩
end Go.Proofs.YtikilglbhnplaaaGreatDoor
end
section
namespace Go.Proofs.YtikilglbhnplaaaGreatDoor
open Go.RowKit Go.Proofs.YtikilglbhnplaaaGreatDoorW.PrintWords
open PX (T V)
theorem addI_len (out : List Int) (i : Int) : (addI out i).length ≤ out.length + 1 := by
 unfold addI; split
 ·omega
 ·simp
theorem up_len24 {st : List Sta} (ha : Ahead st) (hl : st.length ≤ 24) (s : Int) : (upP st s).length ≤ 24 := by
 by_cases c : thS st s
 ·have := upF_len st (s.toNat + 1) s
  have := c.1
  have := c.2
  unfold upP; omega
 ·rw [upP_eq ha, if_neg (fun h => c h.1)]; simp
theorem inn_lit (w : World) (a : Int) : InnR (w.alloc (.cells #[.int .i64 a] 3)) w.heap.size (.slice (some ⟨w.heap.size, 0, none⟩) 1 1) [a] :=
 Kd.R_of_own (enc := Value.int .i64) (xs := [a]) (World.ownsRow_lit (base := w.heap.size) (e := 3) (size := 1) w #[.int .i64 a] 1 (Nat.le_refl _) (by decide) rfl) (fun _ _ => trivial)
section
variable {g : Nat} {v : Int} {st : List Sta} {tr : List Tra} {w : World}
theorem gather_any (h : TrM w g v st tr) (good : chkP v st tr = .none) (hF : fewP st tr = true) (hw : Laid w) (set : Nat) (hset : set < 4294967296) (E : Option Addr) (ecap : Nat) (env : List Int) (hE : NumsC w E env.length env) (ev : Int) :
  Calls Tryz.prog 25 #[.pointer (some ⟨g, 0, none⟩), .int .u32 (set : Nat), .slice E env.length ecap, .int .i64 ev] w fun e w' => ∃ u, e = .returned (.tuple #[u, .int .i64 ((gaP st tr set env ev).2 : Nat)]) ∧ InnR w' w.heap.size u (gaP st tr set env ev).1 ∧ Below w.heap.size w w' := by
 have H := Lib.hid h
 have HE := Lib.hid hE
 have HW := Lib.hid hw
 have HA := Lib.hid (good_ahead good)
 have HFz := Lib.hid (few_z hF)
 have HLl := Lib.hid (lvN_len st set st.length)
 obtain ⟨⟨_, _, hn1, hn, hn2⟩, _⟩ := chk_none good
 obtain ⟨hS, hTr⟩ := few_s hF
 generalize hG : gaP st tr set env ev = G
 have HG : Hid (gaF st tr env ev (lvP st set) [] 0 = G) := Lib.hid hG
 clear h good hF hE hw hG
 go_enter Tryz.func25, Tryz.ntmps25
 go_wp2_with fail
 go_step3
 go_wp2_with fail
 refine (tchart_any H.out (by omega) (by omega) (by omega) hS hTr).mono ?_
 rintro e w1 ⟨gS, ca, B, cb, rfl, hM, hb1, _, _, _⟩
 generalize (some ⟨gS, 0, none⟩ : Option Addr) = A at hM ⊢
 have hal : Below w1.heap.size w1 (w1.alloc (.cells #[.int .i64 v, .slice A st.length ca, .slice B tr.length cb] 25)) := (Below.refl _ w1).alloc (Nat.le_refl _) _
 have hkc := blk_new w1 (.cells #[.int .i64 v, .slice A st.length ca, .slice B tr.length cb] 25)
 have HB2 := Lib.hid (below_then hb1 hb1.size hal)
 have HM := Lib.hid (hM.below hal)
 have HKC := Lib.hid hkc
 clear hM hb1 hkc hal hS hTr
 go_wp2_with fail
 go_step3
 go_wp2_with fail
 generalize w1.alloc (.cells #[.int .i64 v, .slice A st.length ca, .slice B tr.length cb] 25) = w2 at HB2 HM HKC ⊢
 refine (tlv_any (H.out.below HB2.out) hn set hset).mono ?_
 rintro e w3 ⟨uL, rfl, hu, hb3⟩
 obtain ⟨AL, cL, rfl⟩ := Kd.R_slice hu
 obtain ⟨_, _, hCL⟩ := Kd.R_reads' hu
 have HB3 := Lib.hid (below_then HB2.out HB2.out.size hb3)
 have HM3 := Lib.hid (HM.out.below hb3)
 have HKC3 := Lib.hid ((hb3.block _ (lt_of_block HKC.out)).trans HKC.out)
 have HCL := Lib.hid hCL
 clear hu hCL hb3 HM HKC HB2
 have hlvl : (lvP st set).length ≤ 24 := by have := HLl.out; unfold lvP; omega
 generalize lvP st set = lv at *
 go_wp2_with fail
 go_loopg [11, 12, 29] lv.length (fun gh o n i wr => ∃ (q m : Nat) (out : List Int), q + gh = lv.length ∧ i = .int .i64 q ∧ n = .int .i64 (m : Nat) ∧ m ≤ 1000 * q ∧ out.length ≤ q ∧ Hid (InnR wr w3.heap.size o out) ∧ Hid (Below w3.heap.size w3 wr) ∧ Hid (gaF st tr env ev (lv.drop q) out m = G))
 case atStart => exact ⟨0, 0, [], by omega, rfl, rfl, by omega, by simp, Lib.hid (Kd.R_nil _ _ _ _ _), Lib.hid (Below.refl _ _), Lib.hid (by rw [List.drop_zero]; exact HG.out)⟩
 case round =>
  clear HG
  obtain ⟨q, m, out, hqg, rfl, rfl, hm, hol, HO, HB, HI⟩ := hrel
  obtain ⟨AO, cO, rfl⟩ := Kd.R_slice HO.out
  have HBw := Lib.hid (below_then HB3.out HB3.out.size HB.out)
  cases gk with
  | zero =>
   obtain rfl : q = lv.length := by omega
   have HG : Hid ((out, m) = G) := Lib.hid (by rw [← HI.out, List.drop_length]; rfl)
   have p1 : ((lv.length : Int) < (lv.length : Int)) = False := eq_false (by omega)
   go_wp2_with fail
   rw [Exit.noGoto_ret]
   go_ret2
   exact ⟨_, by rw [← HG.out]; rfl, by rw [← HG.out]; exact Kd.R_lower HO.out HB3.out.size, HBw.out⟩
  | succ gh =>
   obtain ⟨wo, rfl⟩ : ∃ wo : World, wo = wr := ⟨_, rfl⟩
   have hlt : q < lv.length := by omega
   obtain ⟨ad, rfl, a0⟩ := nums_at (Kd.C_below HCL.out HB.out) q hlt
   have hds : lv.drop q = lv[q] :: lv.drop (q + 1) := List.drop_eq_getElem_cons hlt
   have HI2 := HI.out
   rw [hds] at HI2
   simp only [gaF] at HI2
   have p1 : ((q : Int) < (lv.length : Int)) = True := eq_true (by omega)
   clear hds HI
   generalize lv[q] = a at *
   have HI := Lib.hid HI2
   have hup := up_len24 HA.out hn a
   have HL1 := Lib.hid (inn_lit wo a)
   have hal : Below wo.heap.size wo (wo.alloc (.cells #[.int .i64 a] 3)) := (Below.refl _ wo).alloc (Nat.le_refl _) _
   have HAl := Lib.hid hal
   clear HI2 hal
   go_wp2_with fail
   generalize wo.alloc (.cells #[.int .i64 a] 3) = w4 at HL1 HAl ⊢
   refine (tup_any (H.out.below (below_then HBw.out HBw.out.size HAl.out)) HA.out (by omega) a).mono ?_
   rintro e w5 ⟨uU, rfl, hu, hb5⟩
   obtain ⟨AU, cU, rfl⟩ := Kd.R_slice hu
   obtain ⟨_, _, hCU⟩ := Kd.R_reads' hu
   have HCU := Lib.hid hCU
   have HL5 := Lib.hid (Kd.R_below HL1.out hb5)
   have HB5 := Lib.hid (below_then HAl.out HAl.out.size hb5)
   have hs5 := HB5.out.size
   have hl5 : [a].length + (upP st a).length < 1000000 := by simp; omega
   clear hu hCU hb5 HL1 HAl a0
   go_wp2_with (at_builtin; refine inn_app_row rfl (.tmp 34) (.tmp 37) rfl wo.heap.size _ [a] (upP st a) AU (upP st a).length cU rfl rfl rfl HL5.out HCU.out hs5 hl5 ?_)
   intro v6 w6 h6 hb6 hg6
   obtain ⟨way, hway⟩ : ∃ way : List Int, way = a :: upP st a := ⟨_, rfl⟩
   rw [← hway] at h6
   obtain ⟨AW, cW, rfl⟩ := Kd.R_slice h6
   obtain ⟨_, _, hCW⟩ := Kd.R_reads' h6
   have HCW : Hid (NumsC w6 AW way.length way) := Lib.hid hCW
   have HB6 := Lib.hid (HB5.out.trans hb6)
   have hwl : way.length ≤ 25 := by rw [hway]; simp; omega
   have HI6 : Hid (gaF st tr env ev (lv.drop (q + 1)) (addI out (scS tr env ev way m).1) (scS tr env ev way m).2 = G) := Lib.hid (by rw [hway]; exact HI.out)
   clear h6 hb6 hg6 hCW HL5 HB5 HCU HI hl5 hway
   go_wp2_with fail
   go_loopg [11, 12, 40] way.length (fun g1 o n j wy => ∃ (k m1 : Nat), k + g1 = way.length ∧ j = .int .i64 k ∧ n = .int .i64 (m1 : Nat) ∧ o = .slice AO out.length cO ∧ m1 ≤ 1000 * q + 40 * k ∧ Hid (Below w6.heap.size w6 wy) ∧ Hid (scS tr env ev (way.drop k) m1 = scS tr env ev way m))
   case atStart => exact ⟨0, m, by omega, rfl, rfl, rfl, by omega, Lib.hid (Below.refl _ _), Lib.hid (by rw [List.drop_zero])⟩
   case round =>
    obtain ⟨k, m1, hkg, rfl, rfl, rfl, hm1, HBy, HSy⟩ := hrel
    obtain ⟨wy, rfl⟩ : ∃ wy : World, wy = wr := ⟨_, rfl⟩
    have HRy := Lib.hid (below_then HB6.out HB6.out.size HBy.out)
    cases gk with
    | zero =>
     obtain rfl : k = way.length := by omega
     have hS : scS tr env ev way m = (-1, m1) := by rw [← HSy.out, List.drop_length]; rfl
     have HI2 := HI6.out
     rw [hS] at HI2
     have HI3 : Hid (gaF st tr env ev (lv.drop (q + 1)) out m1 = G) := Lib.hid HI2
     have HO2 := Lib.hid (Kd.R_below HO.out HRy.out)
     have HB7 := Lib.hid (below_then HB.out HB.out.size HRy.out)
     have p2 : ((way.length : Int) < (way.length : Int)) = False := eq_false (by omega)
     clear hS HI2 HI6
     go_wp2_with fail
     go_roundg gh
     case measure => omega
     case rel => exact ⟨q + 1, m1, out, by omega, by go_num, rfl, by omega, by omega, HO2, HB7, HI3⟩
    | succ g1 =>
     have hlk : k < way.length := by omega
     obtain ⟨ad2, rfl, a2⟩ := nums_at (Kd.C_below HCW.out HBy.out) k hlk
     have hdk : way.drop k = way[k] :: way.drop (k + 1) := List.drop_eq_getElem_cons hlk
     have HS2 := HSy.out
     rw [hdk] at HS2
     simp only [scS] at HS2
     have p2 : ((k : Int) < (way.length : Int)) = True := eq_true (by omega)
     clear hdk HSy
     generalize way[k] = s at *
     have HSy := Lib.hid HS2
     have HTy := Lib.hid (below_then HB3.out HB3.out.size (below_then HB.out HB.out.size HRy.out))
     have hk3 := ((below_then HB.out HB.out.size HRy.out).block _ (lt_of_block HKC3.out)).trans HKC3.out
     have HKy := Lib.hid hk3
     have HMy := Lib.hid (HM3.out.below (below_then HB.out HB.out.size HRy.out))
     have z2 : wy.cell? ⟨w1.heap.size, 2, none⟩ = some (.slice B tr.length cb) := blk_cell hk3 2
     clear HS2 hk3
     go_wp2_with fail
     go_loopg [11, 12, 47] tr.length (fun g2 o n t wz => ∃ (p m2 : Nat), p + g2 = tr.length ∧ t = .int .i64 p ∧ n = .int .i64 (m2 : Nat) ∧ o = .slice AO out.length cO ∧ m2 ≤ m1 + p ∧ Hid (Below wy.heap.size wy wz) ∧ Hid (scT env ev s (tr.drop p) p m2 = scT env ev s tr 0 m1))
     case atStart => exact ⟨0, m1, by omega, rfl, rfl, rfl, by omega, Lib.hid (Below.refl _ _), Lib.hid (by rw [List.drop_zero]; rfl)⟩
     case round =>
      clear z2
      obtain ⟨p, m2, hpg, rfl, rfl, rfl, hm2, HBz, HTz⟩ := hrel
      obtain ⟨wz, rfl⟩ : ∃ wz : World, wz = wr := ⟨_, rfl⟩
      have HRz := Lib.hid (below_then HRy.out HRy.out.size HBz.out)
      cases gk with
      | zero =>
       obtain rfl : p = tr.length := by omega
       have hT : scT env ev s tr 0 m1 = (-1, m2) := by rw [← HTz.out, List.drop_length]; rfl
       have HS2 := HSy.out
       rw [hT] at HS2
       have HS3 : Hid (scS tr env ev (way.drop (k + 1)) m2 = scS tr env ev way m) := Lib.hid HS2
       have HBy2 := Lib.hid (below_then HBy.out HBy.out.size HBz.out)
       have p3 : ((tr.length : Int) < (tr.length : Int)) = False := eq_false (by omega)
       clear hT HS2 HSy
       go_wp2_with fail
       go_roundg g1
       case measure => omega
       case rel => exact ⟨k + 1, m2, by omega, by go_num, rfl, rfl, by omega, HBy2, HS3⟩
      | succ g2 =>
       have hlp : p < tr.length := by omega
       have p3 : ((p : Int) < (tr.length : Int)) = True := eq_true (by omega)
       obtain ⟨bd, A3, c3, A5, c5, rfl, q0, q1, q2, q3, q4, q5, l3, g3, l5, g5⟩ := PAll.at_T63 (HMy.out.below HBz.out).ct (p : Int) (by omega) (by omega)
       rw [Int.toNat_natCast] at q0 q1 q2 q3 q4 q5
       have hz : (rdT tr (p : Int)).f2.size ≤ 281474976710656 := by rw [rdT_at hlp]; exact HFz.out _ (List.getElem_mem hlp)
       have HZ := Lib.hid hz
       have hT2 := HTz.out
       rw [List.drop_eq_getElem_cons hlp, ← rdT_at hlp] at hT2
       simp only [scT] at hT2
       have HAz := Lib.hid (HBz.out.alloc HBz.out.size (.cells #[.int .i64 (rdT tr p).f0, .int .i64 (rdT tr p).f1, .string (rdT tr p).f2, .slice A3 (rdT tr p).f3.length c3, .bool (rdT tr p).f4, .slice A5 (rdT tr p).f5.length c5] 63))
       have HRa := Lib.hid (HRz.out.alloc HRz.out.size (.cells #[.int .i64 (rdT tr p).f0, .int .i64 (rdT tr p).f1, .string (rdT tr p).f2, .slice A3 (rdT tr p).f3.length c3, .bool (rdT tr p).f4, .slice A5 (rdT tr p).f5.length c5] 63))
       clear hz HTz g3 g5 l3 l5
       by_cases hs : (rdT tr (p : Int)).f0 ≠ s
       ·have d1 : ((PAll.rd_T63 tr (p : Int)).f0 != s) = true := by rw [bne_iff_ne]; exact hs
        rw [if_pos hs] at hT2
        have HT3 : Hid (scT env ev s (tr.drop (p + 1)) ((p + 1 : Nat) : Int) m2 = scT env ev s tr 0 m1) := Lib.hid (by rw [← hT2]; rfl)
        clear hs hT2
        go_wp2_with fail
        go_roundg g2
        case measure => omega
        case rel => exact ⟨p + 1, m2, by omega, by go_num, rfl, rfl, by omega, HAz, HT3⟩
       ·have d1 : ((PAll.rd_T63 tr (p : Int)).f0 != s) = false := by rw [bne_eq_false_iff_eq]; exact Classical.not_not.1 hs
        rw [if_neg hs] at hT2
        have HT3 := Lib.hid hT2
        clear hs hT2
        go_wp2_with fail
        have HWr := Lib.hid (HW.out.below (below_then HBw.out HBw.out.size HRa.out))
        have HEr := Lib.hid (Kd.C_below HE.out (below_then HBw.out HBw.out.size HRa.out))
        refine (rdy_any (rdT tr (p : Int)) A3 A5 c3 c5 HZ.out E ecap env _ HWr.out HEr.out ev).mono ?_
        clear q0 q1 q2 q3 q4 q5
        cases his : (rdyP (rdT tr (p : Int)) env ev).1 with
        | true =>
         have hbad := rdy_fine his
         rw [hbad]
         have hT := HT3.out
         rw [if_pos his, hbad] at hT
         have hS := HSy.out
         rw [← hT, if_pos (by simp)] at hS
         have hI := HI6.out
         rw [← hS] at hI
         have HI7 : Hid (gaF st tr env ev (lv.drop (q + 1)) (addI out (p : Int)) m2 = G) := Lib.hid hI
         clear hT hS hI hbad his HT3 HSy HI6
         rintro e w7 ⟨rfl, hb7⟩
         have HR7 := Lib.hid (below_then HRa.out HRa.out.size hb7)
         have HO7 := Lib.hid (Kd.R_below HO.out HR7.out)
         have HB7 := Lib.hid (below_then HB.out HB.out.size HR7.out)
         obtain ⟨_, hcO, hCO⟩ := Kd.R_reads' HO7.out
         have HCO := Lib.hid hCO
         have hol2 : out.length < 1000000 := by omega
         clear hb7 hCO
         cases hc : out.contains (p : Int) with
         | true =>
          have hA : addI out (p : Int) = out := if_pos (.inr hc)
          have HI8 : Hid (gaF st tr env ev (lv.drop (q + 1)) out m2 = G) := Lib.hid (by rw [← hA]; exact HI7.out)
          clear hA HI7
          go_wp2_with fail
          refine (thas_any AO cO out (p : Int) (by omega) hcO HCO.out).mono ?_
          rw [hc]
          clear hc
          rintro e w8 ⟨rfl, hb8⟩
          have HO8 := Lib.hid (Kd.R_below HO7.out hb8)
          have HB8 := Lib.hid (below_then HB7.out HB7.out.size hb8)
          clear hb8
          go_wp2_with fail
          go_roundg gh
          case measure => omega
          case rel => exact ⟨q + 1, m2, out, by omega, by go_num, rfl, by omega, by omega, HO8, HB8, HI8⟩
         | false =>
          have hA : addI out (p : Int) = out ++ [(p : Int)] := if_neg (fun h => by rcases h with h | h; omega; rw [hc] at h; cases h)
          have HI8 : Hid (gaF st tr env ev (lv.drop (q + 1)) (out ++ [(p : Int)]) m2 = G) := Lib.hid (by rw [← hA]; exact HI7.out)
          clear hA HI7
          go_wp2_with fail
          refine (thas_any AO cO out (p : Int) (by omega) hcO HCO.out).mono ?_
          rw [hc]
          clear hc
          rintro e w8 ⟨rfl, hb8⟩
          have HO8 := Lib.hid (Kd.R_below HO7.out hb8)
          have HB8 := Lib.hid (below_then HB7.out HB7.out.size hb8)
          have hs8 := HB8.out.size
          clear hb8
          go_wp2_with (at_builtin; refine inn_append rfl (.tmp 72) (.tmp 74) rfl w3.heap.size _ out (p : Int) rfl _ rfl rfl HO8.out hs8 hol2 ?_)
          intro v9 w9 h9 hb9 hg9
          have HO9 := Lib.hid h9
          have HB9 := Lib.hid (HB8.out.trans hb9)
          clear h9 hb9 hg9
          go_wp2_with fail
          go_roundg gh
          case measure => omega
          case rel => exact ⟨q + 1, m2, out ++ [(p : Int)], by omega, by go_num, rfl, by omega, by simp; omega, HO9, HB9, HI8⟩
        | false =>
         have hmb : m2 ≤ 100000 := by omega
         cases hbad : (rdyP (rdT tr (p : Int)) env ev).2 with
         | true =>
          have hT := HT3.out
          rw [if_neg (by rw [his]; simp), hbad] at hT
          have HT4 : Hid (scT env ev s (tr.drop (p + 1)) ((p + 1 : Nat) : Int) (m2 + 1) = scT env ev s tr 0 m1) := Lib.hid (by rw [← hT]; rfl)
          clear hT hbad his HT3
          rintro e w7 ⟨rfl, hb7⟩
          have HA7 := Lib.hid (below_then HAz.out HAz.out.size hb7)
          clear hb7
          go_wp2_with fail
          go_roundg g2
          case measure => omega
          case rel => exact ⟨p + 1, m2 + 1, by omega, by go_num, by go_num, rfl, by omega, HA7, HT4⟩
         | false =>
          have hT := HT3.out
          rw [if_neg (by rw [his]; simp), hbad] at hT
          have HT4 : Hid (scT env ev s (tr.drop (p + 1)) ((p + 1 : Nat) : Int) m2 = scT env ev s tr 0 m1) := Lib.hid (by rw [← hT]; rfl)
          clear hT hbad his HT3
          rintro e w7 ⟨rfl, hb7⟩
          have HA7 := Lib.hid (below_then HAz.out HAz.out.size hb7)
          clear hb7
          go_wp2_with fail
          go_roundg g2
          case measure => omega
          case rel => exact ⟨p + 1, m2, by omega, by go_num, rfl, rfl, by omega, HA7, HT4⟩
end
end Go.Proofs.YtikilglbhnplaaaGreatDoor
end
section
namespace Go.Proofs.YtikilglbhnplaaaGreatDoor
open Go.RowKit Go.Proofs.YtikilglbhnplaaaGreatDoorW.PrintWords
open PX (T V)
def AsksL1 (F : Nat) (g1 : Nat) (w : World) (l : List Int) (p : Int → Bool) : Prop :=
 ∀ wr, Below w.heap.size w wr → ∀ x, x ∈ l → Calls Tryz.prog F #[.int .i64 x, .pointer (some ⟨g1, 0, none⟩)] wr fun e w' => e = .returned (.bool (p x)) ∧ Below wr.heap.size wr w'
section
variable {w : World}
theorem fidx1_any (F g1 : Nat) (hrun : ∀ args w, (callFunc F args).run Tryz.prog w = .ok (.enter F args) w) (S : Option Addr) (c : Nat) (l : List Int) (hS : (Kd.int .i64).C w S l.length l) (hc : l.length ≤ c) (hl : l.length ≤ 1000000) (p : Int → Bool) (hp : AsksL1 F g1 w l p) :
  Calls Tryz.prog 88 #[.slice S l.length c, .func (.func F) #[] #[.pointer (some ⟨g1, 0, none⟩)]] w fun e w' => e = .returned (.int .i64 (firstAt p l 0)) ∧ Below w.heap.size w w' := by
 have HP := Lib.hid hp
 have HS := Lib.hid hS
 clear hS hp
 go_enter Tryz.func88, Tryz.ntmps88
 go_wp2_with fail
 go_loopw [8] (fun i wr => ∃ q : Nat, i = .int .i64 q ∧ q ≤ l.length ∧ Hid (Below w.heap.size w wr) ∧ Hid (firstAt p l 0 = firstAt p (l.drop q) q)) (fun i _ => l.length - (intOf i).toNat)
 case atStart => exact ⟨0, rfl, Nat.zero_le _, Lib.hid (Below.refl _ _), Lib.hid (by simp)⟩
 case round =>
  obtain ⟨q, rfl, hq, HB, HE⟩ := hrel
  by_cases hlt : q < l.length
  ·obtain ⟨ad, rfl, a0⟩ := nums_at (Kd.C_below HS.out HB.out) q hlt
   have hds : l.drop q = l[q] :: l.drop (q + 1) := List.drop_eq_getElem_cons hlt
   have HE2 := HE.out
   rw [hds] at HE2
   have HMe := Lib.hid (show l[q] ∈ l from List.getElem_mem hlt)
   have p1 : ((q : Int) < (l.length : Int)) = True := eq_true (by omega)
   clear hds HE
   generalize l[q] = a at *
   have HE := Lib.hid HE2
   clear HE2
   go_wp2_with fail
   refine (HP.out _ HB.out a HMe.out).mono ?_
   cases hp : p a with
   | true =>
    have HE3 : Hid (firstAt p l 0 = (q : Int)) := Lib.hid (by have := HE.out; simp only [firstAt] at this; rw [if_pos hp] at this; exact this)
    clear hp
    rintro e w2 ⟨rfl, hb2⟩
    have HB2 := Lib.hid (below_then HB.out HB.out.size hb2)
    clear hb2 a0
    go_wp2_with fail
    go_ret
    exact ⟨by rw [HE3.out]; rfl, HB2.out⟩
   | false =>
    have HE3 : Hid (firstAt p l 0 = firstAt p (l.drop (q + 1)) ((q + 1 : Nat) : Int)) := Lib.hid (by have := HE.out; simp only [firstAt] at this; rw [if_neg (by rw [hp]; simp)] at this; rw [this]; rfl)
    clear hp
    rintro e w2 ⟨rfl, hb2⟩
    have HB2 := Lib.hid (below_then HB.out HB.out.size hb2)
    clear hb2 a0
    go_wp2_with fail
    go_roundw
    case rel => exact ⟨q + 1, by go_num, by omega, HB2, HE3⟩
    case measure => simp [intOf]; omega
  ·obtain rfl : q = l.length := by omega
   have HE3 : Hid (firstAt p l 0 = -1) := Lib.hid (by rw [HE.out, List.drop_length]; rfl)
   go_wp2_with fail
   go_ret
   exact ⟨by rw [HE3.out]; rfl, HB.out⟩
end
theorem inn_clear {B gl n cap : Nat} (m : Nat) : ∀ (o : Nat) (w : World) (xs : List Int), InnR w B (.slice (some ⟨gl, 0, none⟩) n cap) xs →
  ∃ ys : List Int, InnR (w.setCells gl o (List.replicate m (.int .i64 0))) B (.slice (some ⟨gl, 0, none⟩) n cap) ys ∧ ys.length = xs.length ∧ ys.take o = xs.take o := by
 induction m with
 | zero => intro o w xs h; exact ⟨xs, h, rfl, rfl⟩
 | succ m ih =>
  intro o w xs h
  obtain ⟨ys, h1, h2, h3⟩ := ih (o + 1) _ _ (inn_put h o 0)
  refine ⟨ys, h1, by simpa using h2, ?_⟩
  have : (ys.take (o + 1)).take o = ((xs.set o 0).take (o + 1)).take o := by rw [h3]
  rw [List.take_take, List.take_take, Nat.min_eq_left (by omega)] at this
  rw [this, List.take_set, List.set_eq_of_length_le (by simp; omega)]
theorem chg_setCells {S : Nat → Prop} {a : World} {g : Nat} (hS : g < a.heap.size → S g) : ∀ (vs : List Value) (o : Nat) (b : World), Chg S a b → Chg S a (b.setCells g o vs)
 | [], _, _, h => h
 | v :: r, o, b, h => chg_setCells hS r (o + 1) (b.setCell ⟨g, o, none⟩ v) (h.setCell hS v)
def AsksK (F g1 gr : Nat) (w : World) (p : Int → Bool) : Prop :=
 ∀ wr, Chg (· = gr) w wr → ∀ x, Calls Tryz.prog F #[.int .i64 x, .pointer (some ⟨g1, 0, none⟩)] wr fun e w' => e = .returned (.bool (p x)) ∧ Below wr.heap.size wr w'
theorem firstAt_spec (p : Int → Bool) (l : List Int) : ∀ i : Nat, (firstAt p l i = -1 ∧ ∀ x ∈ l, p x = false) ∨ ∃ k, ∃ h : k < l.length, firstAt p l i = ((i + k : Nat) : Int) ∧ p l[k] = true ∧ ∀ x ∈ l.take k, p x = false := by
 induction l with
 | nil => intro i; exact .inl ⟨rfl, fun x h => by cases h⟩
 | cons a l ih =>
  intro i
  by_cases hp : p a = true
  ·exact .inr ⟨0, by simp, by simp [firstAt, hp], by simpa using hp, fun x h => by simp at h⟩
  ·have e : firstAt p (a :: l) i = firstAt p l ((i + 1 : Nat) : Int) := by simp only [firstAt]; rw [if_neg hp]; rfl
   rw [e]
   rcases ih (i + 1) with ⟨h1, h2⟩ | ⟨k, hk, h1, h2, h3⟩
   ·refine .inl ⟨h1, fun x hx => ?_⟩
    rcases List.mem_cons.1 hx with rfl | hx
    ·simpa using hp
    ·exact h2 x hx
   ·refine .inr ⟨k + 1, by simpa using hk, by rw [h1]; congr 1; omega, by simpa using h2, fun x hx => ?_⟩
    rw [List.take_succ_cons] at hx
    rcases List.mem_cons.1 hx with rfl | hx
    ·simpa using hp
    ·exact h3 x hx
theorem filt_snoc (p : Int → Bool) (l : List Int) (j : Nat) (h : j < l.length) : (l.take (j + 1)).filter p = (l.take j).filter p ++ (if p l[j] = true then [l[j]] else []) := by
 rw [List.take_succ_eq_append_getElem h, List.filter_append]
 congr 1
 by_cases c : p l[j] = true <;> simp [c]
section
variable {w : World}
theorem delf_none (F g1 : Nat) (hrun : ∀ args w, (callFunc F args).run Tryz.prog w = .ok (.enter F args) w) (S : Option Addr) (c : Nat) (l : List Int) (hS : (Kd.int .i64).C w S l.length l) (hc : l.length ≤ c) (hl : l.length ≤ 1000000) (p : Int → Bool) (hp : AsksL1 F g1 w l p) (hn : firstAt p l 0 = -1) :
  Calls Tryz.prog 61 #[.slice S l.length c, .func (.func F) #[] #[.pointer (some ⟨g1, 0, none⟩)]] w fun e w' => e = .returned (.slice S l.length c) ∧ Below w.heap.size w w' := by
 have HP := Lib.hid hp
 have HS := Lib.hid hS
 have HN := Lib.hid hn
 clear hS hp hn
 go_enter Tryz.func61, Tryz.ntmps61
 go_wp2_with fail
 refine (fidx1_any F g1 hrun S c l HS.out hc hl p HP.out).mono ?_
 rw [HN.out]
 rintro e w1 ⟨rfl, hb1⟩
 go_wp2_with fail
 go_ret
 exact ⟨rfl, hb1⟩
theorem delf_any (B : Nat) (F g1 gr c n : Nat) (hrun : ∀ args w, (callFunc F args).run Tryz.prog w = .ok (.enter F args) w) (l : List Int) (hS : InnR w B (.slice (some ⟨gr, 0, none⟩) n c) l) (hl : n ≤ 1000000) (p : Int → Bool) (hp : AsksK F g1 gr w p) (hsm : firstAt p l 0 ≠ -1) :
  Calls Tryz.prog 61 #[.slice (some ⟨gr, 0, none⟩) n c, .func (.func F) #[] #[.pointer (some ⟨g1, 0, none⟩)]] w fun e w' => e = .returned (.slice (some ⟨gr, 0, none⟩) (l.filter (fun x => !p x)).length c) ∧ InnR w' B (.slice (some ⟨gr, 0, none⟩) (l.filter (fun x => !p x)).length c) (l.filter (fun x => !p x)) ∧ Chg (· = gr) w w' := by
 have zE : ∀ w : World, (zeroValue 3).run Tryz.prog w = .ok (.int .i64 0) w := fun w => by kernel_rfl
 obtain ⟨rfl, hnc, hC⟩ := Kd.R_reads' hS
 have HP := Lib.hid hp
 have HC := Lib.hid hC
 have HS := Lib.hid hS
 obtain ⟨hno, _⟩ | ⟨k, hk, hk1, hk2, hk3⟩ := firstAt_spec p l 0
 ·exact absurd hno hsm
 have hk1' : firstAt p l 0 = (k : Int) := by have := hk1; simpa using this
 have HK1 := Lib.hid hk1'
 have HFi : Hid ((l.take (k + 1)).filter (fun x => !p x) = l.take k) := Lib.hid (by
  rw [filt_snoc _ _ _ hk, List.filter_eq_self.2 (fun x hx => by simp [hk3 x hx]), if_neg (by simp [hk2]), List.append_nil])
 have hne1 : ((k : Int) == -1) = false := beq_eq_false_iff_ne.2 (by omega)
 clear hp hC hS hk1 hk2 hk3 hk1' hsm
 go_enter Tryz.func61, Tryz.ntmps61
 go_wp2_with fail
 refine (fidx1_any F g1 hrun (some ⟨gr, 0, none⟩) c l HC.out hnc hl p (fun wr hb x _ => HP.out wr (Chg.of_below hb) x)).mono ?_
 rw [HK1.out]
 rintro e w1 ⟨rfl, hb1⟩
 have HS1 := Lib.hid (Kd.R_below HS.out hb1)
 have HC1 := Lib.hid (Chg.of_below (S := (· = gr)) hb1)
 clear hb1 HS HC
 go_wp2_with fail
 go_loopg [5, 6, 7] (l.length - (k + 1)) (fun gg s5 s6 _ wr => ∃ (i j : Nat) (xs : List Int), s5 = .int .i64 i ∧ s6 = .int .i64 j ∧ j + gg = l.length ∧ i < j ∧ xs.length = l.length ∧ Hid (xs.take i = (l.take j).filter (fun x => !p x)) ∧ Hid (xs.drop j = l.drop j) ∧ Hid (InnR wr B (.slice (some ⟨gr, 0, none⟩) l.length c) xs) ∧ Hid (Chg (· = gr) w wr))
 case atStart => exact ⟨k, k + 1, l, rfl, by go_num, by omega, by omega, rfl, Lib.hid HFi.out.symm, Lib.hid rfl, HS1, HC1⟩
 case round =>
  clear HS1 HC1 HFi
  obtain ⟨i, j, xs, rfl, rfl, hjg, hij, hxl, HT, HD, HR, HCh⟩ := hrel
  cases gk with
  | zero =>
   obtain rfl : j = l.length := by omega
   have hcl : ∀ ty, (Builtin.clear_ #[36] ty #[.slice (some ⟨gr, i, none⟩) (l.length - i) (c - i)]).run Tryz.prog wr = .ok (.tuple #[]) (wr.setCells gr i (List.replicate (l.length - i) (.int .i64 0))) :=
    fun ty => Lib.run_clear_slice wr _ _ ty _ Tryz.underlying36 zE rfl rfl gr i _ _ (by omega) (fun t ht => by rw [(inn_at HR.out (i + t) (by omega)).1]; rfl) (fun t ht => (inn_at HR.out (i + t) (by omega)).2)
   obtain ⟨ys, y1, y2, y3⟩ := inn_clear (l.length - i) i wr xs HR.out
   have hfl : l.filter (fun x => !p x) = ys.take i := by rw [y3, HT.out, List.take_length]
   have hfn : (l.filter (fun x => !p x)).length = i := by rw [hfl, List.length_take]; omega
   have HY := Lib.hid (Kd.R_take y1 (show i ≤ ys.length by omega))
   have HCe := Lib.hid (chg_setCells (S := (· = gr)) (fun _ => rfl) (List.replicate (l.length - i) (.int .i64 0)) i wr HCh.out)
   have HFn := Lib.hid hfn
   have HFl := Lib.hid hfl
   clear y1 y2 y3 hfl hfn HT HD HR HCh
   go_wp2_with fail
   go_ret
   exact ⟨by rw [HFn.out]; rfl, by rw [HFn.out, HFl.out]; exact HY.out, HCe.out⟩
  | succ gg =>
   have hlt : j < l.length := by omega
   have p1 : ((j : Int) < (l.length : Int)) = True := eq_true (by omega)
   obtain ⟨u0, _⟩ := inn_at HR.out j (by omega)
   obtain ⟨i0, i1⟩ := inn_at HR.out i (by omega)
   have hxj : xs[j]'(by omega) = l[j] := by
    have h1 := List.getElem_drop (xs := xs) (i := j) (j := 0) (h := by simp; omega)
    have h2 := List.getElem_drop (xs := l) (i := j) (j := 0) (h := by simp; omega)
    simp only [Nat.add_zero] at h1 h2
    rw [← h1, ← h2]
    simp only [HD.out]
   rw [hxj] at u0
   have HF := Lib.hid (filt_snoc (fun x => !p x) l j hlt)
   have HXs : Hid (xs.drop (j + 1) = l.drop (j + 1)) := Lib.hid (by
    have := HD.out
    rw [List.drop_eq_getElem_cons (by omega), List.drop_eq_getElem_cons hlt] at this
    exact (List.cons.inj this).2)
   have p2 : ((i : Int) < (l.length : Int)) = True := eq_true (by omega)
   clear hxj HD
   generalize l[j] = u at *
   generalize xs[i] = old at *
   go_wp2_with fail
   refine (HP.out _ HCh.out u).mono ?_
   cases hpu : p u with
   | false =>
    have hf := HF.out
    rw [if_pos (by simp [hpu])] at hf
    have HT2 : Hid ((xs.set i u).take (i + 1) = (l.take (j + 1)).filter (fun x => !p x)) := Lib.hid (by
     rw [hf, ← HT.out, List.take_succ_eq_append_getElem (by simp; omega), List.take_set, List.set_eq_of_length_le (by simp; omega)]
     simp)
    have HD2 : Hid ((xs.set i u).drop (j + 1) = l.drop (j + 1)) := Lib.hid (by rw [List.drop_set_of_lt (by omega)]; exact HXs.out)
    clear hpu hf HT HF HXs
    rintro e w2 ⟨rfl, hb2⟩
    have HR2 := Lib.hid (Kd.R_below HR.out hb2)
    have HC2 := Lib.hid (HCh.out.trans (Chg.of_below hb2))
    obtain ⟨k0, k1⟩ := inn_at HR2.out i (by omega)
    clear hb2 u0 i0 i1
    go_wp2_with fail
    go_roundg gg
    case measure => omega
    case rel => exact ⟨i + 1, j + 1, xs.set i u, by go_num, by go_num, by omega, by omega, by simpa using hxl, HT2, HD2, Lib.hid (inn_put HR2.out i u), Lib.hid (HC2.out.setCell (p := ⟨gr, i, none⟩) (fun _ => rfl) _)⟩
   | true =>
    have hf := HF.out
    rw [if_neg (by simp [hpu]), List.append_nil] at hf
    have HT2 : Hid (xs.take i = (l.take (j + 1)).filter (fun x => !p x)) := Lib.hid (by rw [hf, HT.out])
    clear hpu hf HT HF
    rintro e w2 ⟨rfl, hb2⟩
    have HR2 := Lib.hid (Kd.R_below HR.out hb2)
    have HC2 := Lib.hid (HCh.out.trans (Chg.of_below hb2))
    clear hb2 u0 i0 i1
    go_wp2_with fail
    go_roundg gg
    case measure => omega
    case rel => exact ⟨i, j + 1, xs, rfl, by go_num, by omega, by omega, hxl, HT2, HXs, HR2, HC2⟩
end
end Go.Proofs.YtikilglbhnplaaaGreatDoor
end
