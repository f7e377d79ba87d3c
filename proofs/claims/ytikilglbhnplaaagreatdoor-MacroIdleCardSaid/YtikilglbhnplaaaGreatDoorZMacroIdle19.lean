/- Texts of this claim, merged (Sif, Actdo, Mst, Mrec, Mlv, Mdon). -/
import Derived.Test.YtikilglbhnplaaaGreatDoorZMacroIdle18
import Derived.Test.YtikilglbhnplaaaGreatDoorZMacroIdle16
set_option linter.unusedVariables false
set_option linter.unusedSimpArgs false
set_option maxRecDepth 100000
set_option maxHeartbeats 64000000
section
namespace Go.Proofs.YtikilglbhnplaaaGreatDoor
open Go.RowKit Go.Proofs.YtikilglbhnplaaaGreatDoorW.PrintWords Go.Proofs.YtikilglbhnplaaaGreatDoorW.PrintLast
open PX (T V)
theorem inn_chg {B g : Nat} {w w' : World} {v : Value} {xs : List Int} (h : InnR w B v xs) (hc : Chg (· = g) w w') (hg : g < B) : InnR w' B v xs := by
 have h1 := Kd.R_tight rfl h
 refine Kd.R_mono (Kd.R_step h1 (fun k hk hlt => hc.block k hlt (fun e => ?_))) (fun _ _ => trivial)
 have := Kd.R_base h k hk.symm
 have e' : k = g := e
 omega
theorem filt_all {p : Int → Bool} {l : List Int} (h : ∀ x ∈ l, p x = false) : l.filter (fun x => !p x) = l := List.filter_eq_self.2 (fun x hx => by simp [h x hx])
section
variable {g : Nat} {v : Int} {st : List Sta} {tr : List Tra} {w : World}
theorem siffn_any (g1 : Nat) (A : Option Addr) (c : Nat) (l : List Int) (x : Int) (hl : l.length ≤ 1000000) (hc : l.length ≤ c) (hC : NumsC w A l.length l) (h1 : w.heap[g1]? = some (.cells #[.slice A l.length c] 36 (0, 0))) :
  Calls Tryz.prog 62 #[.int .i64 x, .pointer (some ⟨g1, 0, none⟩)] w fun e w' => e = .returned (.bool (l.contains x)) ∧ Below w.heap.size w w' := by
 have HC := Lib.hid hC
 have y1 : w.cell? ⟨g1, 0, none⟩ = some (.slice A l.length c) := blk_cell h1 0
 clear hC h1
 go_enter Tryz.func62, Tryz.ntmps62
 go_wp2_with fail
 refine (thas_any A c l x hl hc HC.out).mono ?_
 rintro e w1 ⟨rfl, hb1⟩
 go_wp2_with fail
 go_ret
 exact ⟨by simp, hb1⟩
theorem sift_any (h : TrM w g v st tr) (good : chkP v st tr = .none) (hF : fewP st tr = true) (set : Nat) (hset : set < 4294967296) (L : Option Addr) (cL : Nat) (l : List Int) (hL : NumsC w L l.length l) (hll : l.length ≤ 100000) :
  Calls Tryz.prog 26 #[.pointer (some ⟨g, 0, none⟩), .int .u32 (set : Nat), .slice L l.length cL] w fun e w' => ∃ u, e = .returned u ∧ InnR w' w.heap.size u (siP st tr set l) ∧ Below w.heap.size w w' := by
 have hmf : ∀ (fn : Fn) (first cap : Array Value) (w : World), (Instr.makeFunc fn first cap).run Tryz.prog w = .ok (.func fn first cap) w := fun _ _ _ _ => rfl
 have hrun : ∀ args w, (callFunc 62 args).run Tryz.prog w = .ok (.enter 62 args) w := fun _ _ => rfl
 have H := Lib.hid h
 have HL := Lib.hid hL
 have HA := Lib.hid (good_ahead good)
 have HGood := Lib.hid good
 have HF := Lib.hid hF
 obtain ⟨⟨_, _, hn1, hn, hn2⟩, _⟩ := chk_none good
 obtain ⟨hS, hTr⟩ := few_s hF
 generalize hG : siP st tr set l = G0
 have HG : Hid (siF st tr set l [] = G0) := Lib.hid hG
 clear h good hF hL hG
 go_enter Tryz.func26, Tryz.ntmps26
 go_wp2_with fail
 refine (tchart_any H.out (by omega) (by omega) (by omega) hS hTr).mono ?_
 rintro e w1 ⟨gS, ca, B, cb, rfl, hM, hb1, _, _, _⟩
 generalize (some ⟨gS, 0, none⟩ : Option Addr) = A at hM ⊢
 have hal : Below w1.heap.size w1 (w1.alloc (.cells #[.int .i64 v, .slice A st.length ca, .slice B tr.length cb] 25)) := (Below.refl _ w1).alloc (Nat.le_refl _) _
 have hkc := blk_new w1 (.cells #[.int .i64 v, .slice A st.length ca, .slice B tr.length cb] 25)
 have HB3 := Lib.hid (below_then hb1 hb1.size hal)
 have HM3 := Lib.hid (hM.below hal)
 have HKC3 := Lib.hid hkc
 have HCL := Lib.hid (Kd.C_below HL.out (below_then hb1 hb1.size hal))
 clear hM hb1 hkc hal hS hTr HL
 go_wp2_with fail
 generalize w1.alloc (.cells #[.int .i64 v, .slice A st.length ca, .slice B tr.length cb] 25) = w3 at HB3 HM3 HKC3 HCL ⊢
 go_loopg [8, 21] l.length (fun gh o i wr => ∃ (q : Nat) (kept : List Int), q + gh = l.length ∧ i = .int .i64 q ∧ kept.length ≤ q ∧ Hid (InnR wr w3.heap.size o kept) ∧ Hid (Below w3.heap.size w3 wr) ∧ Hid (siF st tr set (l.drop q) kept = G0) ∧ Hid (∀ x ∈ kept, thT tr x))
 case atStart => exact ⟨0, [], by omega, rfl, by simp, Lib.hid (Kd.R_nil _ _ _ _ _), Lib.hid (Below.refl _ _), Lib.hid (by rw [List.drop_zero]; exact HG.out), Lib.hid (fun x h => by cases h)⟩
 case round =>
  clear HG
  obtain ⟨q, kept, hqg, rfl, hkl, HO, HB, HI, HTh⟩ := hrel
  obtain ⟨wo, rfl⟩ : ∃ wo : World, wo = wr := ⟨_, rfl⟩
  obtain ⟨AO, cO, rfl⟩ := Kd.R_slice HO.out
  have HBw := Lib.hid (below_then HB3.out HB3.out.size HB.out)
  cases gk with
  | zero =>
   obtain rfl : q = l.length := by omega
   have HG : Hid (kept = G0) := Lib.hid (by rw [← HI.out, List.drop_length]; rfl)
   have p1 : ((l.length : Int) < (l.length : Int)) = False := eq_false (by omega)
   go_wp2_with fail
   go_ret
   exact ⟨_, rfl, by rw [← HG.out]; exact Kd.R_lower HO.out HB3.out.size, HBw.out⟩
  | succ gh =>
   have hlt : q < l.length := by omega
   obtain ⟨ad, rfl, a0⟩ := nums_at (Kd.C_below HCL.out HB.out) q hlt
   have HI2 := HI.out
   rw [List.drop_eq_getElem_cons hlt] at HI2
   simp only [siF] at HI2
   have p1 : ((q : Int) < (l.length : Int)) = True := eq_true (by omega)
   have HKo := Lib.hid ((HB.out.block _ (lt_of_block HKC3.out)).trans HKC3.out)
   have z2 : wo.cell? ⟨w1.heap.size, 2, none⟩ = some (.slice B tr.length cb) := blk_cell HKo.out 2
   clear HI
   generalize l[q] = i at *
   by_cases hth : thT tr i
   ·rw [if_neg (fun h => h hth)] at HI2
    have HI := Lib.hid HI2
    have hth1 := hth.1
    have hth2 := hth.2
    have d1 : decide (i < 0) = false := decide_eq_false (by omega)
    have d2 : decide (i ≥ (tr.length : Int)) = false := decide_eq_false (by omega)
    have d2' : decide ((tr.length : Int) ≤ i) = false := decide_eq_false (by omega)
    have hgB := blk_new wo (.cells #[.slice none 0 0] 36)
    have hal : Below wo.heap.size wo (wo.alloc (.cells #[.slice none 0 0] 36)) := (Below.refl _ wo).alloc (Nat.le_refl _) _
    have HGB := Lib.hid hgB
    have HAl := Lib.hid hal
    clear HI2 hth hgB hal
    go_wp2_with fail
    go_loopg [12, 36] kept.length (fun g1 ft j wy => ∃ (k : Nat) (G : List Int) (vG : Value), k + g1 = kept.length ∧ j = .int .i64 k ∧ ft = .bool true ∧ G.length ≤ k ∧ Hid (wy.heap[wo.heap.size]? = some (.cells #[vG] 36 (0, 0))) ∧ Hid (InnR wy (wo.heap.size + 1) vG G) ∧ Hid (Below wo.heap.size wo wy) ∧ Hid (siK st tr set i (kept.drop k) G = siK st tr set i kept []))
    case atStart => exact ⟨0, [], _, by omega, rfl, rfl, by simp, HGB, Lib.hid (Kd.R_nil _ _ _ _ _), HAl, Lib.hid (by rw [List.drop_zero])⟩
    case round =>
     clear HGB HAl
     obtain ⟨k, G, vG, hkg, rfl, rfl, hGl, HGB, HGR, HBy, HSK⟩ := hrel
     obtain ⟨wy, rfl⟩ : ∃ wy : World, wy = wr := ⟨_, rfl⟩
     have HB4 := Lib.hid (below_then HB.out HB.out.size HBy.out)
     have HTy := Lib.hid (H.out.below (below_then HB3.out HB3.out.size HB4.out))
     have HOy := Lib.hid (Kd.R_below HO.out HBy.out)
     cases gk with
     | zero =>
      obtain rfl : k = kept.length := by omega
      have hS : siK st tr set i kept [] = (true, G) := by rw [← HSK.out, List.drop_length]; rfl
      have hI := HI.out
      rw [hS, if_pos rfl] at hI
      have HI3 : Hid (siF st tr set (l.drop (q + 1)) (sift kept G i) = G0) := Lib.hid hI
      have hHTh : ∀ x ∈ sift kept G i, thT tr x := by
       intro x hx
       unfold sift at hx
       rcases List.mem_append.1 hx with hx | hx
       ·exact HTh.out x (List.mem_filter.1 hx).1
       ·rw [List.mem_singleton] at hx; subst hx; exact ⟨hth1, hth2⟩
      have HTh3 := Lib.hid hHTh
      have hfl : (kept.filter (fun x => !G.contains x)).length ≤ kept.length := List.length_filter_le _ _
      have hsl : (sift kept G i).length ≤ q + 1 := by unfold sift; rw [List.length_append, List.length_singleton]; omega
      obtain ⟨AG, cG, rfl⟩ := Kd.R_slice HGR.out
      obtain ⟨_, hcG, hCG⟩ := Kd.R_reads' HGR.out
      obtain ⟨_, hcO, hCO⟩ := Kd.R_reads' HOy.out
      have HCO := Lib.hid hCO
      have HAs1 : Hid (AsksL1 62 wo.heap.size wy kept (fun x => G.contains x)) := Lib.hid (fun wx hb x _ => siffn_any wo.heap.size AG cG G x (by omega) hcG (Kd.C_below hCG hb) ((hb.block _ (lt_of_block HGB.out)).trans HGB.out))
      have p2 : ((kept.length : Int) < (kept.length : Int)) = False := eq_false (by omega)
      by_cases hfa : firstAt (fun x => G.contains x) kept 0 = -1
      ·have hall : kept.filter (fun x => !G.contains x) = kept := by
        rcases firstAt_spec (fun x => G.contains x) kept 0 with ⟨_, h⟩ | ⟨kk, _, h, _⟩
        ·exact filt_all h
        ·have hfa' : firstAt (fun x => G.contains x) kept ((0 : Nat) : Int) = -1 := hfa
         rw [hfa'] at h; omega
       have HSf : Hid (sift kept G i = kept ++ [i]) := Lib.hid (by unfold sift; rw [hall])
       have HFa := Lib.hid hfa
       have hac : kept.length < 1000000 := by omega
       clear hS hI hHTh hCG hCO hall hfa hfl
       go_wp2_with fail
       refine (delf_none 62 wo.heap.size hrun AO cO kept HCO.out hcO (by omega) _ HAs1.out HFa.out).mono ?_
       rintro e w7 ⟨rfl, hb7⟩
       have HO7 := Lib.hid (Kd.R_below HOy.out hb7)
       have HB7 := Lib.hid (below_then HB4.out HB4.out.size hb7)
       have hs7 := HB7.out.size
       clear hb7
       go_wp2_with (at_builtin; refine inn_append rfl (.tmp 69) (.tmp 71) rfl w3.heap.size _ kept i rfl _ rfl rfl HO7.out hs7 hac ?_)
       intro v8 w8 h8 hb8 _
       have HO8 : Hid (InnR w8 w3.heap.size v8 (sift kept G i)) := Lib.hid (by rw [HSf.out]; exact h8)
       have HB8 := Lib.hid (HB7.out.trans hb8)
       clear h8 hb8
       go_wp2_with fail
       go_roundg gh
       case measure => omega
       case rel => exact ⟨q + 1, _, by omega, by go_num, hsl, HO8, HB8, HI3, HTh3⟩
      ·have hne : 0 < kept.length := by
        rcases Nat.eq_zero_or_pos kept.length with h | h
        ·exact absurd (by rw [List.eq_nil_of_length_eq_zero h]; rfl) hfa
        ·exact h
       obtain ⟨gr, cr, hv, hgr, hgr2, _⟩ := Kd.R_form HO.out hne
       injection hv with hv1 _ hv3
       subst hv1 hv3
       have HAsK : Hid (AsksK 62 wo.heap.size gr wy (fun x => G.contains x)) := Lib.hid (fun wx hc x => by
        obtain ⟨_, _, hCx⟩ := Kd.R_reads' (inn_chg HGR.out hc (by omega))
        exact siffn_any wo.heap.size AG cG G x (by omega) hcG hCx (hc.blk HGB.out (by omega)))
       have HFa := Lib.hid hfa
       have hac : (kept.filter (fun x => !G.contains x)).length < 1000000 := by omega
       have hcon := delf_any w3.heap.size 62 wo.heap.size gr cO kept.length hrun kept HOy.out (by omega) _ HAsK.out HFa.out
       have HCon := Lib.hid hcon
       clear hS hI hHTh hCG hCO hfa hcon
       go_wp2_with fail
       refine HCon.out.mono ?_
       have HSf : Hid (sift kept G i = kept.filter (fun x => !G.contains x) ++ [i]) := Lib.hid rfl
       clear HCon HAsK HAs1 HCO
       generalize kept.filter (fun x => !G.contains x) = kf at *
       rintro e w7 ⟨rfl, hr7, hc7⟩
       have HO7 := Lib.hid hr7
       have HB7 := Lib.hid (HB4.out.trans (hc7.below HB4.out.size (fun k hk e => by have e' : k = gr := e; omega)))
       have hs7 := HB7.out.size
       clear hr7 hc7
       go_wp2_with (at_builtin; refine inn_append rfl (.tmp 69) (.tmp 71) rfl w3.heap.size _ kf i rfl _ rfl rfl HO7.out hs7 hac ?_)
       intro v8 w8 h8 hb8 _
       have HO8 : Hid (InnR w8 w3.heap.size v8 (sift kept G i)) := Lib.hid (by rw [HSf.out]; exact h8)
       have HB8 := Lib.hid (HB7.out.trans hb8)
       clear h8 hb8
       go_wp2_with fail
       go_roundg gh
       case measure => omega
       case rel => exact ⟨q + 1, _, by omega, by go_num, hsl, HO8, HB8, HI3, HTh3⟩
     | succ g1 =>
      have hlk : k < kept.length := by omega
      obtain ⟨_, _, hCO⟩ := Kd.R_reads' HOy.out
      obtain ⟨ad2, rfl, a2⟩ := nums_at hCO k hlk
      have HS2 := HSK.out
      rw [List.drop_eq_getElem_cons hlk] at HS2
      simp only [siK] at HS2
      have p2 : ((k : Int) < (kept.length : Int)) = True := eq_true (by omega)
      have HMe := Lib.hid (List.getElem_mem hlk)
      clear HSK hCO
      generalize kept[k] = kk at *
      cases hcl : claP st tr set i kk with
      | false =>
       rw [if_pos hcl] at HS2
       have HS3 := Lib.hid HS2
       go_wp2_with fail
       refine (clash_any HTy.out HGood.out HF.out set hset i kk).mono ?_
       rw [hcl]
       clear hcl HS2
       rintro e w5 ⟨rfl, hb5⟩
       have HGB5 := Lib.hid ((hb5.block _ (lt_of_block HGB.out)).trans HGB.out)
       have HGR5 := Lib.hid (Kd.R_below HGR.out hb5)
       have HBy5 := Lib.hid (below_then HBy.out HBy.out.size hb5)
       clear hb5
       go_wp2_with fail
       go_roundg g1
       case measure => omega
       case rel => exact ⟨k + 1, G, vG, by omega, by go_num, rfl, by omega, HGB5, HGR5, HBy5, HS3⟩
      | true =>
       rw [if_neg (by rw [hcl]; simp)] at HS2
       obtain ⟨hk1, hk2⟩ := HTh.out kk HMe.out
       have hz := blk_cell ((below_then HB.out HB.out.size HBy.out).block _ (lt_of_block HKC3.out) |>.trans HKC3.out) 2
       obtain ⟨bd, _, _, _, _, rfl, k0', _⟩ := PAll.at_T63 (HM3.out.below HB4.out).ct i hth1 hth2
       obtain ⟨bd', _, _, _, _, hbd, k1', _⟩ := PAll.at_T63 (HM3.out.below HB4.out).ct kk hk1 hk2
       obtain rfl := Option.some.inj hbd
       have HZ := Lib.hid (show wy.cell? ⟨w1.heap.size, 2, none⟩ = some (.slice (some bd) tr.length cb) from hz)
       have HK0 := Lib.hid k0'
       have HK1 := Lib.hid k1'
       clear hz k0' k1' hbd
       have p3 : (0 ≤ i) = True := eq_true hth1
       have p4 : (i < (tr.length : Int)) = True := eq_true hth2
       have p5 : (0 ≤ kk) = True := eq_true hk1
       have p6 : (kk < (tr.length : Int)) = True := eq_true hk2
       go_wp2_with fail
       refine (clash_any HTy.out HGood.out HF.out set hset i kk).mono ?_
       rw [hcl]
       clear hcl
       rintro e w5 ⟨rfl, hb5⟩
       have mv : ∀ {p : Addr} {u : Value}, wy.cell? p = some u → w5.cell? p = some u := fun h => (World.cell?_of_block (hb5.block _ (c_lt h))).trans h
       have z2' := mv HZ.out
       have k0 := mv HK0.out
       have k1 := mv HK1.out
       replace k0 : w5.cell? (bd.add (i.toNat * 6)) = some (.int .i64 (rdT tr i).f0) := k0
       replace k1 : w5.cell? (bd.add (kk.toNat * 6)) = some (.int .i64 (rdT tr kk).f0) := k1
       have HB5 := Lib.hid hb5
       clear mv hb5 HZ HK0 HK1
       go_wp2_with fail
       cases hin : inP st (rdT tr i).f0 (rdT tr kk).f0 with
       | false =>
        have HIn : Hid ((decide (0 ≤ (rdT tr kk).f0) && inC st (rdT tr i).f0 (rdT tr kk).f0) = false) := Lib.hid hin
        rw [if_pos hin] at HS2
        have hI := HI.out
        rw [← HS2, if_neg (by simp)] at hI
        have HI3 : Hid (siF st tr set (l.drop (q + 1)) kept = G0) := Lib.hid hI
        clear hin HS2 hI
        refine start_ (n := 15) (S := fun w' => w'.cell? ⟨w1.heap.size, 2, none⟩ = some (.slice (some bd) tr.length cb) ∧ w'.cell? (bd.add (i.toNat * 6)) = some (.int .i64 (rdT tr i).f0) ∧ w'.cell? (bd.add (kk.toNat * 6)) = some (.int .i64 (rdT tr kk).f0)) (ds := [13]) (tf15 0) (by kernel_rfl) rfl (by kernel_rfl) ⟨z2', k0, k1⟩ (fun hHeld => ?_)
        iterate 2
         refine pxt_ (v := ?_) (a' := ?_) rfl rfl (by kernel_rfl) (fun _ _ _ h => h) (Or.inl ⟨by rfl, ?_⟩) ?_ ?_
         rotate_left
         ·intro w'
          go_simp
          first | done | with_reducible rfl
         rotate_left
         ·simp only [Act.put, List.setIfInBounds_toArray, List.set_cons_zero, List.set_cons_succ, i64_w, i32_w]
          first | done | rfl
        refine nxt_ (v := ?_) (a' := ?_) rfl rfl (by kernel_rfl) (fun _ _ _ h => h) (Or.inl ⟨by rfl, ?_⟩) hHeld ?_ ?_
        rotate_left
        ·rintro w' ⟨s0, s1, s2⟩
         go_simp
         first | done | with_reducible rfl
        rotate_left
        ·simp only [Act.put, List.setIfInBounds_toArray, List.set_cons_zero, List.set_cons_succ, i64_w, i32_w]
         first | done | rfl
        iterate 3
         refine pxt_ (v := ?_) (a' := ?_) rfl rfl (by kernel_rfl) (fun _ _ _ h => h) (Or.inl ⟨by rfl, ?_⟩) ?_ ?_
         rotate_left
         ·intro w'
          go_simp
          first | done | with_reducible rfl
         rotate_left
         ·simp only [Act.put, List.setIfInBounds_toArray, List.set_cons_zero, List.set_cons_succ, i64_w, i32_w]
          first | done | rfl
        refine nxt_ (v := ?_) (a' := ?_) rfl rfl (by kernel_rfl) (fun _ _ _ h => h) (Or.inl ⟨by rfl, ?_⟩) hHeld ?_ ?_
        rotate_left
        ·rintro w' ⟨s0, s1, s2⟩
         go_simp
         first | done | with_reducible rfl
        rotate_left
        ·simp only [Act.put, List.setIfInBounds_toArray, List.set_cons_zero, List.set_cons_succ, i64_w, i32_w]
         first | done | rfl
        refine pxt_ (v := ?_) (a' := ?_) rfl rfl (by kernel_rfl) (fun _ _ _ h => h) (Or.inl ⟨by rfl, ?_⟩) ?_ ?_
        rotate_left
        ·intro w'
         go_simp
         first | done | with_reducible rfl
        rotate_left
        ·simp only [Act.put, List.setIfInBounds_toArray, List.set_cons_zero, List.set_cons_succ, i64_w, i32_w]
         first | done | rfl
        refine nxt_ (v := ?_) (a' := ?_) rfl rfl (by kernel_rfl) (fun _ _ _ h => h) (Or.inl ⟨by rfl, ?_⟩) hHeld ?_ ?_
        rotate_left
        ·rintro w' ⟨s0, s1, s2⟩
         go_simp
         first | done | with_reducible rfl
        rotate_left
        ·simp only [Act.put, List.setIfInBounds_toArray, List.set_cons_zero, List.set_cons_succ, i64_w, i32_w]
         first | done | rfl
        iterate 3
         refine pxt_ (v := ?_) (a' := ?_) rfl rfl (by kernel_rfl) (fun _ _ _ h => h) (Or.inl ⟨by rfl, ?_⟩) ?_ ?_
         rotate_left
         ·intro w'
          go_simp
          first | done | with_reducible rfl
         rotate_left
         ·simp only [Act.put, List.setIfInBounds_toArray, List.set_cons_zero, List.set_cons_succ, i64_w, i32_w]
          first | done | rfl
        refine nxt_ (v := ?_) (a' := ?_) rfl rfl (by kernel_rfl) (fun _ _ _ h => h) (Or.inl ⟨by rfl, ?_⟩) hHeld ?_ ?_
        rotate_left
        ·rintro w' ⟨s0, s1, s2⟩
         go_simp
         first | done | with_reducible rfl
        rotate_left
        ·simp only [Act.put, List.setIfInBounds_toArray, List.set_cons_zero, List.set_cons_succ, i64_w, i32_w]
         first | done | rfl
        refine last_ (i := 13) (N := some 59) (tf15 14) rfl rfl (by kernel_rfl) (by decide) (fun K hK => ?_)
        refine goes_ Tryz.func44 (by kernel_rfl) rfl #[.pointer (some ⟨g, 0, none⟩), .int .i64 (rdT tr i).f0, .int .i64 (rdT tr kk).f0] (by rfl) rfl rfl (by first | rfl | (go_simp; done) | (go_simp; exact ⟨rfl, rfl⟩) | (go_simp; rfl)) ?_
        refine (tin_any (HTy.out.below (below_drew HB5.out)) HA.out (by omega) (rdT tr i).f0 (rdT tr kk).f0).mono ?_
        rw [HIn.out]
        rintro e6 w6 ⟨rfl, hb6⟩
        refine ⟨_, rfl, hK.out _ _ ?_⟩
        clear hK K
        have HB6 := Lib.hid (below_then (below_drew HB5.out) (by have := HB5.out.size; exact this) hb6)
        clear hb6
        refine pxt_ (v := ?_) (a' := ?_) rfl rfl (by kernel_rfl) (fun _ _ _ h => h) (Or.inl ⟨by rfl, ?_⟩) ?_ ?_
        rotate_left
        ·intro w'
         go_simp
         first | done | with_reducible rfl
        rotate_left
        ·simp only [Act.put, List.setIfInBounds_toArray, List.set_cons_zero, List.set_cons_succ, i64_w, i32_w]
         first | done | rfl
        refine done_ (by kernel_rfl) ?_
        have HO6 := Lib.hid (Kd.R_below HOy.out HB6.out)
        have HB7 := Lib.hid (below_then HB4.out HB4.out.size HB6.out)
        go_wp2_with fail
        go_roundg gh
        case measure => omega
        case rel => exact ⟨q + 1, kept, by omega, by go_num, by omega, HO6, HB7, HI3, HTh⟩
       | true =>
        have HIn : Hid ((decide (0 ≤ (rdT tr kk).f0) && inC st (rdT tr i).f0 (rdT tr kk).f0) = true) := Lib.hid hin
        rw [if_neg (by rw [hin]; simp)] at HS2
        have HS3 := Lib.hid HS2
        obtain ⟨AG, cG, rfl⟩ := Kd.R_slice HGR.out
        have hgl : G.length < 1000000 := by omega
        clear hin HS2
        refine start_ (n := 15) (S := fun w' => w'.cell? ⟨w1.heap.size, 2, none⟩ = some (.slice (some bd) tr.length cb) ∧ w'.cell? (bd.add (i.toNat * 6)) = some (.int .i64 (rdT tr i).f0) ∧ w'.cell? (bd.add (kk.toNat * 6)) = some (.int .i64 (rdT tr kk).f0)) (ds := [13]) (tf15 0) (by kernel_rfl) rfl (by kernel_rfl) ⟨z2', k0, k1⟩ (fun hHeld => ?_)
        iterate 2
         refine pxt_ (v := ?_) (a' := ?_) rfl rfl (by kernel_rfl) (fun _ _ _ h => h) (Or.inl ⟨by rfl, ?_⟩) ?_ ?_
         rotate_left
         ·intro w'
          go_simp
          first | done | with_reducible rfl
         rotate_left
         ·simp only [Act.put, List.setIfInBounds_toArray, List.set_cons_zero, List.set_cons_succ, i64_w, i32_w]
          first | done | rfl
        refine nxt_ (v := ?_) (a' := ?_) rfl rfl (by kernel_rfl) (fun _ _ _ h => h) (Or.inl ⟨by rfl, ?_⟩) hHeld ?_ ?_
        rotate_left
        ·rintro w' ⟨s0, s1, s2⟩
         go_simp
         first | done | with_reducible rfl
        rotate_left
        ·simp only [Act.put, List.setIfInBounds_toArray, List.set_cons_zero, List.set_cons_succ, i64_w, i32_w]
         first | done | rfl
        iterate 3
         refine pxt_ (v := ?_) (a' := ?_) rfl rfl (by kernel_rfl) (fun _ _ _ h => h) (Or.inl ⟨by rfl, ?_⟩) ?_ ?_
         rotate_left
         ·intro w'
          go_simp
          first | done | with_reducible rfl
         rotate_left
         ·simp only [Act.put, List.setIfInBounds_toArray, List.set_cons_zero, List.set_cons_succ, i64_w, i32_w]
          first | done | rfl
        refine nxt_ (v := ?_) (a' := ?_) rfl rfl (by kernel_rfl) (fun _ _ _ h => h) (Or.inl ⟨by rfl, ?_⟩) hHeld ?_ ?_
        rotate_left
        ·rintro w' ⟨s0, s1, s2⟩
         go_simp
         first | done | with_reducible rfl
        rotate_left
        ·simp only [Act.put, List.setIfInBounds_toArray, List.set_cons_zero, List.set_cons_succ, i64_w, i32_w]
         first | done | rfl
        refine pxt_ (v := ?_) (a' := ?_) rfl rfl (by kernel_rfl) (fun _ _ _ h => h) (Or.inl ⟨by rfl, ?_⟩) ?_ ?_
        rotate_left
        ·intro w'
         go_simp
         first | done | with_reducible rfl
        rotate_left
        ·simp only [Act.put, List.setIfInBounds_toArray, List.set_cons_zero, List.set_cons_succ, i64_w, i32_w]
         first | done | rfl
        refine nxt_ (v := ?_) (a' := ?_) rfl rfl (by kernel_rfl) (fun _ _ _ h => h) (Or.inl ⟨by rfl, ?_⟩) hHeld ?_ ?_
        rotate_left
        ·rintro w' ⟨s0, s1, s2⟩
         go_simp
         first | done | with_reducible rfl
        rotate_left
        ·simp only [Act.put, List.setIfInBounds_toArray, List.set_cons_zero, List.set_cons_succ, i64_w, i32_w]
         first | done | rfl
        iterate 3
         refine pxt_ (v := ?_) (a' := ?_) rfl rfl (by kernel_rfl) (fun _ _ _ h => h) (Or.inl ⟨by rfl, ?_⟩) ?_ ?_
         rotate_left
         ·intro w'
          go_simp
          first | done | with_reducible rfl
         rotate_left
         ·simp only [Act.put, List.setIfInBounds_toArray, List.set_cons_zero, List.set_cons_succ, i64_w, i32_w]
          first | done | rfl
        refine nxt_ (v := ?_) (a' := ?_) rfl rfl (by kernel_rfl) (fun _ _ _ h => h) (Or.inl ⟨by rfl, ?_⟩) hHeld ?_ ?_
        rotate_left
        ·rintro w' ⟨s0, s1, s2⟩
         go_simp
         first | done | with_reducible rfl
        rotate_left
        ·simp only [Act.put, List.setIfInBounds_toArray, List.set_cons_zero, List.set_cons_succ, i64_w, i32_w]
         first | done | rfl
        refine last_ (i := 13) (N := some 59) (tf15 14) rfl rfl (by kernel_rfl) (by decide) (fun K hK => ?_)
        refine goes_ Tryz.func44 (by kernel_rfl) rfl #[.pointer (some ⟨g, 0, none⟩), .int .i64 (rdT tr i).f0, .int .i64 (rdT tr kk).f0] (by rfl) rfl rfl (by first | rfl | (go_simp; done) | (go_simp; exact ⟨rfl, rfl⟩) | (go_simp; rfl)) ?_
        refine (tin_any (HTy.out.below (below_drew HB5.out)) HA.out (by omega) (rdT tr i).f0 (rdT tr kk).f0).mono ?_
        rw [HIn.out]
        rintro e6 w6 ⟨rfl, hb6⟩
        refine ⟨_, rfl, hK.out _ _ ?_⟩
        clear hK K
        have HB6 := Lib.hid (below_then (below_drew HB5.out) (by have := HB5.out.size; exact this) hb6)
        clear hb6
        refine pxt_ (v := ?_) (a' := ?_) rfl rfl (by kernel_rfl) (fun _ _ _ h => h) (Or.inl ⟨by rfl, ?_⟩) ?_ ?_
        rotate_left
        ·intro w'
         go_simp
         first | done | with_reducible rfl
        rotate_left
        ·simp only [Act.put, List.setIfInBounds_toArray, List.set_cons_zero, List.set_cons_succ, i64_w, i32_w]
         first | done | rfl
        refine done_ (by kernel_rfl) ?_
        have hgb6 := (HB6.out.block _ (lt_of_block HGB.out)).trans HGB.out
        have HGR6 := Lib.hid (Kd.R_below HGR.out HB6.out)
        have HBy6 := Lib.hid (below_then HBy.out HBy.out.size HB6.out)
        have hs6 := lt_of_block hgb6
        have y6 : w6.cell? ⟨wo.heap.size, 0, none⟩ = some (.slice AG G.length cG) := blk_cell hgb6 0
        have HGB6 := Lib.hid hgb6
        clear hgb6
        go_wp2_with (at_builtin; refine inn_append rfl (.tmp 61) (.tmp 63) rfl (wo.heap.size + 1) _ G kk rfl _ rfl rfl HGR6.out (by omega) hgl ?_)
        intro v8 w8 h8 hb8 _
        obtain ⟨G2, hG2⟩ : ∃ G2 : List Int, G2 = G ++ [kk] := ⟨_, rfl⟩
        rw [← hG2] at h8
        have hl2 : G2.length ≤ k + 1 := by rw [hG2, List.length_append, List.length_singleton]; omega
        have HS4 : Hid (siK st tr set i (kept.drop (k + 1)) G2 = siK st tr set i kept []) := Lib.hid (by rw [hG2]; exact HS3.out)
        obtain ⟨A8, c8, rfl⟩ := Kd.R_slice h8
        have hgb8 := (hb8.block _ (by omega)).trans HGB6.out
        have y8 : w8.cell? ⟨wo.heap.size, 0, none⟩ = some (.slice AG G.length cG) := blk_cell hgb8 0
        have f8 : w8.frozen? ⟨wo.heap.size, 0, none⟩ = false := blk_free hgb8 0
        have HGB9 : Hid ((w8.setCell ⟨wo.heap.size, 0, none⟩ (.slice A8 G2.length c8)).heap[wo.heap.size]? = some (.cells #[.slice A8 G2.length c8] 36 (0, 0))) := Lib.hid (blk_set hgb8 0 _)
        have HGR9 : Hid (InnR (w8.setCell ⟨wo.heap.size, 0, none⟩ (.slice A8 G2.length c8)) (wo.heap.size + 1) (.slice A8 G2.length c8) G2) := Lib.hid (Kd.R_set h8 hgb8 (by decide) 0 _)
        have HBy9 := Lib.hid ((HBy6.out.trans (hb8.mono (by omega))).setCell (p := ⟨wo.heap.size, 0, none⟩) (Nat.le_refl _) (.slice A8 G2.length c8))
        clear h8 hb8 hgb8 y6 hG2 HS3
        go_wp2_with fail
        go_roundg g1
        case measure => omega
        case rel => exact ⟨k + 1, G2, _, by omega, by go_num, rfl, hl2, HGB9, HGR9, HBy9, HS4⟩
   ·rw [if_pos hth] at HI2
    have HI := Lib.hid HI2
    by_cases c1 : i < 0
    ·have d1 : decide (i < 0) = true := decide_eq_true c1
     clear HI2 hth c1
     go_wp2_with fail
     go_roundg gh
     case measure => omega
     case rel => exact ⟨q + 1, kept, by omega, by go_num, by omega, HO, HB, HI, HTh⟩
    ·have c2 : (tr.length : Int) ≤ i := Int.not_lt.1 (fun h => hth ⟨by omega, h⟩)
     have d1 : decide (i < 0) = false := decide_eq_false c1
     have d2 : decide (i ≥ (tr.length : Int)) = true := decide_eq_true c2
     have d2' : decide ((tr.length : Int) ≤ i) = true := decide_eq_true c2
     clear HI2 hth c1 c2
     go_wp2_with fail
     go_roundg gh
     case measure => omega
     case rel => exact ⟨q + 1, kept, by omega, by go_num, by omega, HO, HB, HI, HTh⟩
end
end Go.Proofs.YtikilglbhnplaaaGreatDoor
end
section
namespace Go.Proofs.YtikilglbhnplaaaGreatDoor
open Go.RowKit Go.Proofs.YtikilglbhnplaaaGreatDoorW.PrintWords
open PX (T V)
theorem nil_none (w : World) (n cap : Nat) : (binOp .eql 44 (.slice none n cap) (.slice none 0 0)).run Tryz.prog w = .ok (.bool true) w := by kernel_rfl
theorem nil_some (w : World) (ad : Addr) (n cap : Nat) : (binOp .eql 44 (.slice (some ad) n cap) (.slice none 0 0)).run Tryz.prog w = .ok (.bool false) w := by kernel_rfl
theorem clone_any (E : Option Addr) (cap : Nat) (env : List Int) (w : World) (hc : env.length ≤ cap) (hC : NumsC w E env.length env) (hl : env.length ≤ 1000000) :
  Calls Tryz.prog 74 #[.slice E env.length cap] w fun e w' => ∃ ve, e = .returned ve ∧ EnvR w' w.heap.size ve env ∧ Below w.heap.size w w' := by
 have HC := Lib.hid hC
 have z1 := nil_none
 have z2 := nil_some
 cases E with
 | none =>
  obtain rfl : env = [] := by
   cases env with
   | nil => rfl
   | cons a l => obtain ⟨ad, h, _⟩ := hC.2.2 (by simp); cases h
  clear hC
  go_enter Tryz.func74, Tryz.ntmps74
  go_wp2_with fail
  go_ret
  exact ⟨_, rfl, Kd.R_nil _ _ _ _ _, Below.refl _ _⟩
 | some ad =>
  clear hC
  go_enter Tryz.func74, Tryz.ntmps74
  go_wp2_with (at_builtin; refine Kd.R_append_rows (Kd.int .i64) (Rr := (Kd.int .i64).K w) (w0 := w) w.heap.size rfl (.tmp 5) (.tmp 6) 44 2 (.int .i64 0) 8 rfl Tryz.underlying44 (by kernel_rfl) rfl (by decide) (by omega) (.slice (some ⟨w.heap.size, 0, none⟩) 0 0) [] env (some ad) env.length cap (fun _ => True) (fun _ => False) rfl rfl ?aA ?aB (fun _ _ h => h) (fun _ h => h.elim) (fun _ _ => trivial) ?aC ?aD ?aE ?_)
  case aA => exact Kd.R_of_own (enc := Value.int .i64) (h1 := fun _ => rfl) (own_lit_of (enc := Value.int .i64) w w.heap.size 2 [] (Nat.le_refl _) (by simp)) (fun _ _ => trivial)
  case aB => exact Kd.C_alloc HC.out _
  case aC => exact (Below.refl _ w).alloc (Nat.le_refl _) _
  case aD => simp
  case aE => simp; omega
  intro v1 w1 h1 h2 h3 h4
  go_wp2_with fail
  go_ret
  exact ⟨_, rfl, h1, h2⟩
theorem one_len (s : Ds) (a : Ac) : (oneA s a).1.out.length ≤ s.out.length + 1 ∧ (oneA s a).1.inn.length ≤ s.inn.length + 1 := by
 unfold oneA
 repeat' split
 all_goals simp
theorem acts_at {w : World} {A : Option Addr} {l : List Ac} (h : ActsC w A l.length l) (q : Nat) (hq : q < l.length) : ∃ ad, A = some ad ∧ w.cell? (ad.add (q * 4)) = some (.int .i64 l[q].f0) ∧ w.cell? ⟨(ad.add (q * 4)).block, (ad.add (q * 4)).off + 1, none⟩ = some (.int .i64 l[q].f1) ∧ w.cell? ⟨(ad.add (q * 4)).block, (ad.add (q * 4)).off + 2, none⟩ = some (.int .i64 l[q].f2) ∧ w.cell? ⟨(ad.add (q * 4)).block, (ad.add (q * 4)).off + 3, none⟩ = some (.string l[q].f3) := by
 obtain ⟨ad, h1, h2⟩ := PAll.at_T125 h (q : Int) (by omega) (by omega)
 have hr : PAll.rd_T125 l (q : Int) = l[q] := by simp [PAll.rd_T125, List.getD_eq_getElem?_getD, List.getElem?_eq_getElem hq]
 rw [hr, Int.toNat_natCast] at h2
 exact ⟨ad, h1, h2⟩
theorem do_any (A : Option Addr) (c : Nat) (l : List Ac) (E : Option Addr) (cap : Nat) (env : List Int) (w : World) (hw : Laid w) (hA : ActsC w A l.length l) (hcA : l.length ≤ c) (hC : NumsC w E env.length env) (hc : env.length ≤ cap) (hl : l.length ≤ 1000) (hle : env.length ≤ 1000000) (ht : ∀ a ∈ l, a.f3.size ≤ 281474976710656) :
  Calls Tryz.prog 94 #[.slice A l.length c, .slice E env.length cap] w fun e w' => ∃ ve vo vi, e = .returned (.tuple #[ve, vo, vi]) ∧ EnvR w' w.heap.size ve (doA ⟨env, [], []⟩ l).env ∧ OutR w' w.heap.size vo (doA ⟨env, [], []⟩ l).out ∧ InnR w' w.heap.size vi (doA ⟨env, [], []⟩ l).inn ∧ Below w.heap.size w w' := by
 have HA := Lib.hid hA
 have HT := Lib.hid ht
 clear hA ht
 go_enter Tryz.func94, Tryz.ntmps94
 go_wp2_with fail
 refine (clone_any E cap env w hc hC hle).mono ?_
 rintro e w1 ⟨ve, rfl, hv, hb1⟩
 have HD0 : Hid (Doer w1.heap.size w.heap.size (w1.alloc (.cells #[ve, .slice none 0 0, .slice none 0 0] 162)) ⟨env, [], []⟩ ve (.slice none 0 0) (.slice none 0 0)) :=
  Lib.hid ⟨blk_new _ _, Kd.R_alloc hv _, Kd.R_nil _ _ _ _ _, Kd.R_nil _ _ _ _ _, hb1.size, by have := hb1.size; simp; omega⟩
 have HB0 := Lib.hid (hb1.alloc hb1.size (.cells #[ve, .slice none 0 0, .slice none 0 0] 162))
 obtain ⟨A0, c0, rfl⟩ := Kd.R_slice hv
 generalize hg : w1.heap.size = g at *
 have hf := hg
 clear hf hv hb1 hC
 have hL := fun (a : Ac) (s : Ds) (l : List Ac) => show doA s (a :: l) = if (oneA s a).2 then doA (oneA s a).1 l else { (oneA s a).1 with inn := (oneA s a).1.inn ++ [1001] } from rfl
 have HL := Lib.hid hL
 clear hL
 go_wp2_with fail
 go_loopw [16] (fun i wr => ∃ (q : Nat) (s : Ds) (ve vo vi : Value), i = .int .i64 q ∧ q ≤ l.length ∧ Hid (Doer g w.heap.size wr s ve vo vi) ∧ Hid (Below w.heap.size w wr) ∧ Hid (s.out.length ≤ q ∧ s.inn.length ≤ q) ∧ Hid (doA ⟨env, [], []⟩ l = doA s (l.drop q))) (fun i _ => l.length - (intOf i).toNat)
 case atStart => exact ⟨0, ⟨env, [], []⟩, _, _, _, rfl, by omega, HD0, HB0, Lib.hid ⟨by simp, by simp⟩, Lib.hid rfl⟩
 case round =>
  clear HD0 HB0
  obtain ⟨q, s, ve, vo, vi, rfl, hq, HD, HB, HS, HE⟩ := hrel
  obtain ⟨⟨c0, c1, c2⟩, f0, f1, f2⟩ := HD.out.cells
  by_cases hlt : q < l.length
  ·obtain ⟨ad, rfl, a0, a1, a2, a3⟩ := acts_at (Kd.C_below HA.out HB.out) q hlt
   have hds : l.drop q = l[q] :: l.drop (q + 1) := List.drop_eq_getElem_cons hlt
   have HE2 := HE.out
   rw [hds, HL.out] at HE2
   have HT2 := Lib.hid (HT.out l[q] (List.getElem_mem hlt))
   have HLn := Lib.hid (one_len s l[q])
   have p1 : ((q : Int) < (l.length : Int)) = True := eq_true (by omega)
   clear hds HE
   generalize l[q] = a at *
   obtain ⟨k, n, m, t⟩ := a
   have HE := Lib.hid HE2
   clear HE2
   simp only at a0 a1 a2 a3
   go_wp2_with fail
   have HDa := Lib.hid (HD.out.below ((Below.refl _ wr).alloc (Nat.le_refl _) (.cells #[.int .i64 k, .int .i64 n, .int .i64 m, .string t] 125)))
   have HBa := Lib.hid (HB.out.alloc HD.out.le (.cells #[.int .i64 k, .int .i64 n, .int .i64 m, .string t] 125))
   refine (one_any (hw.below HBa.out) HDa.out k n m t HT2.out (by have := HS.out; omega) (by have := HS.out; omega)).mono ?_
   rintro e w3 ⟨rfl, hb3, ve', vo', vi', hD3⟩
   have HD3 := Lib.hid hD3
   have HB3 := Lib.hid (HBa.out.trans hb3)
   clear hb3 hD3 a0 a1 a2 a3 c0 c1 c2 f0 f1 f2
   generalize oneA s ⟨k, n, m, t⟩ = r at HE HLn HD3 ⊢
   obtain ⟨s', ok⟩ := r
   cases ok with
   | true =>
    go_wp2_with fail
    go_roundw
    case rel => exact ⟨q + 1, s', ve', vo', vi', by go_num, by omega, HD3, HB3, Lib.hid (by have h3 := HS.out; have h4 : s'.out.length ≤ s.out.length + 1 := HLn.out.1; have h5 : s'.inn.length ≤ s.inn.length + 1 := HLn.out.2; omega), HE⟩
    case measure => simp [intOf]; omega
   | false =>
    obtain ⟨A3, c3, rfl⟩ := Kd.R_slice HD3.out.inn
    obtain ⟨⟨c0, c1, c2⟩, f0, f1, f2⟩ := HD3.out.cells
    have hi3 : s'.inn.length < 1000000 := by have := HLn.out.2; have := HS.out; have h5 : s'.inn.length ≤ s.inn.length + 1 := HLn.out.2; omega
    go_wp2_with (at_builtin; refine inn_append rfl (.tmp 28) (.tmp 29) rfl w.heap.size _ s'.inn 1001 rfl _ rfl ?aN HD3.out.inn HD3.out.le hi3 ?_)
    case aN => rfl
    intro v1 w4 hT hb1 hg4
    have hb2 := HB3.out.trans hb1
    have hfin := HD3.out.putInn hg4 hT
    have hblk := (hg4.block g (lt_of_block HD3.out.blk) (Kd.R_ne HD3.out.inn HD3.out.blk (by decide))).trans HD3.out.blk
    have f2' : w4.frozen? ⟨g, 2, none⟩ = false := blk_free hblk 2
    have c2' : w4.cell? ⟨g, 2, none⟩ = some _ := blk_cell hblk 2
    have hb3 := hb2.setCell (p := ⟨g, 2, none⟩) HD3.out.lt v1
    obtain ⟨A1, cap1, rfl⟩ := Kd.R_slice hT
    rw [List.length_append, List.length_singleton] at hfin hb3
    have HF := Lib.hid hfin
    have HB4 := Lib.hid hb3
    clear hT hb1 hg4 hb2 hfin hblk hb3 c0 c1 c2 f0 f1 f2
    go_wp2_with fail
    generalize w4.setCell ⟨g, 2, none⟩ (.slice A1 (s'.inn.length + 1) cap1) = w5 at HF HB4 ⊢
    obtain ⟨⟨c0, c1, c2⟩, f0, f1, f2⟩ := HF.out.cells
    repeat (go_quiet (fail); try go_wp2)
    go_ret3
    have HE2 := HE.out
    rw [if_neg (by simp)] at HE2
    rw [HE2]
    exact ⟨_, _, _, rfl, Kd.R_drewN HF.out.env _, Kd.R_drewN HF.out.out _, Kd.R_drewN HF.out.inn _, below_drewN' HB4.out _⟩
  ·obtain rfl : q = l.length := by omega
   go_wp2_with fail
   repeat (go_quiet (fail); try go_wp2)
   go_ret3
   have HE2 := HE.out
   rw [List.drop_length] at HE2
   rw [show doA s [] = s from rfl] at HE2
   rw [HE2]
   exact ⟨_, _, _, rfl, Kd.R_drewN HD.out.env _, Kd.R_drewN HD.out.out _, Kd.R_drewN HD.out.inn _, below_drewN' HB.out _⟩
end Go.Proofs.YtikilglbhnplaaaGreatDoor
end
section
namespace Go.Proofs.YtikilglbhnplaaaGreatDoor
open Go.RowKit Go.Proofs.YtikilglbhnplaaaGreatDoorW.PrintWords
open PX (T V)
structure StC (wB : World) (g : Nat) (v : Int) (A B : Option Addr) (ca cb : Nat) (st : List Sta) (tr : List Tra) : Prop where
 T : TrM wB g v st tr
 M : ChM wB A ca st B cb tr
 Z : LaidZ wB
 good : chkP v st tr = .none
 few : fewP st tr = true
abbrev HisR (w : World) (B : Nat) (v : Value) (l : List Int) : Prop := Kd.R (Kd.int .u32) 38 w B (fun _ => True) v l
abbrev stO (g : Nat) (v : Int) (A B : Option Addr) (ca cb : Nat) (st : List Sta) (tr : List Tra) (conf : Nat) (vh ve vi : Value) (stat : Int) (vo : Value) : Obj :=
 .cells #[.pointer (some ⟨g, 0, none⟩), .int .i64 v, .slice A st.length ca, .slice B tr.length cb, .int .u32 (conf : Nat), vh, ve, vi, .int .i64 stat, vo] 111
structure StR (wB : World) (g : Nat) (v : Int) (A B : Option Addr) (ca cb : Nat) (st : List Sta) (tr : List Tra) (w : World) (m : Ses) (vh ve vi vo : Value) : Prop where
 low : Below wB.heap.size wB w
 blk : w.heap[wB.heap.size]? = some (stO g v A B ca cb st tr m.conf vh ve vi m.stat vo)
 hist : HisR w wB.heap.size vh m.hist
 env : EnvR w wB.heap.size ve m.env
 inn : InnR w wB.heap.size vi m.inn
 out : OutR w wB.heap.size vo m.out
 conf : m.conf < 4294967296
def StM (wB : World) (g : Nat) (v : Int) (A B : Option Addr) (ca cb : Nat) (st : List Sta) (tr : List Tra) (w : World) (m : Ses) : Prop := ∃ vh ve vi vo, StR wB g v A B ca cb st tr w m vh ve vi vo
abbrev StP (wB : World) : Value := .pointer (some ⟨wB.heap.size, 0, none⟩)
section
variable {wB : World} {g : Nat} {v : Int} {A B : Option Addr} {ca cb : Nat} {st : List Sta} {tr : List Tra} {w : World} {m : Ses} {vh ve vi vo : Value}
theorem StR.below {w' : World} (h : StR wB g v A B ca cb st tr w m vh ve vi vo) (hb : Below w.heap.size w w') : StR wB g v A B ca cb st tr w' m vh ve vi vo :=
 ⟨below_then h.low h.low.size hb, (hb.block _ (lt_of_block h.blk)).trans h.blk, Kd.R_below h.hist hb, Kd.R_below h.env hb, Kd.R_below h.inn hb, Kd.R_below h.out hb, h.conf⟩
theorem StM.below {w' : World} (h : StM wB g v A B ca cb st tr w m) (hb : Below w.heap.size w w') : StM wB g v A B ca cb st tr w' m := by
 obtain ⟨vh, ve, vi, vo, h⟩ := h
 exact ⟨vh, ve, vi, vo, h.below hb⟩
theorem StR.cells (h : StR wB g v A B ca cb st tr w m vh ve vi vo) : (w.cell? ⟨wB.heap.size, 0, none⟩ = some (.pointer (some ⟨g, 0, none⟩)) ∧ w.cell? ⟨wB.heap.size, 2, none⟩ = some (.slice A st.length ca) ∧ w.cell? ⟨wB.heap.size, 3, none⟩ = some (.slice B tr.length cb) ∧
  w.cell? ⟨wB.heap.size, 4, none⟩ = some (.int .u32 (m.conf : Nat)) ∧ w.cell? ⟨wB.heap.size, 5, none⟩ = some vh ∧ w.cell? ⟨wB.heap.size, 6, none⟩ = some ve ∧ w.cell? ⟨wB.heap.size, 7, none⟩ = some vi ∧ w.cell? ⟨wB.heap.size, 8, none⟩ = some (.int .i64 m.stat) ∧ w.cell? ⟨wB.heap.size, 9, none⟩ = some vo) ∧
  w.frozen? ⟨wB.heap.size, 4, none⟩ = false ∧ w.frozen? ⟨wB.heap.size, 6, none⟩ = false ∧ w.frozen? ⟨wB.heap.size, 7, none⟩ = false ∧ w.frozen? ⟨wB.heap.size, 8, none⟩ = false ∧ w.frozen? ⟨wB.heap.size, 9, none⟩ = false :=
 ⟨⟨blk_cell h.blk 0, blk_cell h.blk 2, blk_cell h.blk 3, blk_cell h.blk 4, blk_cell h.blk 5, blk_cell h.blk 6, blk_cell h.blk 7, blk_cell h.blk 8, blk_cell h.blk 9⟩, blk_free h.blk 4, blk_free h.blk 6, blk_free h.blk 7, blk_free h.blk 8, blk_free h.blk 9⟩
theorem StR.rows_set (h1 : HisR w wB.heap.size vh m.hist) (h2 : EnvR w wB.heap.size ve m.env) (h3 : InnR w wB.heap.size vi m.inn) (h4 : OutR w wB.heap.size vo m.out) {cs : Array Value} (hb : w.heap[wB.heap.size]? = some (.cells cs 111 (0, 0))) (j : Nat) (u : Value) :
  HisR (w.setCell ⟨wB.heap.size, j, none⟩ u) wB.heap.size vh m.hist ∧ EnvR (w.setCell ⟨wB.heap.size, j, none⟩ u) wB.heap.size ve m.env ∧ InnR (w.setCell ⟨wB.heap.size, j, none⟩ u) wB.heap.size vi m.inn ∧ OutR (w.setCell ⟨wB.heap.size, j, none⟩ u) wB.heap.size vo m.out :=
 ⟨Kd.R_set h1 hb (by decide) j u, Kd.R_set h2 hb (by decide) j u, Kd.R_set h3 hb (by decide) j u, Kd.R_set h4 hb (out_q (by decide)) j u⟩
theorem StR.putConf (h : StR wB g v A B ca cb st tr w m vh ve vi vo) (c : Nat) (hc : c < 4294967296) : StR wB g v A B ca cb st tr (w.setCell ⟨wB.heap.size, 4, none⟩ (.int .u32 (c : Nat))) { m with conf := c } vh ve vi vo := by
 obtain ⟨r1, r2, r3, r4⟩ := StR.rows_set h.hist h.env h.inn h.out h.blk 4 (.int .u32 (c : Nat))
 exact ⟨h.low.setCell (p := ⟨wB.heap.size, 4, none⟩) (Nat.le_refl _) _, blk_set h.blk 4 _, r1, r2, r3, r4, hc⟩
theorem StR.putStat (h : StR wB g v A B ca cb st tr w m vh ve vi vo) (s : Int) : StR wB g v A B ca cb st tr (w.setCell ⟨wB.heap.size, 8, none⟩ (.int .i64 s)) { m with stat := s } vh ve vi vo := by
 obtain ⟨r1, r2, r3, r4⟩ := StR.rows_set h.hist h.env h.inn h.out h.blk 8 (.int .i64 s)
 exact ⟨h.low.setCell (p := ⟨wB.heap.size, 8, none⟩) (Nat.le_refl _) _, blk_set h.blk 8 _, r1, r2, r3, r4, h.conf⟩
theorem StR.put3 {ve' vi' vo' : Value} {le li : List Int} {lo : List Ou} (low : Below wB.heap.size wB w) (blk : w.heap[wB.heap.size]? = some (stO g v A B ca cb st tr m.conf vh ve vi m.stat vo)) (hist : HisR w wB.heap.size vh m.hist) (env : EnvR w wB.heap.size ve' le) (inn : InnR w wB.heap.size vi' li) (out : OutR w wB.heap.size vo' lo) (hc : m.conf < 4294967296) :
  StR wB g v A B ca cb st tr (((w.setCell ⟨wB.heap.size, 6, none⟩ ve').setCell ⟨wB.heap.size, 9, none⟩ vo').setCell ⟨wB.heap.size, 7, none⟩ vi') { m with env := le, inn := li, out := lo } vh ve' vi' vo' := by
 obtain ⟨r1, r2, r3, r4⟩ := StR.rows_set (m := { m with env := le, inn := li, out := lo }) hist env inn out blk 6 ve'
 have b1 := blk_set blk 6 ve'
 obtain ⟨r1, r2, r3, r4⟩ := StR.rows_set (m := { m with env := le, inn := li, out := lo }) r1 r2 r3 r4 b1 9 vo'
 have b2 := blk_set b1 9 vo'
 obtain ⟨r1, r2, r3, r4⟩ := StR.rows_set (m := { m with env := le, inn := li, out := lo }) r1 r2 r3 r4 b2 7 vi'
 exact ⟨((low.setCell (p := ⟨wB.heap.size, 6, none⟩) (Nat.le_refl _) _).setCell (p := ⟨wB.heap.size, 9, none⟩) (Nat.le_refl _) _).setCell (p := ⟨wB.heap.size, 7, none⟩) (Nat.le_refl _) _, blk_set b2 7 vi', r1, r2, r3, r4, hc⟩
end
section
variable {ops : Array Oper} {Q : Exit → Act → World → Prop} {a : Act} {o : Oper}
theorem inn_rows_step {W : World} {K : Act → World → Prop} {E : Prop} (hgd : o.guard = none) (s x : Operand)
  (ho : o.op = .call { callee := .builtin .append, args := #[s, x], argTypes := #[36, 36] })
  (B : Nat) (v : Value) (xs ys : List Int) (A : Option Addr) (n c : Nat) (hs : a.eval s = v) (hx : a.eval x = .slice A n c)
  (HO : InnR W B v xs) (HR : (Kd.int .i64).C W A n ys) (hB : B ≤ W.heap.size) (hl : xs.length + n < 1000000)
  (h : ∀ v1 w1, InnR w1 B v1 (xs ++ ys) → Below B W w1 → W.grownBy w1 v.ownBlock → K (a.put o.dst v1) w1) :
  if Region.wanted o (yielded ops a.tmps) = true then Oper.wp Tryz.prog o a W K Q else E := by
 have hw : Region.wanted o (yielded ops a.tmps) = true := by simp [Region.wanted, hgd]
 have := Kd.R_append_rows_step (ops := ops) (Q := Q) (Kc := K) (Rr := (Kd.int .i64).K W) (Kd.int .i64) (w0 := W) B hw s x 36 3 (.int .i64 0) 8 ho Tryz.underlying36 (by kernel_rfl) rfl (by decide) (by omega) v xs ys A n c
  (fun _ => True) (fun _ => False) hs hx HO HR (fun _ _ h => h) (fun _ hk => hk.elim) (fun _ _ => trivial) (Below.refl _ _) hB (by omega) (fun v1 w1 h1 h2 h3 h4 => h v1 w1 h1 h2 h3)
 rw [if_pos hw] at this ⊢
 exact this
theorem out_rows_step {W : World} {K : Act → World → Prop} {E : Prop} (hgd : o.guard = none) (s x : Operand)
  (ho : o.op = .call { callee := .builtin .append, args := #[s, x], argTypes := #[53, 53] })
  (B : Nat) (v : Value) (xs ys : List Ou) (A : Option Addr) (n c : Nat) (hs : a.eval s = v) (hx : a.eval x = .slice A n c)
  (HO : OutR W B v xs) (HR : PAll.k185.C W A n ys) (hB : B ≤ W.heap.size) (hl : xs.length + n < 1000000)
  (h : ∀ v1 w1, OutR w1 B v1 (xs ++ ys) → Below B W w1 → W.grownBy w1 v.ownBlock → K (a.put o.dst v1) w1) :
  if Region.wanted o (yielded ops a.tmps) = true then Oper.wp Tryz.prog o a W K Q else E := by
 have hw : Region.wanted o (yielded ops a.tmps) = true := by simp [Region.wanted, hgd]
 have := Kd.R_append_rows_step (ops := ops) (Q := Q) (Kc := K) (Rr := PAll.k185.K W) PAll.k185 (w0 := W) B hw s x 53 185 (.agg #[(.int .i64 0), (.int .i64 0), (.int .i64 0), (.int .i64 0)]) 32 ho Tryz.underlying53 (by kernel_rfl) rfl (by decide) (by omega) v xs ys A n c
  (fun _ => True) (fun _ => False) hs hx HO HR (fun _ _ h => h) (fun _ hk => hk.elim) (fun _ _ => trivial) (Below.refl _ _) hB (by omega) (fun v1 w1 h1 h2 h3 h4 => h v1 w1 h1 h2 h3)
 rw [if_pos hw] at this ⊢
 exact this
end
def Kp (w w' : World) : Prop := ∀ (k : Nat) (cs : Array Value) (t : TypeId), (t = 66 ∨ t = 108 ∨ t = 46 ∨ t = 33) → w.heap[k]? = some (.cells cs t (0, 0)) → w'.heap[k]? = some (.cells cs t (0, 0))
theorem Kp.refl (w : World) : Kp w w := fun _ _ _ _ h => h
theorem Kp.trans {a b c : World} (h1 : Kp a b) (h2 : Kp b c) : Kp a c := fun k cs t ht h => h2 k cs t ht (h1 k cs t ht h)
theorem Kp.below {w w' : World} (h : Below w.heap.size w w') : Kp w w' := fun k _ _ _ hk => (h.block k (lt_of_block hk)).trans hk
theorem Kp.set {w : World} {b : Nat} {cs : Array Value} {t : TypeId} {fr : Nat × Nat} (h : w.heap[b]? = some (.cells cs t fr)) (ht : t ≠ 66 ∧ t ≠ 108 ∧ t ≠ 46 ∧ t ≠ 33) (i : Nat) (u : Value) : Kp w (w.setCell ⟨b, i, none⟩ u) := fun k cs' t' ht' hk =>
 blk_far hk (p := ⟨b, i, none⟩) (fun e => by
  have e : k = b := e
  subst e
  rw [h] at hk
  injection hk with hk
  injection hk with _ hk
  subst hk
  obtain ⟨h1, h2, h3, h4⟩ := ht
  rcases ht' with e | e | e | e
  ·exact h1 e
  ·exact h2 e
  ·exact h3 e
  ·exact h4 e) u
theorem Kp.grown {w w' : World} {α : Type} {d : Kd α} {e B : Nat} {ok : Nat → Prop} {v : Value} {xs : List α} (h : Kd.R d e w B ok v xs) (hg : w.grownBy w' v.ownBlock) (ht : e ≠ 66 ∧ e ≠ 108 ∧ e ≠ 46 ∧ e ≠ 33) : Kp w w' := fun k cs t ht' hk =>
 (hg.block k (lt_of_block hk) (Kd.R_ne h hk (by
  obtain ⟨h1, h2, h3, h4⟩ := ht
  rcases ht' with e | e | e | e <;> rw [e]
  ·exact h1
  ·exact h2
  ·exact h3
  ·exact h4))).trans hk
theorem Kp.set3 {w : World} {b : Nat} {cs : Array Value} (h : w.heap[b]? = some (.cells cs 111 (0, 0))) (u1 u2 u3 : Value) : Kp w (((w.setCell ⟨b, 6, none⟩ u1).setCell ⟨b, 9, none⟩ u2).setCell ⟨b, 7, none⟩ u3) :=
 ((Kp.set h (by decide) 6 u1).trans (Kp.set (blk_set h 6 u1) (by decide) 9 u2)).trans (Kp.set (blk_set (blk_set h 6 u1) 9 u2) (by decide) 7 u3)
theorem doA_grows (l : List Ac) : ∀ s : Ds, (doA s l).out.length ≤ s.out.length + l.length ∧ (doA s l).inn.length ≤ s.inn.length + l.length + 1 ∧ (doA s l).env.length = s.env.length := by
 induction l with
 | nil => intro s; simp [doA]
 | cons a l ih =>
  intro s
  have h1 : (oneA s a).1.out.length ≤ s.out.length + 1 ∧ (oneA s a).1.inn.length ≤ s.inn.length + 1 ∧ (oneA s a).1.env.length = s.env.length := by
   unfold oneA
   repeat' split
   all_goals simp
  simp only [doA, List.length_cons]
  split
  ·have := ih (oneA s a).1; omega
  ·simp only [List.length_append, List.length_singleton]; omega
section
variable {wB : World} {g : Nat} {v : Int} {A B : Option Addr} {ca cb : Nat} {st : List Sta} {tr : List Tra} {w : World} {m : Ses}
theorem macts_any (hC : StC wB g v A B ca cb st tr) (h : StM wB g v A B ca cb st tr w m) (A1 : Option Addr) (c1 : Nat) (l : List Ac) (hA : ActsC wB A1 l.length l) (hc : l.length ≤ c1) (hl : l.length ≤ 1000) (hz : ∀ a ∈ l, a.f3.size ≤ 281474976710656) (hi : m.inn.length ≤ 500000) (ho : m.out.length ≤ 500000) (he : m.env.length ≤ 1000) :
  Calls Tryz.prog 67 #[StP wB, .slice A1 l.length c1] w fun e w' => e = .returned (.tuple #[]) ∧ StM wB g v A B ca cb st tr w' (actsM m l) ∧ Kp w w' := by
 obtain ⟨vh, ve, vi, vo, h⟩ := h
 have H := Lib.hid h
 obtain ⟨⟨y0, y2, y3, y4, y5, y6, y7, y8, y9⟩, f4, f6, f7, f8, f9⟩ := h.cells
 obtain ⟨E, ec, rfl⟩ := Kd.R_slice h.env
 obtain ⟨_, hec, hEC⟩ := Kd.R_reads' h.env
 have HEC := Lib.hid hEC
 have HA := Lib.hid (Kd.C_below hA h.low)
 have HZ := Lib.hid hz
 have HW := Lib.hid (hC.Z.toLaid.below h.low)
 obtain ⟨g1, g2, _⟩ := doA_grows l ⟨m.env, [], []⟩
 simp only [List.length_nil] at g1 g2
 have HG : Hid (actsM m l = { m with env := (doA ⟨m.env, [], []⟩ l).env, inn := m.inn ++ (doA ⟨m.env, [], []⟩ l).inn, out := m.out ++ (doA ⟨m.env, [], []⟩ l).out }) := Lib.hid rfl
 rename_i g3
 clear g3 h hA hz hEC y0 y2 y3 y4 y5 y8
 go_enter Tryz.func67, Tryz.ntmps67
 go_wp2_with fail
 refine (do_any A1 c1 l E ec m.env w HW.out HA.out hc HEC.out hec hl (by omega) HZ.out).mono ?_
 generalize doA ⟨m.env, [], []⟩ l = d at *
 rintro e w1 ⟨ve', vo', vi', rfl, hve, hvo, hvi, hb1⟩
 have HR := Lib.hid (H.out.below hb1)
 have HKp : Hid (Kp w w1.drew) := Lib.hid ((Kp.below hb1).trans (Kp.below (below_drew (Below.refl _ _))))
 obtain ⟨⟨_, _, _, _, _, y6, y7, _, y9⟩, f4, f6, f7, f8, f9⟩ := HR.out.cells
 obtain ⟨Ao, co, rfl⟩ := Kd.R_slice hvo
 obtain ⟨_, _, hCo⟩ := Kd.R_reads' hvo
 obtain ⟨Ai, ci, rfl⟩ := Kd.R_slice hvi
 obtain ⟨_, _, hCi⟩ := Kd.R_reads' hvi
 obtain ⟨Ae, ce, rfl⟩ := Kd.R_slice hve
 have HVE := Lib.hid (Kd.R_drew (Kd.R_lower hve H.out.low.size))
 have HVO := Lib.hid (Kd.R_drew hvo)
 have HVI := Lib.hid (Kd.R_drew hvi)
 have HCo := Lib.hid (Kd.C_drew hCo)
 have HCi := Lib.hid (Kd.C_drew hCi)
 have HRd := Lib.hid (HR.out.below (below_drew (Below.refl _ _)))
 have hs1 : wB.heap.size ≤ w1.drew.heap.size := HR.out.low.size
 have ho1 : m.out.length + d.out.length < 1000000 := by omega
 have hi1 : m.inn.length + d.inn.length < 1000000 := by omega
 obtain ⟨lo, hlo⟩ : ∃ lo : List Ou, lo = m.out ++ d.out := ⟨_, rfl⟩
 obtain ⟨li, hli⟩ : ∃ li : List Int, li = m.inn ++ d.inn := ⟨_, rfl⟩
 have Hlo := Lib.hid hlo
 have Hli := Lib.hid hli
 clear hb1 hve hvo hvi hCo hCi hlo hli
 go_wp2_with fail
 go_region_law (first
  | (refine out_rows_step (W := w1.drew) rfl (.tmp 25) (.tmp 26) rfl wB.heap.size _ m.out d.out Ao d.out.length co rfl rfl HRd.out.out HCo.out hs1 ho1 ?_; intro v3 w3 h3 hb3 hg3; rw [← Hlo.out] at h3; obtain ⟨A3, c3, rfl⟩ := Kd.R_slice h3; have hi3 := Kd.R_over HRd.out.inn HRd.out.out (by decide) hg3; have hci3 := (Kd.R_reads' (Kd.R_over HVI.out HRd.out.out (by decide) hg3)).2.2; have hs3 := Nat.le_trans hs1 hb3.size; have he3 := Kd.R_over HVE.out HRd.out.out (by decide) hg3; have hh3 := Kd.R_over HRd.out.hist HRd.out.out (by decide) hg3; have hk3 := (hg3.block _ (lt_of_block HRd.out.blk) (Kd.R_ne HRd.out.out HRd.out.blk (by decide))).trans HRd.out.blk; have c36 : w3.cell? ⟨wB.heap.size, 6, none⟩ = some (.slice E m.env.length ec) := blk_cell hk3 6; have f36 : w3.frozen? ⟨wB.heap.size, 6, none⟩ = false := blk_free hk3 6; have c37 : w3.cell? ⟨wB.heap.size, 7, none⟩ = some (vi) := blk_cell hk3 7; have f37 : w3.frozen? ⟨wB.heap.size, 7, none⟩ = false := blk_free hk3 7; have c39 : w3.cell? ⟨wB.heap.size, 9, none⟩ = some (vo) := blk_cell hk3 9; have f39 : w3.frozen? ⟨wB.heap.size, 9, none⟩ = false := blk_free hk3 9)
  | (refine inn_rows_step (W := w1.drew) rfl (.tmp 32) (.tmp 33) rfl wB.heap.size _ m.inn d.inn Ai d.inn.length ci rfl rfl HRd.out.inn HCi.out hs1 hi1 ?_; intro v4 w4 h4 hb4 hg4; rw [← Hli.out] at h4; obtain ⟨A4, c4, rfl⟩ := Kd.R_slice h4; have ho4 := Kd.R_over HRd.out.out HRd.out.inn (out_q (by decide)) hg4; have hco4 := (Kd.R_reads' (Kd.R_over HVO.out HRd.out.inn (out_q (by decide)) hg4)).2.2; have hs4 := Nat.le_trans hs1 hb4.size; have he4 := Kd.R_over HVE.out HRd.out.inn (by decide) hg4; have hh4 := Kd.R_over HRd.out.hist HRd.out.inn (by decide) hg4; have hk4 := (hg4.block _ (lt_of_block HRd.out.blk) (Kd.R_ne HRd.out.inn HRd.out.blk (by decide))).trans HRd.out.blk; have c46 : w4.cell? ⟨wB.heap.size, 6, none⟩ = some (.slice E m.env.length ec) := blk_cell hk4 6; have f46 : w4.frozen? ⟨wB.heap.size, 6, none⟩ = false := blk_free hk4 6; have c47 : w4.cell? ⟨wB.heap.size, 7, none⟩ = some (vi) := blk_cell hk4 7; have f47 : w4.frozen? ⟨wB.heap.size, 7, none⟩ = false := blk_free hk4 7; have c49 : w4.cell? ⟨wB.heap.size, 9, none⟩ = some (vo) := blk_cell hk4 9; have f49 : w4.frozen? ⟨wB.heap.size, 9, none⟩ = false := blk_free hk4 9)
  | (refine inn_rows_step (W := w3) rfl (.tmp 32) (.tmp 33) rfl wB.heap.size _ m.inn d.inn Ai d.inn.length ci rfl rfl hi3 hci3 hs3 hi1 ?_; intro v5 w5 h5 hb5 hg5; rw [← Hli.out] at h5; obtain ⟨A5, c5, rfl⟩ := Kd.R_slice h5; have ho5 := Kd.R_over h3 hi3 (out_q (by decide)) hg5; have he5 := Kd.R_over he3 hi3 (by decide) hg5; have hh5 := Kd.R_over hh3 hi3 (by decide) hg5; have hk5 := (hg5.block _ (lt_of_block hk3) (Kd.R_ne hi3 hk3 (by decide))).trans hk3; have c56 : w5.cell? ⟨wB.heap.size, 6, none⟩ = some (.slice E m.env.length ec) := blk_cell hk5 6; have f56 : w5.frozen? ⟨wB.heap.size, 6, none⟩ = false := blk_free hk5 6; have c57 : w5.cell? ⟨wB.heap.size, 7, none⟩ = some (vi) := blk_cell hk5 7; have f57 : w5.frozen? ⟨wB.heap.size, 7, none⟩ = false := blk_free hk5 7; have c59 : w5.cell? ⟨wB.heap.size, 9, none⟩ = some (vo) := blk_cell hk5 9; have f59 : w5.frozen? ⟨wB.heap.size, 9, none⟩ = false := blk_free hk5 9)
  | (refine out_rows_step (W := w4) rfl (.tmp 25) (.tmp 26) rfl wB.heap.size _ m.out d.out Ao d.out.length co rfl rfl ho4 hco4 hs4 ho1 ?_; intro v6 w6 h6 hb6 hg6; rw [← Hlo.out] at h6; obtain ⟨A6, c6, rfl⟩ := Kd.R_slice h6; have hi6 := Kd.R_over h4 ho4 (by decide) hg6; have he6 := Kd.R_over he4 ho4 (by decide) hg6; have hh6 := Kd.R_over hh4 ho4 (by decide) hg6; have hk6 := (hg6.block _ (lt_of_block hk4) (Kd.R_ne ho4 hk4 (by decide))).trans hk4; have c66 : w6.cell? ⟨wB.heap.size, 6, none⟩ = some (.slice E m.env.length ec) := blk_cell hk6 6; have f66 : w6.frozen? ⟨wB.heap.size, 6, none⟩ = false := blk_free hk6 6; have c67 : w6.cell? ⟨wB.heap.size, 7, none⟩ = some (vi) := blk_cell hk6 7; have f67 : w6.frozen? ⟨wB.heap.size, 7, none⟩ = false := blk_free hk6 7; have c69 : w6.cell? ⟨wB.heap.size, 9, none⟩ = some (vo) := blk_cell hk6 9; have f69 : w6.frozen? ⟨wB.heap.size, 9, none⟩ = false := blk_free hk6 9))
 all_goals
  go_wp2_with fail
  go_end0
  first
  | exact ⟨rfl, ⟨_, _, _, _, by rw [HG.out, ← Hlo.out, ← Hli.out]; exact StR.put3 ((HRd.out.low.trans hb3).trans hb5) hk5 hh5 he5 h5 ho5 HRd.out.conf⟩, ((HKp.out.trans (Kp.grown HRd.out.out hg3 (by decide))).trans (Kp.grown hi3 hg5 (by decide))).trans (Kp.set3 hk5 _ _ _)⟩
  | exact ⟨rfl, ⟨_, _, _, _, by rw [HG.out, ← Hlo.out, ← Hli.out]; exact StR.put3 ((HRd.out.low.trans hb4).trans hb6) hk6 hh6 he6 hi6 h6 HRd.out.conf⟩, ((HKp.out.trans (Kp.grown HRd.out.inn hg4 (by decide))).trans (Kp.grown ho4 hg6 (by decide))).trans (Kp.set3 hk6 _ _ _)⟩
end
end Go.Proofs.YtikilglbhnplaaaGreatDoor
end
section
namespace Go.Proofs.YtikilglbhnplaaaGreatDoor
open Go.RowKit Go.Proofs.YtikilglbhnplaaaGreatDoorW.PrintWords Go.Proofs.YtikilglbhnplaaaGreatDoorW.PrintLast
open PX (T V)
theorem his_at {w : World} {B gl n cap : Nat} {xs : List Int} (h : HisR w B (.slice (some ⟨gl, 0, none⟩) n cap) xs) (q : Nat) (hq : q < xs.length) : w.cell? ⟨gl, q, none⟩ = some (.int .u32 xs[q]) ∧ w.frozen? ⟨gl, q, none⟩ = false := by
 obtain ⟨rfl, _, hC⟩ := Kd.R_reads' h
 have h2 := Kd.R_celln (0 : Int) h (q : Int) (by omega) (by omega)
 rw [Int.toNat_natCast] at h2
 refine ⟨?_, h2.2⟩
 have h3 := h2.1
 simpa [rdOf, List.getD_eq_getElem?_getD, List.getElem?_eq_getElem hq] using h3
theorem his_put {w : World} {B gl n cap : Nat} {xs : List Int} (h : HisR w B (.slice (some ⟨gl, 0, none⟩) n cap) xs) (q : Nat) (x : Int) : HisR (w.setCell ⟨gl, q, none⟩ (.int .u32 x)) B (.slice (some ⟨gl, 0, none⟩) n cap) (xs.set q x) := by
 have := Kd.R_putn h (q : Int) x
 rwa [Int.toNat_natCast] at this
theorem recH_len (st : List Sta) (conf set : Nat) (h : List Int) (q : Nat) : (recH st conf set h q).length = h.length := by
 unfold recH; split
 ·rfl
 ·split <;> simp
theorem recN_len (st : List Sta) (conf set : Nat) (h : List Int) (q : Nat) : (recN st conf set h q).length = h.length := by
 induction q with
 | zero => rfl
 | succ q ih => simp only [recN]; rw [recH_len, ih]
theorem lvP_in {st : List Sta} {set : Nat} {a : Int} (h : a ∈ lvP st set) : ∃ n : Nat, a = (n : Int) ∧ n < st.length ∧ set.testBit n = true ∧ ((rdS st (n : Int)).f0 = 1 ∨ (rdS st (n : Int)).f0 = 4) := by
 have key : ∀ q, q ≤ st.length → a ∈ lvN st set q → ∃ n : Nat, a = (n : Int) ∧ n < st.length ∧ set.testBit n = true ∧ ((rdS st (n : Int)).f0 = 1 ∨ (rdS st (n : Int)).f0 = 4) := by
  intro q
  induction q with
  | zero => intro _ h; cases h
  | succ q ih =>
   intro hq h
   simp only [lvN] at h
   rcases List.mem_append.1 h with h | h
   ·exact ih (by omega) h
   ·split at h
    ·rename_i c
     rw [List.mem_singleton] at h
     exact ⟨q, h, by omega, c.1, c.2⟩
    ·cases h
 exact key _ (Nat.le_refl _) h
section
variable {wB : World} {g : Nat} {v : Int} {A B : Option Addr} {ca cb : Nat} {st : List Sta} {tr : List Tra} {w : World} {m : Ses}
theorem StR.putHis {ve vi vo : Value} {gh ch : Nat} (h : StR wB g v A B ca cb st tr w m (.slice (some ⟨gh, 0, none⟩) st.length ch) ve vi vo) (q : Nat) (x : Int) :
  StR wB g v A B ca cb st tr (w.setCell ⟨gh, q, none⟩ (.int .u32 x)) { m with hist := m.hist.set q x } (.slice (some ⟨gh, 0, none⟩) st.length ch) ve vi vo := by
 have hb : wB.heap.size ≤ gh := Kd.R_base h.hist gh rfl
 obtain ⟨cs, hcs⟩ := Kd.R_typed h.hist gh rfl
 have hne : wB.heap.size ≠ gh := fun e => by
  have := h.blk
  rw [e, hcs] at this
  injection this with this
  injection this with _ this
  exact absurd this (by decide)
 refine ⟨h.low.setCell (p := ⟨gh, q, none⟩) hb _, blk_far h.blk hne _, his_put h.hist q x, ?_, ?_, ?_, h.conf⟩
 ·exact Kd.R_set h.env hcs (by decide) q _
 ·exact Kd.R_set h.inn hcs (by decide) q _
 ·exact Kd.R_set h.out hcs (out_q (by decide)) q _
theorem mrec_any (hC : StC wB g v A B ca cb st tr) (h : StM wB g v A B ca cb st tr w m) (hh : m.hist.length = st.length) (set : Nat) (hset : set < 4294967296) :
  Calls Tryz.prog 93 #[StP wB, .int .u32 (set : Nat)] w fun e w' => e = .returned (.tuple #[]) ∧ StM wB g v A B ca cb st tr w' { m with hist := recN st m.conf set m.hist st.length } ∧ Kp w w' := by
 obtain ⟨⟨_, _, hn1, hn, hn2⟩, _⟩ := chk_none hC.good
 have HG := Lib.hid (fun s hs => good_kind (s := s) hC.good hs)
 have HAh := Lib.hid (good_ahead hC.good)
 obtain ⟨vh, ve, vi, vo, h⟩ := h
 obtain ⟨gh, ch, hv, _⟩ := Kd.R_form h.hist (by omega)
 subst hv
 have H := Lib.hid h
 have HHl := Lib.hid hh
 have HCf := Lib.hid h.conf
 rw [hh] at h
 obtain ⟨⟨_, y2, _⟩, _⟩ := h.cells
 clear h
 go_enter Tryz.func93, Tryz.ntmps93
 go_wp2_with fail
 clear y2
 rw [HHl.out] at H
 go_loopg [14] st.length (fun gk i wr => ∃ q : Nat, q + gk = st.length ∧ i = .int .i64 q ∧ Hid (StR wB g v A B ca cb st tr wr { m with hist := recN st m.conf set m.hist q } (.slice (some ⟨gh, 0, none⟩) st.length ch) ve vi vo) ∧ Hid (Kp w wr))
 case atStart => exact ⟨0, by omega, rfl, H, Lib.hid (Kp.refl w)⟩
 case round =>
  obtain ⟨q, hq, rfl, HR, HKp⟩ := hrel
  obtain ⟨wo, rfl⟩ : ∃ wo : World, wo = wr := ⟨_, rfl⟩
  cases gk with
  | zero =>
   obtain rfl : q = st.length := by omega
   have p1 : ((st.length : Int) < (st.length : Int)) = False := eq_false (by omega)
   go_wp2_with fail
   go_end0
   exact ⟨rfl, ⟨_, _, _, _, HR.out⟩, HKp.out⟩
  | succ gq =>
   have hlt : q < st.length := by omega
   have p1 : ((q : Int) < (st.length : Int)) = True := eq_true (by omega)
   obtain ⟨ad, A2, c2, A3, c3, A4, c4, rfl, q0, q1, q2, q3, q4, _⟩ := PAll.at_T66 (Kd.C_below hC.M.cs HR.out.low) (q : Int) (by omega) (by omega)
   rw [Int.toNat_natCast] at q0 q1 q2 q3 q4
   by_cases hk : (rdS st (q : Int)).f0 < 5
   ·have d1 : decide ((PAll.rd_T66 st (q : Int)).f0 < 5) = true := decide_eq_true hk
    have hrc : recN st m.conf set m.hist (q + 1) = recN st m.conf set m.hist q := if_pos (.inl hk)
    have HR2 : Hid (StR wB g v (some ad) B ca cb st tr (wo.alloc (.cells #[.int .i64 (PAll.rd_T66 st (q : Int)).f0, .int .i64 (PAll.rd_T66 st (q : Int)).f1, .slice A2 (PAll.rd_T66 st (q : Int)).f2.length c2, .slice A3 (PAll.rd_T66 st (q : Int)).f3.length c3, .slice A4 (PAll.rd_T66 st (q : Int)).f4.length c4] 66)) { m with hist := recN st m.conf set m.hist (q + 1) } (.slice (some ⟨gh, 0, none⟩) st.length ch) ve vi vo) := Lib.hid (by rw [hrc]; exact HR.out.below ((Below.refl _ _).alloc (Nat.le_refl _) _))
    clear hrc hk
    go_wp2_with fail
    go_roundg gq
    case measure => omega
    case rel => exact ⟨q + 1, by omega, by go_num, HR2, Lib.hid (HKp.out.trans (Kp.below ((Below.refl _ _).alloc (Nat.le_refl _) _)))⟩
   have hk6 := (HG.out (q : Int) ⟨by omega, by omega⟩).2
   have hq0 : q ≠ 0 := fun e => by
    subst e
    have := (state_par ((chk_none hC.good).2.1 0 (Int.le_refl _) (by omega))).1 rfl
    exact hk (by show (PAll.rd_T66 st 0).f0 < 5; omega)
   have hpar := ahead_at HAh.out (s := (q : Int)) ⟨by omega, by omega⟩
   obtain ⟨pn, hpn⟩ : ∃ pn : Nat, (PAll.rd_T66 st (q : Int)).f1 = (pn : Int) := ⟨(rdS st (q : Int)).f1.toNat, by have := hpar.2 (by omega); show (rdS st (q : Int)).f1 = _; omega⟩
   rw [hpn] at q1
   have hpn32 : pn ≤ 32 := by have h1 : (rdS st (q : Int)).f1 = (pn : Int) := hpn; have := hpar.1; omega
   have d1 : decide ((PAll.rd_T66 st (q : Int)).f0 < 5) = false := decide_eq_false hk
   have HPn := Lib.hid hpn
   have HAl := Lib.hid (HR.out.below ((Below.refl _ wo).alloc (Nat.le_refl _) (.cells #[.int .i64 (rdS st (q : Int)).f0, .int .i64 (pn : Int), .slice A2 (rdS st (q : Int)).f2.length c2, .slice A3 (rdS st (q : Int)).f3.length c3, .slice A4 (rdS st (q : Int)).f4.length c4] 66)))
   have hzb := blk_new wo (.cells #[.int .i64 (rdS st (q : Int)).f0, .int .i64 (pn : Int), .slice A2 (rdS st (q : Int)).f2.length c2, .slice A3 (rdS st (q : Int)).f3.length c3, .slice A4 (rdS st (q : Int)).f4.length c4] 66)
   have HZb := Lib.hid hzb
   have HLn := Lib.hid (recN_len st m.conf set m.hist q |>.trans HHl.out)
   have hgl : gh < wo.heap.size := Kd.R_lt HR.out.hist gh rfl
   clear hpar hpn hq0
   by_cases hb : set.testBit pn = true
   rotate_left
   ·have d2 : (bits BinOp.and IntKind.u32 ((set : Int) / 2 ^ pn) 1 == 0) = true := by rw [bit_at hset, if_neg hb]; rfl
    have hrc : recN st m.conf set m.hist (q + 1) = recN st m.conf set m.hist q := by
     show recH st m.conf set _ q = _
     unfold recH
     rw [if_pos (.inr (by show set.testBit (PAll.rd_T66 st (q : Int)).f1.toNat = false; rw [HPn.out, Int.toNat_natCast]; simpa using hb))]
    have HR2 : Hid (StR wB g v (some ad) B ca cb st tr (wo.alloc (.cells #[.int .i64 (rdS st (q : Int)).f0, .int .i64 (pn : Int), .slice A2 (rdS st (q : Int)).f2.length c2, .slice A3 (rdS st (q : Int)).f3.length c3, .slice A4 (rdS st (q : Int)).f4.length c4] 66)) { m with hist := recN st m.conf set m.hist (q + 1) } (.slice (some ⟨gh, 0, none⟩) st.length ch) ve vi vo) := Lib.hid (by rw [hrc]; exact HAl.out)
    clear hrc hb hk hzb
    go_wp2_with fail
    go_roundg gq
    case measure => omega
    case rel => exact ⟨q + 1, by omega, by go_num, HR2, Lib.hid (HKp.out.trans (Kp.below ((Below.refl _ _).alloc (Nat.le_refl _) _)))⟩
   have d2 : (bits BinOp.and IntKind.u32 ((set : Int) / 2 ^ pn) 1 == 0) = false := by rw [bit_at hset, if_pos hb]; rfl
   have hrc : recN st m.conf set m.hist (q + 1) = if (rdS st (q : Int)).f0 = 5 then (recN st m.conf set m.hist q).set q ((m.conf &&& kidB st (pn : Int) : Nat) : Int) else (recN st m.conf set m.hist q).set q ((bitOr (lvP st (m.conf &&& belP st (pn : Int))) : Nat) : Int) := by
    show recH st m.conf set _ q = _
    unfold recH
    have e : (rdS st (q : Int)).f1 = (pn : Int) := HPn.out
    rw [if_neg (by rintro (h | h); exact hk h; rw [e, Int.toNat_natCast, hb] at h; cases h), e]
   have HRc := Lib.hid hrc
   clear hrc hb
   obtain ⟨⟨z0, _, _, z4, z5, _⟩, _⟩ := HAl.out.cells
   have zp : (wo.alloc (.cells #[.int .i64 (rdS st (q : Int)).f0, .int .i64 (pn : Int), .slice A2 (rdS st (q : Int)).f2.length c2, .slice A3 (rdS st (q : Int)).f3.length c3, .slice A4 (rdS st (q : Int)).f4.length c4] 66)).cell? ⟨wo.heap.size, 1, none⟩ = some (.int .i64 (pn : Int)) := blk_cell hzb 1
   by_cases hk5 : (rdS st (q : Int)).f0 = 5
   ·have d3 : ((PAll.rd_T66 st (q : Int)).f0 == 5) = true := by simp; exact hk5
    have e1 : bits BinOp.and IntKind.u32 (m.conf : Int) (kidB st (pn : Int) : Nat) = ((m.conf &&& kidB st (pn : Int) : Nat) : Int) := u32_and_nat _ _ HCf.out (kidB_lt hn _)
    have hrc := HRc.out
    rw [if_pos hk5] at hrc
    have HRc2 := Lib.hid hrc
    clear hrc hk hk5 hzb hk6 HRc
    go_wp2_with fail
    refine start_ (n := 21) (S := fun w' => w'.cell? ⟨wB.heap.size, 5, none⟩ = some (.slice (some ⟨gh, 0, none⟩) st.length ch) ∧ w'.cell? ⟨wB.heap.size, 4, none⟩ = some (.int .u32 (m.conf : Nat)) ∧ w'.cell? ⟨wB.heap.size, 0, none⟩ = some (.pointer (some ⟨g, 0, none⟩)) ∧ w'.cell? ⟨wo.heap.size, 1, none⟩ = some (.int .i64 (pn : Int))) (ds := [20]) (tf21 0) (by kernel_rfl) rfl (by kernel_rfl) ⟨z5, z4, z0, zp⟩ (fun hHeld => ?_)
    iterate 4
     refine pxt_ (v := ?_) (a' := ?_) rfl rfl (by kernel_rfl) (fun _ _ _ h => h) (Or.inl ⟨by rfl, ?_⟩) ?_ ?_
     rotate_left
     ·intro w'
      go_simp
      first | done | with_reducible rfl
     rotate_left
     ·simp only [Act.put, List.setIfInBounds_toArray, List.set_cons_zero, List.set_cons_succ, i64_w, i32_w]
      first | done | rfl
    refine nxt_ (v := ?_) (a' := ?_) rfl rfl (by kernel_rfl) (fun _ _ _ h => h) (Or.inl ⟨by rfl, ?_⟩) hHeld ?_ ?_
    rotate_left
    ·rintro w' ⟨s0, s1, s2, s3⟩
     go_simp
     first | done | with_reducible rfl
    rotate_left
    ·simp only [Act.put, List.setIfInBounds_toArray, List.set_cons_zero, List.set_cons_succ, i64_w, i32_w]
     first | done | rfl
    iterate 5
     refine pxt_ (v := ?_) (a' := ?_) rfl rfl (by kernel_rfl) (fun _ _ _ h => h) (Or.inl ⟨by rfl, ?_⟩) ?_ ?_
     rotate_left
     ·intro w'
      go_simp
      first | done | with_reducible rfl
     rotate_left
     ·simp only [Act.put, List.setIfInBounds_toArray, List.set_cons_zero, List.set_cons_succ, i64_w, i32_w]
      first | done | rfl
    refine nxt_ (v := ?_) (a' := ?_) rfl rfl (by kernel_rfl) (fun _ _ _ h => h) (Or.inl ⟨by rfl, ?_⟩) hHeld ?_ ?_
    rotate_left
    ·rintro w' ⟨s0, s1, s2, s3⟩
     go_simp
     first | done | with_reducible rfl
    rotate_left
    ·simp only [Act.put, List.setIfInBounds_toArray, List.set_cons_zero, List.set_cons_succ, i64_w, i32_w]
     first | done | rfl
    iterate 3
     refine pxt_ (v := ?_) (a' := ?_) rfl rfl (by kernel_rfl) (fun _ _ _ h => h) (Or.inl ⟨by rfl, ?_⟩) ?_ ?_
     rotate_left
     ·intro w'
      go_simp
      first | done | with_reducible rfl
     rotate_left
     ·simp only [Act.put, List.setIfInBounds_toArray, List.set_cons_zero, List.set_cons_succ, i64_w, i32_w]
      first | done | rfl
    refine nxt_ (v := ?_) (a' := ?_) rfl rfl (by kernel_rfl) (fun _ _ _ h => h) (Or.inl ⟨by rfl, ?_⟩) hHeld ?_ ?_
    rotate_left
    ·rintro w' ⟨s0, s1, s2, s3⟩
     go_simp
     first | done | with_reducible rfl
    rotate_left
    ·simp only [Act.put, List.setIfInBounds_toArray, List.set_cons_zero, List.set_cons_succ, i64_w, i32_w]
     first | done | rfl
    refine pxt_ (v := ?_) (a' := ?_) rfl rfl (by kernel_rfl) (fun _ _ _ h => h) (Or.inl ⟨by rfl, ?_⟩) ?_ ?_
    rotate_left
    ·intro w'
     go_simp
     first | done | with_reducible rfl
    rotate_left
    ·simp only [Act.put, List.setIfInBounds_toArray, List.set_cons_zero, List.set_cons_succ, i64_w, i32_w]
     first | done | rfl
    refine nxt_ (v := ?_) (a' := ?_) rfl rfl (by kernel_rfl) (fun _ _ _ h => h) (Or.inl ⟨by rfl, ?_⟩) hHeld ?_ ?_
    rotate_left
    ·rintro w' ⟨s0, s1, s2, s3⟩
     go_simp
     first | done | with_reducible rfl
    rotate_left
    ·simp only [Act.put, List.setIfInBounds_toArray, List.set_cons_zero, List.set_cons_succ, i64_w, i32_w]
     first | done | rfl
    refine one_ (i := 17) (N := some 50) (tf21 18) rfl rfl (by kernel_rfl) (by decide) (fun K hK => ?_)
    refine goes_ Tryz.func19 (by kernel_rfl) rfl #[.pointer (some ⟨g, 0, none⟩), .int .i64 (pn : Int)] (by rfl) rfl rfl (by first | rfl | (go_simp; done) | (go_simp; exact ⟨rfl, rfl⟩) | (go_simp; rfl)) ?_
    refine (tkids_any (hC.T.below (below_drew HAl.out.low)) hn (pn : Int)).mono ?_
    rintro e6 w6 ⟨rfl, hb6⟩
    have HR6 := Lib.hid ((HAl.out.below (below_drew (Below.refl _ _))).below hb6)
    have HK6 := Lib.hid (((HKp.out.trans (Kp.below ((Below.refl _ wo).alloc (Nat.le_refl _) (.cells #[.int .i64 (rdS st (q : Int)).f0, .int .i64 (pn : Int), .slice A2 (rdS st (q : Int)).f2.length c2, .slice A3 (rdS st (q : Int)).f3.length c3, .slice A4 (rdS st (q : Int)).f4.length c4] 66)))).trans (Kp.below (below_drew (Below.refl _ _)))).trans (Kp.below hb6))
    obtain ⟨⟨x0, _, _, x4, x5, _⟩, _⟩ := HR6.out.cells
    have xp := blk_cell ((hb6.block _ (lt_of_block HZb.out)).trans HZb.out) 1
    refine ⟨_, rfl, hK.out _ _ ⟨x5, x4, x0, xp⟩ (fun hS6 => ?_)⟩
    clear hK K x0 x4 x5 xp
    obtain ⟨u0, u1⟩ := his_at HR6.out.hist q (by rw [HLn.out]; exact hlt)
    clear hb6
    refine pure_ (i := 18) (N := some 51) (v := ?_) (a' := ?_) (tf21 19) rfl rfl (by kernel_rfl) (fun _ _ _ h => h) (Or.inl ⟨by rfl, ?_⟩) ?_ ?_
    rotate_left
    ·intro w'
     go_simp
     first | done | with_reducible rfl | (simp only [e1]; first | done | with_reducible rfl)
    rotate_left
    ·simp only [Act.put, List.setIfInBounds_toArray, List.set_cons_zero, List.set_cons_succ, i64_w, i32_w]
     rfl
    refine pxt_ (v := ?_) (a' := ?_) rfl rfl (by kernel_rfl) (fun _ _ _ h => h) (Or.inl ⟨by rfl, ?_⟩) ?_ ?_
    rotate_left
    ·intro w'
     go_simp
     first | done | with_reducible rfl
    rotate_left
    ·simp only [Act.put, List.setIfInBounds_toArray, List.set_cons_zero, List.set_cons_succ, i64_w, i32_w]
     first | done | rfl
    refine last_ (i := 20) (N := none) (tf21 21) rfl rfl (by kernel_rfl) (by decide) (fun K hK => ?_)
    refine skip_ (w1 := ?_) (by rfl) rfl ?_ ?_
    rotate_left
    ·go_simp
     rfl
    refine hK.out _ _ ?_
    clear hK K
    refine done_ (by kernel_rfl) ?_
    have HR7 := Lib.hid (HR6.out.putHis q ((m.conf &&& kidB st (pn : Int) : Nat) : Int))
    obtain ⟨cs, hcs⟩ := Kd.R_typed HR6.out.hist gh rfl
    have HK7 := Lib.hid (HK6.out.trans (Kp.set hcs (by decide) q (.int .u32 ((m.conf &&& kidB st (pn : Int) : Nat) : Int))))
    clear hcs
    have HR8 : Hid (StR wB g v (some ad) B ca cb st tr (w6.setCell ⟨gh, q, none⟩ (.int .u32 ((m.conf &&& kidB st (pn : Int) : Nat) : Int))) { m with hist := recN st m.conf set m.hist (q + 1) } (.slice (some ⟨gh, 0, none⟩) st.length ch) ve vi vo) := Lib.hid (by rw [HRc2.out]; exact HR7.out)
    clear HR7 u0 u1
    go_wp2_with fail
    go_roundg gq
    case measure => omega
    case rel => exact ⟨q + 1, by omega, by go_num, HR8, HK7⟩
   ·have d3 : ((PAll.rd_T66 st (q : Int)).f0 == 5) = false := by simp; exact hk5
    have hrc := HRc.out
    rw [if_neg hk5] at hrc
    have HRc2 := Lib.hid hrc
    have hcb : m.conf &&& belP st (pn : Int) < 4294967296 := Nat.lt_of_le_of_lt Nat.and_le_left HCf.out
    have e1 : bits BinOp.and IntKind.u32 (m.conf : Int) (belP st (pn : Int) : Nat) = ((m.conf &&& belP st (pn : Int) : Nat) : Int) := u32_and_nat _ _ HCf.out (bel_lt hn _)
    obtain ⟨u0, u1⟩ := his_at HAl.out.hist q (by rw [HLn.out]; exact hlt)
    have HR5 := Lib.hid ((HR.out.putHis q 0).below ((Below.refl _ _).alloc (Nat.le_refl _) (.cells #[.int .i64 (rdS st (q : Int)).f0, .int .i64 (pn : Int), .slice A2 (rdS st (q : Int)).f2.length c2, .slice A3 (rdS st (q : Int)).f3.length c3, .slice A4 (rdS st (q : Int)).f4.length c4] 66)))
    obtain ⟨cs5, hcs5⟩ := Kd.R_typed HR.out.hist gh rfl
    have HK5 := Lib.hid ((HKp.out.trans (Kp.set hcs5 (by decide) q (.int .u32 0))).trans (Kp.below ((Below.refl _ _).alloc (Nat.le_refl _) (.cells #[.int .i64 (rdS st (q : Int)).f0, .int .i64 (pn : Int), .slice A2 (rdS st (q : Int)).f2.length c2, .slice A3 (rdS st (q : Int)).f3.length c3, .slice A4 (rdS st (q : Int)).f4.length c4] 66))))
    clear hcs5
    have hzb5 := blk_new (wo.setCell ⟨gh, q, none⟩ (.int .u32 0)) (.cells #[.int .i64 (rdS st (q : Int)).f0, .int .i64 (pn : Int), .slice A2 (rdS st (q : Int)).f2.length c2, .slice A3 (rdS st (q : Int)).f3.length c3, .slice A4 (rdS st (q : Int)).f4.length c4] 66)
    rw [show (wo.setCell ⟨gh, q, none⟩ (.int .u32 0)).heap.size = wo.heap.size by simp] at hzb5
    have HZb5 := Lib.hid hzb5
    have HZp := Lib.hid (blk_cell hzb5 1)
    clear hrc hk hk5 hzb hk6 HRc z4 z0 zp hzb5
    go_wp2_with fail
    obtain ⟨⟨z0, _, _, z4, _⟩, _⟩ := HR5.out.cells
    have zp := HZp.out
    clear u0 u1 z5
    refine start_ (n := 20) (S := fun w' => w'.cell? ⟨wB.heap.size, 4, none⟩ = some (.int .u32 (m.conf : Nat)) ∧ w'.cell? ⟨wB.heap.size, 0, none⟩ = some (.pointer (some ⟨g, 0, none⟩)) ∧ w'.cell? ⟨wo.heap.size, 1, none⟩ = some (.int .i64 (pn : Int))) (ds := [17]) (tf20 0) (by kernel_rfl) rfl (by kernel_rfl) ⟨z4, z0, zp⟩ (fun hHeld => ?_)
    iterate 3
     refine pxt_ (v := ?_) (a' := ?_) rfl rfl (by kernel_rfl) (fun _ _ _ h => h) (Or.inl ⟨by rfl, ?_⟩) ?_ ?_
     rotate_left
     ·intro w'
      go_simp
      first | done | with_reducible rfl
     rotate_left
     ·simp only [Act.put, List.setIfInBounds_toArray, List.set_cons_zero, List.set_cons_succ, i64_w, i32_w]
      first | done | rfl
    refine nxt_ (v := ?_) (a' := ?_) rfl rfl (by kernel_rfl) (fun _ _ _ h => h) (Or.inl ⟨by rfl, ?_⟩) hHeld ?_ ?_
    rotate_left
    ·rintro w' ⟨s0, s1, s2⟩
     go_simp
     first | done | with_reducible rfl
    rotate_left
    ·simp only [Act.put, List.setIfInBounds_toArray, List.set_cons_zero, List.set_cons_succ, i64_w, i32_w]
     first | done | rfl
    iterate 4
     refine pxt_ (v := ?_) (a' := ?_) rfl rfl (by kernel_rfl) (fun _ _ _ h => h) (Or.inl ⟨by rfl, ?_⟩) ?_ ?_
     rotate_left
     ·intro w'
      go_simp
      first | done | with_reducible rfl
     rotate_left
     ·simp only [Act.put, List.setIfInBounds_toArray, List.set_cons_zero, List.set_cons_succ, i64_w, i32_w]
      first | done | rfl
    refine nxt_ (v := ?_) (a' := ?_) rfl rfl (by kernel_rfl) (fun _ _ _ h => h) (Or.inl ⟨by rfl, ?_⟩) hHeld ?_ ?_
    rotate_left
    ·rintro w' ⟨s0, s1, s2⟩
     go_simp
     first | done | with_reducible rfl
    rotate_left
    ·simp only [Act.put, List.setIfInBounds_toArray, List.set_cons_zero, List.set_cons_succ, i64_w, i32_w]
     first | done | rfl
    iterate 3
     refine pxt_ (v := ?_) (a' := ?_) rfl rfl (by kernel_rfl) (fun _ _ _ h => h) (Or.inl ⟨by rfl, ?_⟩) ?_ ?_
     rotate_left
     ·intro w'
      go_simp
      first | done | with_reducible rfl
     rotate_left
     ·simp only [Act.put, List.setIfInBounds_toArray, List.set_cons_zero, List.set_cons_succ, i64_w, i32_w]
      first | done | rfl
    refine nxt_ (v := ?_) (a' := ?_) rfl rfl (by kernel_rfl) (fun _ _ _ h => h) (Or.inl ⟨by rfl, ?_⟩) hHeld ?_ ?_
    rotate_left
    ·rintro w' ⟨s0, s1, s2⟩
     go_simp
     first | done | with_reducible rfl
    rotate_left
    ·simp only [Act.put, List.setIfInBounds_toArray, List.set_cons_zero, List.set_cons_succ, i64_w, i32_w]
     first | done | rfl
    refine pxt_ (v := ?_) (a' := ?_) rfl rfl (by kernel_rfl) (fun _ _ _ h => h) (Or.inl ⟨by rfl, ?_⟩) ?_ ?_
    rotate_left
    ·intro w'
     go_simp
     first | done | with_reducible rfl
    rotate_left
    ·simp only [Act.put, List.setIfInBounds_toArray, List.set_cons_zero, List.set_cons_succ, i64_w, i32_w]
     first | done | rfl
    refine nxt_ (v := ?_) (a' := ?_) rfl rfl (by kernel_rfl) (fun _ _ _ h => h) (Or.inl ⟨by rfl, ?_⟩) hHeld ?_ ?_
    rotate_left
    ·rintro w' ⟨s0, s1, s2⟩
     go_simp
     first | done | with_reducible rfl
    rotate_left
    ·simp only [Act.put, List.setIfInBounds_toArray, List.set_cons_zero, List.set_cons_succ, i64_w, i32_w]
     first | done | rfl
    refine pure_ (i := 19) (N := some 79) (v := ?_) (a' := ?_) (bm20 557055) rfl rfl (by kernel_rfl) (fun _ _ _ h => h) (Or.inl ⟨by rfl, ?_⟩) ?_ ?_
    rotate_left
    ·intro w'
     go_simp
     with_reducible rfl
    rotate_left
    ·simp only [Act.put, List.setIfInBounds_toArray, List.set_cons_zero, List.set_cons_succ, i64_w, i32_w]
     rfl
    refine one_ (i := 15) (N := some 75) (bm20 589823) rfl rfl (by kernel_rfl) (by decide) (fun K hK => ?_)
    refine goes_ Tryz.func17 (by kernel_rfl) rfl #[.pointer (some ⟨g, 0, none⟩), .int .i64 (pn : Int)] (by rfl) rfl rfl (by first | rfl | (go_simp; done) | (go_simp; exact ⟨rfl, rfl⟩) | (go_simp; rfl)) ?_
    refine (tbel_any (hC.T.below (below_drew HR5.out.low)) (good_ahead hC.good) hn (pn : Int)).mono ?_
    rintro e6 w6 ⟨rfl, hb6⟩
    have HR6 := Lib.hid ((HR5.out.below (below_drew (Below.refl _ _))).below hb6)
    have HK6 := Lib.hid ((HK5.out.trans (Kp.below (below_drew (Below.refl _ _)))).trans (Kp.below hb6))
    obtain ⟨⟨x0, _, _, x4, _⟩, _⟩ := HR6.out.cells
    have xp := blk_cell ((hb6.block _ (lt_of_block HZb5.out)).trans HZb5.out) 1
    refine ⟨_, rfl, hK.out _ _ ⟨x4, x0, xp⟩ (fun hS6 => ?_)⟩
    clear hK K x0 x4 xp
    clear hb6
    refine pure_ (i := 16) (N := some 76) (v := ?_) (a' := ?_) (bm20 655359) rfl rfl (by kernel_rfl) (fun _ _ _ h => h) (Or.inl ⟨by rfl, ?_⟩) ?_ ?_
    rotate_left
    ·intro w'
     go_simp
     first | done | with_reducible rfl | (simp only [e1]; first | done | with_reducible rfl)
    rotate_left
    ·simp only [Act.put, List.setIfInBounds_toArray, List.set_cons_zero, List.set_cons_succ, i64_w, i32_w]
     rfl
    refine last_ (i := 17) (N := some 77) (bm20 786431) rfl rfl (by kernel_rfl) (by decide) (fun K hK => ?_)
    refine goes_ Tryz.func57 (by kernel_rfl) rfl #[.pointer (some ⟨g, 0, none⟩), .int .u32 ((m.conf &&& belP st (pn : Int) : Nat) : Int)] (by rfl) rfl rfl (by first | rfl | (go_simp; done) | (go_simp; exact ⟨rfl, rfl⟩) | (go_simp; rfl)) ?_
    refine (tlv_any (hC.T.below HR6.out.low) hn (m.conf &&& belP st (pn : Int)) hcb).mono ?_
    rintro e7 w7 ⟨uL, rfl, hu, hb7⟩
    obtain ⟨AL, cL, rfl⟩ := Kd.R_slice hu
    obtain ⟨_, _, hCL⟩ := Kd.R_reads' hu
    refine ⟨_, rfl, hK.out _ _ ?_⟩
    clear hK K
    have HCL := Lib.hid hu
    have HR7 := Lib.hid (HR6.out.below hb7)
    have HK7 := Lib.hid (HK6.out.trans (Kp.below hb7))
    clear hb7 hCL hu
    refine pure_ (i := 18) (N := some 78) (v := ?_) (a' := ?_) (tf20 20) rfl rfl (by kernel_rfl) (fun _ _ _ h => h) (Or.inl ⟨by rfl, ?_⟩) ?_ ?_
    rotate_left
    ·intro w'
     go_simp
     with_reducible rfl
    rotate_left
    ·simp only [Act.put, List.setIfInBounds_toArray, List.set_cons_zero, List.set_cons_succ, i64_w, i32_w]
     rfl
    refine done_ (by kernel_rfl) ?_
    have HLs := Lib.hid (fun a (ha : a ∈ lvP st (m.conf &&& belP st (pn : Int))) => lvP_in ha)
    have hl24 : (lvP st (m.conf &&& belP st (pn : Int))).length ≤ st.length := lvN_len _ _ _
    clear hcb e1 z0 z4 zp
    generalize lvP st (m.conf &&& belP st (pn : Int)) = ls at *
    go_wp2_with fail
    go_loopg [79] ls.length (fun g1 j wy => ∃ jn : Nat, jn + g1 = ls.length ∧ j = .int .i64 jn ∧ Hid (StR wB g v (some ad) B ca cb st tr wy { m with hist := (recN st m.conf set m.hist q).set q ((bitOr (ls.take jn) : Nat) : Int) } (.slice (some ⟨gh, 0, none⟩) st.length ch) ve vi vo) ∧ Hid (InnR wy w6.heap.size (.slice AL ls.length cL) ls) ∧ Hid (Kp w wy))
    case atStart => exact ⟨0, by omega, rfl, HR7, HCL, HK7⟩
    case round =>
     clear HR7 HCL HR6 HR5 HZp HZb5 HK7 HK6 HK5
     obtain ⟨jn, hjn, rfl, HR7, HCL, HK7⟩ := hrel
     obtain ⟨wy, rfl⟩ : ∃ wy : World, wy = wr := ⟨_, rfl⟩
     cases gk with
     | zero =>
      obtain rfl : jn = ls.length := by omega
      have HR8 : Hid (StR wB g v (some ad) B ca cb st tr wy { m with hist := recN st m.conf set m.hist (q + 1) } (.slice (some ⟨gh, 0, none⟩) st.length ch) ve vi vo) := Lib.hid (by rw [HRc2.out]; have := HR7.out; rw [List.take_length] at this; exact this)
      have p2 : ((ls.length : Int) < (ls.length : Int)) = False := eq_false (by omega)
      clear HR7 HCL
      go_wp2_with fail
      go_roundg gq
      case measure => omega
      case rel => exact ⟨q + 1, by omega, by go_num, HR8, HK7⟩
     | succ g1 =>
      have hlj : jn < ls.length := by omega
      have p2 : ((jn : Int) < (ls.length : Int)) = True := eq_true (by omega)
      obtain ⟨ad2, rfl, a0⟩ := nums_at (Kd.R_reads' HCL.out).2.2 jn hlj
      obtain ⟨nn, hnn, hnl, _⟩ := HLs.out ls[jn] (List.getElem_mem hlj)
      rw [hnn] at a0
      have hn32 : nn ≤ 32 := by omega
      have HNn : Hid (bitOr (ls.take (jn + 1)) = bitOr (ls.take jn) ||| 2 ^ nn) := Lib.hid (by
       rw [List.take_succ_eq_append_getElem hlj]
       unfold bitOr
       rw [List.foldl_append, List.foldl_cons, List.foldl_nil, hnn, Int.toNat_natCast])
      have HRd := Lib.hid (HR7.out.below (below_drew (Below.refl _ _)))
      have HCd := Lib.hid (Kd.R_drew HCL.out)
      have hacc : bitOr (ls.take jn) < 4294967296 := by
       have key : ∀ l : List Int, (∀ a ∈ l, a ∈ ls) → ∀ x, x < 4294967296 → l.foldl (fun x y => x ||| 2 ^ y.toNat) x < 4294967296 := by
        intro l
        induction l with
        | nil => intro _ x hx; exact hx
        | cons a l ih =>
         intro hl x hx
         refine ih (fun b hb => hl b (List.mem_cons_of_mem _ hb)) _ ?_
         obtain ⟨k, hk, hk2, _⟩ := HLs.out a (hl a List.mem_cons_self)
         show x ||| 2 ^ a.toNat < 4294967296
         rw [hk, Int.toNat_natCast]
         exact (or_at hx (by omega)).2
       exact key _ (fun a ha => List.mem_of_mem_take ha) 0 (by decide)
      have hor := (or_at (q := nn) hacc (by omega)).1
      have hor2 := hor
      rw [Nat.min_eq_left hn32] at hor2
      obtain ⟨u0, u1⟩ := his_at HR7.out.hist q (by rw [List.length_set, HLn.out]; exact hlt)
      simp only [List.getElem_set_self] at u0
      obtain ⟨⟨_, _, _, _, k5, _⟩, _⟩ := HR7.out.cells
      generalize bitOr (ls.take jn) = acc at *
      have e2 := hor2
      clear hnn hacc hor hor2
      go_wp2_with fail
      refine start_ (n := 13) (S := fun w' => w'.cell? ⟨wB.heap.size, 5, none⟩ = some (.slice (some ⟨gh, 0, none⟩) st.length ch) ∧ w'.cell? ⟨gh, q, none⟩ = some (.int .u32 (acc : Nat))) (ds := [12]) (tf13 0) (by kernel_rfl) rfl (by kernel_rfl) ⟨k5, u0⟩ (fun hHeld => ?_)
      iterate 4
       refine pxt_ (v := ?_) (a' := ?_) rfl rfl (by kernel_rfl) (fun _ _ _ h => h) (Or.inl ⟨by rfl, ?_⟩) ?_ ?_
       rotate_left
       ·intro w'
        go_simp
        first | done | with_reducible rfl
       rotate_left
       ·simp only [Act.put, List.setIfInBounds_toArray, List.set_cons_zero, List.set_cons_succ, i64_w, i32_w]
        first | done | rfl
      refine nxt_ (v := ?_) (a' := ?_) rfl rfl (by kernel_rfl) (fun _ _ _ h => h) (Or.inl ⟨by rfl, ?_⟩) hHeld ?_ ?_
      rotate_left
      ·rintro w' ⟨s0, s1⟩
       go_simp
       first | done | with_reducible rfl
      rotate_left
      ·simp only [Act.put, List.setIfInBounds_toArray, List.set_cons_zero, List.set_cons_succ, i64_w, i32_w]
       first | done | rfl
      iterate 2
       refine pxt_ (v := ?_) (a' := ?_) rfl rfl (by kernel_rfl) (fun _ _ _ h => h) (Or.inl ⟨by rfl, ?_⟩) ?_ ?_
       rotate_left
       ·intro w'
        go_simp
        first | done | with_reducible rfl
       rotate_left
       ·simp only [Act.put, List.setIfInBounds_toArray, List.set_cons_zero, List.set_cons_succ, i64_w, i32_w]
        first | done | rfl
      refine nxt_ (v := ?_) (a' := ?_) rfl rfl (by kernel_rfl) (fun _ _ _ h => h) (Or.inl ⟨by rfl, ?_⟩) hHeld ?_ ?_
      rotate_left
      ·rintro w' ⟨s0, s1⟩
       go_simp
       first | done | with_reducible rfl
      rotate_left
      ·simp only [Act.put, List.setIfInBounds_toArray, List.set_cons_zero, List.set_cons_succ, i64_w, i32_w]
       first | done | rfl
      iterate 2
       refine pxt_ (v := ?_) (a' := ?_) rfl rfl (by kernel_rfl) (fun _ _ _ h => h) (Or.inl ⟨by rfl, ?_⟩) ?_ ?_
       rotate_left
       ·intro w'
        go_simp
        first | done | with_reducible rfl
       rotate_left
       ·simp only [Act.put, List.setIfInBounds_toArray, List.set_cons_zero, List.set_cons_succ, i64_w, i32_w]
        first | done | rfl
      refine pure_ (i := 10) (N := some 93) (v := ?_) (a' := ?_) (tf13 11) rfl rfl (by kernel_rfl) (fun _ _ _ h => h) (Or.inl ⟨by rfl, ?_⟩) ?_ ?_
      rotate_left
      ·intro w'
       go_simp
       first | done | with_reducible rfl | (simp only [e2]; first | done | with_reducible rfl)
      rotate_left
      ·simp only [Act.put, List.setIfInBounds_toArray, List.set_cons_zero, List.set_cons_succ, i64_w, i32_w]
       rfl
      refine pxt_ (v := ?_) (a' := ?_) rfl rfl (by kernel_rfl) (fun _ _ _ h => h) (Or.inl ⟨by rfl, ?_⟩) ?_ ?_
      rotate_left
      ·intro w'
       go_simp
       first | done | with_reducible rfl
      rotate_left
      ·simp only [Act.put, List.setIfInBounds_toArray, List.set_cons_zero, List.set_cons_succ, i64_w, i32_w]
       first | done | rfl
      refine last_ (i := 12) (N := none) (tf13 13) rfl rfl (by kernel_rfl) (by decide) (fun K hK => ?_)
      refine skip_ (w1 := ?_) (by rfl) rfl ?_ ?_
      rotate_left
      ·go_simp
       rfl
      refine hK.out _ _ ?_
      clear hK K
      refine done_ (by kernel_rfl) ?_
      have HR9 : Hid (StR wB g v (some ad) B ca cb st tr (wy.drew.setCell ⟨gh, q, none⟩ (.int .u32 ((acc ||| 2 ^ nn : Nat) : Int))) { m with hist := (recN st m.conf set m.hist q).set q ((bitOr (ls.take (jn + 1)) : Nat) : Int) } (.slice (some ⟨gh, 0, none⟩) st.length ch) ve vi vo) := Lib.hid (by rw [HNn.out]; have := HRd.out.putHis q ((acc ||| 2 ^ nn : Nat) : Int); rw [List.set_set] at this; exact this)
      obtain ⟨cs, hcs⟩ := Kd.R_typed HRd.out.hist gh rfl
      have HC9 := Lib.hid (Kd.R_set HCd.out hcs (by decide) q (.int .u32 ((acc ||| 2 ^ nn : Nat) : Int)))
      have HK9 := Lib.hid ((HK7.out.trans (Kp.below (below_drew (Below.refl _ _)))).trans (Kp.set hcs (by decide) q (.int .u32 ((acc ||| 2 ^ nn : Nat) : Int))))
      clear hcs u0 u1 k5 a0 e2
      go_wp2_with fail
      go_roundg g1
      case measure => omega
      case rel => exact ⟨jn + 1, by omega, by go_num, HR9, HC9, HK9⟩
end
end Go.Proofs.YtikilglbhnplaaaGreatDoor
end
section
namespace Go.Proofs.YtikilglbhnplaaaGreatDoor
open Go.RowKit Go.Proofs.YtikilglbhnplaaaGreatDoorW.PrintWords Go.Proofs.YtikilglbhnplaaaGreatDoorW.PrintLast
open PX (T V)
theorem few_l {st : List Sta} {tr : List Tra} (h : fewP st tr = true) : (∀ x ∈ st, x.f3.length ≤ 20 ∧ x.f4.length ≤ 20 ∧ x.f2.length ≤ 20) ∧ ∀ x ∈ tr, x.f5.length ≤ 20 ∧ x.f3.length ≤ 20 := by
 simp only [fewP, Bool.and_eq_true, decide_eq_true_eq, List.all_eq_true] at h
 refine ⟨fun x hx => ?_, fun x hx => ?_⟩
 ·have := h.1.2 x hx
  simp only [fewS, fewAP, Bool.and_eq_true, decide_eq_true_eq] at this
  exact ⟨this.1.1.2, this.1.2.2, this.2⟩
 ·have := h.2 x hx
  simp only [fewT, fewAP, Bool.and_eq_true, decide_eq_true_eq] at this
  exact ⟨this.1.1.2, this.1.2⟩
def Szs (m : Ses) (I O : Nat) : Prop := m.inn.length ≤ I ∧ m.out.length ≤ O ∧ m.env.length ≤ 1000
theorem Szs.acts {m : Ses} {I O : Nat} (h : Szs m I O) (l : List Ac) (hl : l.length ≤ 20) : Szs (actsM m l) (I + 21) (O + 20) := by
 obtain ⟨h1, h2, h3⟩ := h
 obtain ⟨g1, g2, g3⟩ := doA_grows l ⟨m.env, [], []⟩
 simp only [List.length_nil] at g1 g2 g3
 unfold actsM
 refine ⟨?_, ?_, ?_⟩ <;> simp only [List.length_append] <;> omega
theorem lvD_has (st : List Sta) (set : Nat) (hf : ∀ x ∈ st, x.f4.length ≤ 20) : ∀ (q : Nat) (m : Ses) (I O : Nat), q ≤ st.length → Szs m I O → Szs (lvD st set q m) (I + 21 * q) (O + 20 * q) ∧ (lvD st set q m).hist = m.hist ∧ (lvD st set q m).stat = m.stat
 | 0, m, I, O, _, h => ⟨h, rfl, rfl⟩
 | q + 1, m, I, O, hq, h => by
  unfold lvD
  by_cases c : set.testBit q = true
  ·rw [if_pos c]
   have hx : rdS st (q : Int) ∈ st := by rw [show rdS st (q : Int) = st[q] from by simp [rdS, PAll.rd_T66, rdOf, List.getD_eq_getElem?_getD, List.getElem?_eq_getElem (show q < st.length by omega)]]; exact List.getElem_mem _
   obtain ⟨h1, h2, h3⟩ := lvD_has st set hf q { actsM m (rdS st (q : Int)).f4 with conf := (actsM m (rdS st (q : Int)).f4).conf &&& (4294967295 - 2 ^ q) } (I + 21) (O + 20) (by omega) (h.acts _ (hf _ hx))
   refine ⟨?_, h2, h3⟩
   obtain ⟨a, b, c⟩ := h1
   exact ⟨by omega, by omega, c⟩
  ·rw [if_neg c]
   obtain ⟨⟨a, b, c⟩, h2, h3⟩ := lvD_has st set hf q m I O (by omega) h
   exact ⟨⟨by omega, by omega, c⟩, h2, h3⟩
theorem rdS_in {st : List Sta} {q : Nat} (hq : q < st.length) : rdS st (q : Int) ∈ st := by
 rw [show rdS st (q : Int) = st[q] from by simp [rdS, PAll.rd_T66, rdOf, List.getD_eq_getElem?_getD, List.getElem?_eq_getElem hq]]
 exact List.getElem_mem _
section
variable {wB : World} {g : Nat} {v : Int} {A B : Option Addr} {ca cb : Nat} {st : List Sta} {tr : List Tra} {w : World} {m : Ses}
theorem mlv_any (hC : StC wB g v A B ca cb st tr) (h : StM wB g v A B ca cb st tr w m) (hh : m.hist.length = st.length) (set : Nat) (hset : set < 4294967296) (hs : Szs m 400000 400000) :
  Calls Tryz.prog 66 #[StP wB, .int .u32 (set : Nat)] w fun e w' => e = .returned (.tuple #[]) ∧ StM wB g v A B ca cb st tr w' (lvM st set m) ∧ Kp w w' := by
 obtain ⟨⟨_, _, hn1, hn, hn2⟩, _⟩ := chk_none hC.good
 have HFl := Lib.hid (few_l hC.few).1
 have HFa := Lib.hid (few_a hC.few).1
 go_enter Tryz.func66, Tryz.ntmps66
 go_wp2_with fail
 refine (mrec_any hC h hh set hset).mono ?_
 rintro e w1 ⟨rfl, h1, k1⟩
 have HK1 := Lib.hid k1
 clear k1
 have H1 := Lib.hid h1
 have HS1 : Hid (Szs { m with hist := recN st m.conf set m.hist st.length } 400000 400000) := Lib.hid hs
 have HG : Hid (lvD st set st.length { m with hist := recN st m.conf set m.hist st.length } = lvM st set m) := Lib.hid rfl
 generalize ({ m with hist := recN st m.conf set m.hist st.length } : Ses) = m1 at *
 obtain ⟨_, _, _, _, h1⟩ := h1
 obtain ⟨⟨_, y2, _⟩, _⟩ := h1.cells
 clear h1 h hs hh
 go_wp2_with fail
 clear y2
 go_loopw [4] (fun i wr => ∃ (q : Nat) (m2 : Ses), i = .int .i64 ((q : Int) - 1) ∧ q ≤ st.length ∧ Hid (StM wB g v A B ca cb st tr wr m2) ∧ Hid (lvD st set q m2 = lvM st set m) ∧ Hid (Szs m2 (400000 + 21 * (st.length - q)) (400000 + 20 * (st.length - q))) ∧ Hid (Kp w wr)) (fun i _ => (intOf i + 1).toNat)
 case atStart => exact ⟨st.length, m1, rfl, Nat.le_refl _, H1, HG, Lib.hid (by rw [Nat.sub_self]; exact HS1.out), HK1⟩
 case round =>
  clear H1 HG HS1 HK1
  obtain ⟨q, m2, rfl, hq, HM, HE, HS, HKp⟩ := hrel
  obtain ⟨wo, rfl⟩ : ∃ wo : World, wo = wr := ⟨_, rfl⟩
  cases q with
  | zero =>
   have HE2 : Hid (m2 = lvM st set m) := Lib.hid HE.out
   go_wp2_with fail
   go_end0
   exact ⟨rfl, by rw [← HE2.out]; exact HM.out, HKp.out⟩
  | succ q =>
   rw [show (((q + 1 : Nat) : Int) - 1) = (q : Int) by omega]
   have p1 : (0 ≤ (q : Int)) = True := eq_true (by omega)
   have hq32 : q ≤ 32 := by omega
   have HE2 := HE.out
   unfold lvD at HE2
   obtain ⟨vh, ve, vi, vo, hM⟩ := HM.out
   have HR := Lib.hid hM
   clear hM HE
   by_cases hb : set.testBit q = true
   ·have d1 : (bits BinOp.and IntKind.u32 ((set : Int) / 2 ^ q) 1 == 1) = true := by rw [bit_at hset, if_pos hb]; rfl
    rw [if_pos hb] at HE2
    obtain ⟨ad, A2, c2, A3, c3, A4, c4, rfl, q0, q1, q2, q3, q4, l2, g2, l3, g3, l4, g4⟩ := PAll.at_T66 hC.M.cs (q : Int) (by omega) (by omega)
    rw [Int.toNat_natCast] at q0 q1 q2 q3 q4
    have z4' := (HR.out.low.cell (cell_lt q4)).trans q4
    obtain ⟨⟨_, y2, _⟩, _⟩ := HR.out.cells
    have p2 : ((q : Int) < (st.length : Int)) = True := eq_true (by omega)
    have hmem := rdS_in (st := st) (q := q) (by omega)
    have HL4 := Lib.hid (HFl.out _ hmem).2.1
    have HZ4 := Lib.hid (HFa.out _ hmem).2
    have HG4 := Lib.hid g4
    have HLc := Lib.hid l4
    have HX := Lib.hid HE2
    clear q0 q1 q2 q3 q4 l2 g2 l3 g3 l4 g4 hb hmem HE2
    change Hid ((rdS st (q : Int)).f4.length ≤ 20) at HL4
    change Hid ((rdS st (q : Int)).f4.length ≤ c4) at HLc
    change Hid (ActsC wB A4 (rdS st (q : Int)).f4.length (rdS st (q : Int)).f4) at HG4
    change wo.cell? _ = some (.slice A4 (rdS st (q : Int)).f4.length c4) at z4'
    generalize (rdS st (q : Int)).f4 = l at *
    go_wp2_with fail
    refine (macts_any hC HM.out A4 c4 l HG4.out HLc.out (by have := HL4.out; omega) HZ4.out (by have := HS.out.1; omega) (by have := HS.out.2.1; omega) HS.out.2.2).mono ?_
    rintro e w4 ⟨rfl, h4, k4⟩
    have HK4 := Lib.hid ((HKp.out.trans k4).trans (Kp.below (below_drew (Below.refl _ _))))
    clear k4
    have HS4 := Lib.hid (HS.out.acts l HL4.out)
    clear y2 z4' HR
    generalize actsM m2 l = m3 at *
    obtain ⟨vh3, ve3, vi3, vo3, h4⟩ := h4
    obtain ⟨⟨_, _, _, z4, _⟩, z5, _⟩ := h4.cells
    have HR4 := Lib.hid (h4.below (below_drew (Below.refl _ _)))
    have HK5 := Lib.hid (HK4.out.trans (Kp.set HR4.out.blk (by decide) 4 (.int .u32 ((m3.conf &&& (4294967295 - 2 ^ q) : Nat) : Int))))
    have hcf := h4.conf
    have h2q : 2 ^ q < 4294967296 := Nat.lt_of_lt_of_le (Nat.pow_lt_pow_right (by omega) (show q < 32 by omega)) (by decide)
    have e1 : bits BinOp.andNot IntKind.u32 (m3.conf : Int) (IntKind.u32.wrap (2 ^ q)) = ((m3.conf &&& (4294967295 - 2 ^ q) : Nat) : Int) := by
     rw [show IntKind.u32.wrap ((2 : Int) ^ q) = ((2 ^ q : Nat) : Int) by
      have : ((2 : Int) ^ q) = ((2 ^ q : Nat) : Int) := by simp
      rw [this]
      exact Int.emod_eq_of_lt (Int.natCast_nonneg _) (Int.ofNat_lt.mpr h2q)]
     exact u32_andNot_nat _ _ hcf h2q
    have hcf2 : m3.conf &&& (4294967295 - 2 ^ q) < 4294967296 := Nat.lt_of_le_of_lt Nat.and_le_left hcf
    clear h4 h2q
    go_wp2_with fail
    refine start_ (n := 12) (S := fun w' => w'.cell? ⟨wB.heap.size, 4, none⟩ = some (.int .u32 (m3.conf : Nat))) (ds := [11]) (tf12 0) (by kernel_rfl) rfl (by kernel_rfl) z4 (fun hHeld => ?_)
    iterate 4
     refine pxt_ (v := ?_) (a' := ?_) rfl rfl (by kernel_rfl) (fun _ _ _ h => h) (Or.inl ⟨by rfl, ?_⟩) ?_ ?_
     rotate_left
     ·intro w'
      go_simp
      first | done | with_reducible rfl
     rotate_left
     ·simp only [Act.put, List.setIfInBounds_toArray, List.set_cons_zero, List.set_cons_succ, i64_w, i32_w]
      first | done | rfl
    refine nxt_ (v := ?_) (a' := ?_) rfl rfl (by kernel_rfl) (fun _ _ _ h => h) (Or.inl ⟨by rfl, ?_⟩) hHeld ?_ ?_
    rotate_left
    ·rintro w' s0
     go_simp
     first | done | with_reducible rfl
    rotate_left
    ·simp only [Act.put, List.setIfInBounds_toArray, List.set_cons_zero, List.set_cons_succ, i64_w, i32_w]
     first | done | rfl
    iterate 2
     refine pxt_ (v := ?_) (a' := ?_) rfl rfl (by kernel_rfl) (fun _ _ _ h => h) (Or.inl ⟨by rfl, ?_⟩) ?_ ?_
     rotate_left
     ·intro w'
      go_simp
      first | done | with_reducible rfl
     rotate_left
     ·simp only [Act.put, List.setIfInBounds_toArray, List.set_cons_zero, List.set_cons_succ, i64_w, i32_w]
      first | done | rfl
    refine pure_ (i := 7) (N := some 42) (v := ?_) (a' := ?_) (tf12 8) rfl rfl (by kernel_rfl) (fun _ _ _ h => h) (Or.inl ⟨by rfl, ?_⟩) ?_ ?_
    rotate_left
    ·intro w'
     go_simp
     first | done | with_reducible rfl | (simp only [e1]; first | done | with_reducible rfl)
    rotate_left
    ·simp only [Act.put, List.setIfInBounds_toArray, List.set_cons_zero, List.set_cons_succ, i64_w, i32_w]
     rfl
    iterate 3
     refine pxt_ (v := ?_) (a' := ?_) rfl rfl (by kernel_rfl) (fun _ _ _ h => h) (Or.inl ⟨by rfl, ?_⟩) ?_ ?_
     rotate_left
     ·intro w'
      go_simp
      first | done | with_reducible rfl
     rotate_left
     ·simp only [Act.put, List.setIfInBounds_toArray, List.set_cons_zero, List.set_cons_succ, i64_w, i32_w]
      first | done | rfl
    refine last_ (i := 11) (N := none) (tf12 12) rfl rfl (by kernel_rfl) (by decide) (fun K hK => ?_)
    refine skip_ (w1 := ?_) (by rfl) rfl ?_ ?_
    rotate_left
    ·go_simp
     rfl
    refine hK.out _ _ ?_
    clear hK K
    refine done_ (by kernel_rfl) ?_
    have HM5 : Hid (StM wB g v (some ad) B ca cb st tr (w4.drew.setCell ⟨wB.heap.size, 4, none⟩ (.int .u32 ((m3.conf &&& (4294967295 - 2 ^ q) : Nat) : Int))) { m3 with conf := m3.conf &&& (4294967295 - 2 ^ q) }) := Lib.hid ⟨_, _, _, _, HR4.out.putConf _ hcf2⟩
    have HS5 : Hid (Szs { m3 with conf := m3.conf &&& (4294967295 - 2 ^ q) } (400000 + 21 * (st.length - q)) (400000 + 20 * (st.length - q))) := Lib.hid ⟨by have := HS4.out.1; show m3.inn.length ≤ _; omega, by have := HS4.out.2.1; show m3.out.length ≤ _; omega, HS4.out.2.2⟩
    clear z4 z5 e1 hcf hcf2
    go_wp2_with fail
    go_roundw
    case rel => exact ⟨q, _, rfl, by omega, HM5, HX, HS5, HK5⟩
    case measure => first | (simp [intOf]; done) | (simp [intOf]; omega)
   ·have d1 : (bits BinOp.and IntKind.u32 ((set : Int) / 2 ^ q) 1 == 1) = false := by rw [bit_at hset, if_neg hb]; rfl
    rw [if_neg hb] at HE2
    have HX := Lib.hid HE2
    have HS5 : Hid (Szs m2 (400000 + 21 * (st.length - q)) (400000 + 20 * (st.length - q))) := Lib.hid ⟨by have := HS.out.1; omega, by have := HS.out.2.1; omega, HS.out.2.2⟩
    clear HE2 hb
    go_wp2_with fail
    go_roundw
    case rel => exact ⟨q, _, rfl, by omega, HM, HX, HS5, HKp⟩
    case measure => first | (simp [intOf]; done) | (simp [intOf]; omega)
end
end Go.Proofs.YtikilglbhnplaaaGreatDoor
end
section
namespace Go.Proofs.YtikilglbhnplaaaGreatDoor
open Go.RowKit Go.Proofs.YtikilglbhnplaaaGreatDoorW.PrintWords Go.Proofs.YtikilglbhnplaaaGreatDoorW.PrintLast
open PX (T V)
theorem kid_fact {st : List Sta} (ha : Ahead st) {s k : Int} (h : k ∈ listP (kidB st s)) : 0 ≤ k ∧ k < st.length ∧ s < k := by
 obtain ⟨h1, h2, h3⟩ := listP_mem h
 unfold kidB at h3
 rw [setN_bit] at h3
 simp only [Bool.and_eq_true, decide_eq_true_eq] at h3
 obtain ⟨h4, _, _, h5⟩ := h3
 rw [Int.toNat_of_nonneg h1] at h5
 have := (ahead_at ha (s := k) ⟨h1, by omega⟩).1
 omega
section
variable {wB : World} {g : Nat} {v : Int} {A B : Option Addr} {ca cb : Nat} {st : List Sta} {tr : List Tra} {m : Ses}
theorem mdone_any (hC : StC wB g v A B ca cb st tr) : ∀ (f : Nat) (s : Int) (w : World), StM wB g v A B ca cb st tr w m → 0 ≤ s → s < st.length → (st.length : Int) < s + f →
  Calls Tryz.prog 114 #[StP wB, .int .i64 s] w fun e w' => e = .returned (.bool (doneF st m.conf f s)) ∧ Below w.heap.size w w' := by
 intro f
 induction f with
 | zero => intro s w h h0 h1 h2; omega
 | succ f ih =>
  intro s w h h0 h1 h2
  obtain ⟨⟨_, _, hn1, hn, hn2⟩, _⟩ := chk_none hC.good
  have HAh := Lib.hid (good_ahead hC.good)
  obtain ⟨vh, ve, vi, vo, h⟩ := h
  have HR := Lib.hid h
  have HI := Lib.hid ih
  have HD : Hid (doneF st m.conf (f + 1) s = if (rdS st s).f0 = 2 then (listP (kidB st s &&& m.conf)).any (fun k => kindP st k == 4) else if (rdS st s).f0 = 3 then (listP (kidB st s)).all (doneF st m.conf f) else false) := Lib.hid rfl
  generalize doneF st m.conf (f + 1) s = G at HD ⊢
  obtain ⟨⟨y0, _⟩, _⟩ := h.cells
  clear h ih
  go_enter Tryz.func114, Tryz.ntmps114
  go_wp2_with fail
  refine (tkids_any (hC.T.below HR.out.low) hn s).mono ?_
  rintro e w1 ⟨rfl, hb1⟩
  have HR1 := Lib.hid (HR.out.below hb1)
  have HB1 := Lib.hid hb1
  obtain ⟨⟨z0, z2, _, z4, _⟩, _⟩ := HR1.out.cells
  obtain ⟨ad, A2, c2, A3, c3, A4, c4, rfl, q0, _⟩ := PAll.at_T66 (Kd.C_below hC.M.cs HR1.out.low) s h0 h1
  have hkb : kidB st s < 4294967296 := kidB_lt hn s
  have hcf := HR1.out.conf
  have p0 : (0 ≤ s) = True := eq_true h0
  have p1 : (s < (st.length : Int)) = True := eq_true h1
  have HKf := Lib.hid (fun k (hk : k ∈ listP (kidB st s)) => kid_fact HAh.out hk)
  have HH := Lib.hid (And.intro h0 (And.intro h1 h2))
  clear hb1 y0
  by_cases k2 : (rdS st s).f0 = 2
  ·have d1 : ((PAll.rd_T66 st s).f0 == 2) = true := by simp; exact k2
   have hd := HD.out
   rw [if_pos k2] at hd
   have HDD := Lib.hid hd
   have e1 : bits BinOp.and IntKind.u32 ((kidB st s : Nat) : Int) (m.conf : Int) = ((kidB st s &&& m.conf : Nat) : Int) := u32_and_nat _ _ hkb hcf
   have hx0 : kidB st s &&& m.conf < 4294967296 := Nat.lt_of_le_of_lt Nat.and_le_left hkb
   generalize kidB st s &&& m.conf = x0 at *
   clear hd k2 HD h0 h1 h2 hcf HKf
   go_wp2_with (simp only [e1])
   clear e1 z0 z2 z4 q0 d1
   go_loopw [6] (fun x wr => ∃ y : Nat, x = .int .u32 (y : Int) ∧ y < 4294967296 ∧ Hid (G = (listP y).any (fun k => kindP st k == 4)) ∧ Hid (StR wB g v (some ad) B ca cb st tr wr m vh ve vi vo) ∧ Hid (Below w1.heap.size w1 wr)) (fun x _ => (intOf x).toNat)
   case atStart => exact ⟨x0, rfl, hx0, HDD, HR1, Lib.hid (Below.refl _ _)⟩
   case round =>
    clear HDD hx0
    obtain ⟨y, rfl, hy, HE, HR2, HB2⟩ := hrel
    by_cases c : y = 0
    ·subst c
     have HG : Hid (G = false) := Lib.hid (by rw [HE.out, listP_zero]; rfl)
     go_wp2_with fail
     go_ret
     exact ⟨by rw [HG.out]; rfl, below_then HB1.out HB1.out.size HB2.out⟩
    ·have d1 : ((y : Int) != 0) = true := by rw [bne_iff_ne]; omega
     have d1' : ((y : Int) == 0) = false := by rw [beq_eq_false_iff_ne]; omega
     have HLt := Lib.hid (listP_step c hy).2
     have HE2 : Hid (G = ((kindP st ((Lib.ctz 32 y : Nat) : Int) == 4) || (listP (y &&& (y - 1))).any (fun k => kindP st k == 4))) := Lib.hid (by rw [HE.out, (listP_step c hy).1, List.any_cons])
     have e1 : bits BinOp.and IntKind.u32 (y : Int) (((y : Int) - 1) % 4294967296) = ((y &&& (y - 1) : Nat) : Int) := by
      rw [show ((y : Int) - 1) % 4294967296 = ((y - 1 : Nat) : Int) by omega, u32_and_nat _ _ hy (by omega)]
     have HC := Lib.hid c
     obtain ⟨⟨z0, _⟩, _⟩ := HR2.out.cells
     clear c HE
     go_wp2_with fail
     refine start_ (n := 8) (S := fun w' => w'.cell? ⟨wB.heap.size, 0, none⟩ = some (.pointer (some ⟨g, 0, none⟩))) (ds := [6]) (tf8 0) (by kernel_rfl) rfl (by kernel_rfl) z0 (fun hHeld => ?_)
     iterate 3
      refine pxt_ (v := ?_) (a' := ?_) rfl rfl (by kernel_rfl) (fun _ _ _ h => h) (Or.inl ⟨by rfl, ?_⟩) ?_ ?_
      rotate_left
      ·intro w'
       go_simp
       first | done | with_reducible rfl
      rotate_left
      ·simp only [Act.put, List.setIfInBounds_toArray, List.set_cons_zero, List.set_cons_succ, i64_w, i32_w]
       first | done | rfl
     refine nxt_ (v := ?_) (a' := ?_) rfl rfl (by kernel_rfl) (fun _ _ _ h => h) (Or.inl ⟨by rfl, ?_⟩) hHeld ?_ ?_
     rotate_left
     ·rintro w' s0
      go_simp
      first | done | with_reducible rfl
     rotate_left
     ·simp only [Act.put, List.setIfInBounds_toArray, List.set_cons_zero, List.set_cons_succ, i64_w, i32_w]
      first | done | rfl
     refine pxt_ (v := ?_) (a' := ?_) rfl rfl (by kernel_rfl) (fun _ _ _ h => h) (Or.inl ⟨by rfl, ?_⟩) ?_ ?_
     rotate_left
     ·intro w'
      go_simp
      first | done | with_reducible rfl
     rotate_left
     ·simp only [Act.put, List.setIfInBounds_toArray, List.set_cons_zero, List.set_cons_succ, i64_w, i32_w]
      first | done | rfl
     refine one_ (i := 5) (N := some 43) (tf8 6) rfl rfl (by kernel_rfl) (by decide) (fun K hK => ?_)
     refine goes_ Tryz.func97 (by kernel_rfl) rfl #[.int .u32 (y : Int)] (by rfl) rfl rfl (by first | rfl | (go_simp; done) | (go_simp; exact ⟨rfl, rfl⟩) | (go_simp; rfl)) ?_
     refine (tz_any y HC.out hy _ (hC.Z.below (below_drew HR2.out.low))).mono ?_
     rintro e6 w6 ⟨rfl, rfl⟩
     refine ⟨_, rfl, hK.out _ _ (by assumption) (fun hS6 => ?_)⟩
     clear hK K
     refine last_ (i := 6) (N := some 44) (tf8 7) rfl rfl (by kernel_rfl) (by decide) (fun K hK => ?_)
     refine goes_ Tryz.func39 (by kernel_rfl) rfl #[.pointer (some ⟨g, 0, none⟩), .int .i64 ((Lib.ctz 32 y : Nat) : Int)] (by rfl) rfl rfl (by first | rfl | (go_simp; done) | (go_simp; exact ⟨rfl, rfl⟩) | (go_simp; rfl)) ?_
     refine (tkind_any (hC.T.below (below_drew HR2.out.low)) ((Lib.ctz 32 y : Nat) : Int)).mono ?_
     rintro e7 w7 ⟨rfl, hb7⟩
     refine ⟨_, rfl, hK.out _ _ ?_⟩
     clear hK K
     have HR3 := Lib.hid ((HR2.out.below (below_drew (Below.refl _ _))).below hb7)
     have HB3 := Lib.hid ((below_then HB2.out HB2.out.size (below_drew (Below.refl _ _))).trans (hb7.mono HB2.out.size))
     clear hb7
     refine pxt_ (v := ?_) (a' := ?_) rfl rfl (by kernel_rfl) (fun _ _ _ h => h) (Or.inl ⟨by rfl, ?_⟩) ?_ ?_
     rotate_left
     ·intro w'
      go_simp
      first | done | with_reducible rfl
     rotate_left
     ·simp only [Act.put, List.setIfInBounds_toArray, List.set_cons_zero, List.set_cons_succ, i64_w, i32_w]
      first | done | rfl
     refine done_ (by kernel_rfl) ?_
     clear z0
     by_cases ck : kindP st ((Lib.ctz 32 y : Nat) : Int) = 4
     ·have d2 : (kindP st ((Lib.ctz 32 y : Nat) : Int) == 4) = true := by rw [ck]; rfl
      have HG : Hid (G = true) := Lib.hid (by rw [HE2.out, d2]; rfl)
      clear ck
      go_wp2_with fail
      go_ret
      exact ⟨by rw [HG.out]; rfl, below_then HB1.out HB1.out.size HB3.out⟩
     ·have d2 : (kindP st ((Lib.ctz 32 y : Nat) : Int) == 4) = false := by rw [beq_eq_false_iff_ne]; exact ck
      have HE3 : Hid (G = (listP (y &&& (y - 1))).any (fun k => kindP st k == 4)) := Lib.hid (by rw [HE2.out, d2]; rfl)
      clear ck HE2
      go_wp2_with (simp only [e1])
      go_roundw
      case rel => exact ⟨y &&& (y - 1), rfl, by have := HLt.out; omega, HE3, HR3, HB3⟩
      case measure => have := HLt.out; simp [intOf]; omega
  ·have d1 : ((PAll.rd_T66 st s).f0 == 2) = false := by simp; exact k2
   by_cases k3 : (rdS st s).f0 = 3
   ·have d2 : ((PAll.rd_T66 st s).f0 == 3) = true := by simp; exact k3
    have hd := HD.out
    rw [if_neg k2, if_pos k3] at hd
    have HDD := Lib.hid hd
    generalize kidB st s = x0 at *
    clear hd k2 k3 HD h0 h1 h2 hcf
    go_wp2_with fail
    clear z0 z2 z4 q0 d1 d2
    go_loopw [7] (fun x wr => ∃ y : Nat, x = .int .u32 (y : Int) ∧ y < 4294967296 ∧ Hid (G = (listP y).all (doneF st m.conf f)) ∧ Hid (∀ k ∈ listP y, k ∈ listP x0) ∧ Hid (StR wB g v (some ad) B ca cb st tr wr m vh ve vi vo) ∧ Hid (Below w1.heap.size w1 wr)) (fun x _ => (intOf x).toNat)
    case atStart => exact ⟨x0, rfl, hkb, HDD, Lib.hid (fun _ h => h), HR1, Lib.hid (Below.refl _ _)⟩
    case round =>
     clear HDD hkb
     obtain ⟨y, rfl, hy, HE, HIn, HR2, HB2⟩ := hrel
     by_cases c : y = 0
     ·subst c
      have HG : Hid (G = true) := Lib.hid (by rw [HE.out, listP_zero]; rfl)
      go_wp2_with fail
      go_ret
      exact ⟨by rw [HG.out]; rfl, below_then HB1.out HB1.out.size HB2.out⟩
     ·have d1 : ((y : Int) != 0) = true := by rw [bne_iff_ne]; omega
      have d1' : ((y : Int) == 0) = false := by rw [beq_eq_false_iff_ne]; omega
      have HLt := Lib.hid (listP_step c hy).2
      have hl1 := (listP_step c hy).1
      have HE2 : Hid (G = (doneF st m.conf f ((Lib.ctz 32 y : Nat) : Int) && (listP (y &&& (y - 1))).all (doneF st m.conf f))) := Lib.hid (by rw [HE.out, hl1, List.all_cons])
      have HIn2 : Hid (∀ k ∈ listP (y &&& (y - 1)), k ∈ listP x0) := Lib.hid (fun k hk => HIn.out k (by rw [hl1]; exact List.mem_cons_of_mem _ hk))
      obtain ⟨j1, j2, j3⟩ := HKf.out _ (HIn.out ((Lib.ctz 32 y : Nat) : Int) (by rw [hl1]; exact List.mem_cons_self))
      have e1 : bits BinOp.and IntKind.u32 (y : Int) (((y : Int) - 1) % 4294967296) = ((y &&& (y - 1) : Nat) : Int) := by
       rw [show ((y : Int) - 1) % 4294967296 = ((y - 1 : Nat) : Int) by omega, u32_and_nat _ _ hy (by omega)]
      have HC := Lib.hid c
      have HJ := Lib.hid (And.intro j1 (And.intro j2 j3))
      clear c HE hl1 j1 j2 j3
      go_wp2_with fail
      refine (tz_any y HC.out hy _ (hC.Z.below HR2.out.low)).mono ?_
      rintro e6 w6 ⟨rfl, rfl⟩
      go_wp2_with fail
      refine (HI.out _ _ ⟨_, _, _, _, HR2.out⟩ HJ.out.1 HJ.out.2.1 (by have := HH.out.2.2; have := HJ.out.2.2; omega)).mono ?_
      rintro e7 w7 ⟨rfl, hb7⟩
      have HR3 := Lib.hid (HR2.out.below hb7)
      have HB3 := Lib.hid (below_then HB2.out HB2.out.size hb7)
      clear hb7
      cases hdn : doneF st m.conf f ((Lib.ctz 32 y : Nat) : Int) with
      | false =>
       have HG : Hid (G = false) := Lib.hid (by rw [HE2.out, hdn]; rfl)
       clear hdn
       go_wp2_with fail
       go_ret
       exact ⟨by rw [HG.out]; rfl, below_then HB1.out HB1.out.size HB3.out⟩
      | true =>
       have HE3 : Hid (G = (listP (y &&& (y - 1))).all (doneF st m.conf f)) := Lib.hid (by rw [HE2.out, hdn]; rfl)
       clear hdn HE2
       go_wp2_with (simp only [e1])
       go_roundw
       case rel => exact ⟨y &&& (y - 1), rfl, by have := HLt.out; omega, HE3, HIn2, HR3, HB3⟩
       case measure => have := HLt.out; simp [intOf]; omega
   ·have d2 : ((PAll.rd_T66 st s).f0 == 3) = false := by simp; exact k3
    have hd := HD.out
    rw [if_neg k2, if_neg k3] at hd
    have HG := Lib.hid hd
    clear hd k2 k3 HD
    go_wp2_with fail
    go_ret
    exact ⟨by rw [HG.out]; rfl, HB1.out⟩
end
end Go.Proofs.YtikilglbhnplaaaGreatDoor
end
