/- Texts of this claim, merged (Gat, Del, Sif, Eadd, Rreal, ExprArg, Actup, Choup, KeptLaw, Laid5). -/
import Derived.WalkMore
import Derived.Lib.SliceRun
import Derived.OpenShut
import Derived.Test.YtcjlpkegkehghaaGreatDoorRows
import Derived.LaidSub
import Derived.LaidHandle
import Derived.LaidLaws
import Derived.Lib.LaidU8
import Derived.Deep.DeepLaidRun
import Derived.Test.YtcjlpkegkehghaaGreatDoorZChooseKept16
import Derived.Test.YtcjlpkegkehghaaGreatDoorZChooseKept10
import Derived.Test.YtcjlpkegkehghaaGreatDoorZChooseKept11
import Derived.Test.YtcjlpkegkehghaaGreatDoorZChooseKept15
import Derived.Test.YtcjlpkegkehghaaGreatDoorZChooseKept12
set_option linter.unusedVariables false
set_option linter.unusedSimpArgs false
set_option maxRecDepth 100000
set_option maxHeartbeats 64000000
section
namespace Go.Proofs.YtcjlpkegkehghaaGreatDoor
open Go.RowKit Go.Proofs.YtcjlpkegkehghaaGreatDoorW.PrintWords
open PX (T V)
theorem addI_len (out : List Int) (i : Int) : (addI out i).length ≤ out.length + 1 := by
 unfold addI; split
 ·omega
 ·simp
theorem up_len24 {st : List Sta} (ha : Ahead st) (hl : st.length ≤ 24) (s : Int) : (upP st s).length ≤ 24 := by
 by_cases c : thS st s
 ·have := upF_len st (s.toNat + 1) s
  have := c.1
  have := c.2
  unfold upP; omega
 ·rw [upP_eq ha, if_neg (fun h => c h.1)]; simp
theorem inn_lit (w : World) (a : Int) : InnR (w.alloc (.cells #[.int .i64 a] 3)) w.heap.size (.slice (some ⟨w.heap.size, 0, none⟩) 1 1) [a] :=
 Kd.R_of_own (enc := Value.int .i64) (xs := [a]) (World.ownsRow_lit (base := w.heap.size) (e := 3) (size := 1) w #[.int .i64 a] 1 (Nat.le_refl _) (by decide) rfl) (fun _ _ => trivial)
section
variable {g : Nat} {v : Int} {st : List Sta} {tr : List Tra} {w : World}
theorem gather_any (h : TrM w g v st tr) (good : chkP v st tr = .none) (hF : fewP st tr = true) (hw : Laid w) (set : Nat) (hset : set < 4294967296) (E : Option Addr) (ecap : Nat) (env : List Int) (hE : NumsC w E env.length env) (ev : Int) :
  Calls Tryz.prog 18 #[.pointer (some ⟨g, 0, none⟩), .int .u32 (set : Nat), .slice E env.length ecap, .int .i64 ev] w fun e w' => ∃ u, e = .returned (.tuple #[u, .int .i64 ((gaP st tr set env ev).2 : Nat)]) ∧ InnR w' w.heap.size u (gaP st tr set env ev).1 ∧ Below w.heap.size w w' := by
 have H := Lib.hid h
 have HE := Lib.hid hE
 have HW := Lib.hid hw
 have HA := Lib.hid (good_ahead good)
 have HFz := Lib.hid (few_z hF)
 have HLl := Lib.hid (lvN_len st set st.length)
 obtain ⟨⟨_, _, hn1, hn, hn2⟩, _⟩ := chk_none good
 obtain ⟨hS, hTr⟩ := few_s hF
 generalize hG : gaP st tr set env ev = G
 have HG : Hid (gaF st tr env ev (lvP st set) [] 0 = G) := Lib.hid hG
 clear h good hF hE hw hG
 go_enter Tryz.func18, Tryz.ntmps18
 go_wp2_with fail
 go_step3
 go_wp2_with fail
 refine (tchart_any H.out (by omega) (by omega) (by omega) hS hTr).mono ?_
 rintro e w1 ⟨gS, ca, B, cb, rfl, hM, hb1, _, _, _⟩
 generalize (some ⟨gS, 0, none⟩ : Option Addr) = A at hM ⊢
 have hal : Below w1.heap.size w1 (w1.alloc (.cells #[.int .i64 v, .slice A st.length ca, .slice B tr.length cb] 25)) := (Below.refl _ w1).alloc (Nat.le_refl _) _
 have hkc := blk_new w1 (.cells #[.int .i64 v, .slice A st.length ca, .slice B tr.length cb] 25)
 have HB2 := Lib.hid (below_then hb1 hb1.size hal)
 have HM := Lib.hid (hM.below hal)
 have HKC := Lib.hid hkc
 clear hM hb1 hkc hal hS hTr
 go_wp2_with fail
 go_step3
 go_wp2_with fail
 generalize w1.alloc (.cells #[.int .i64 v, .slice A st.length ca, .slice B tr.length cb] 25) = w2 at HB2 HM HKC ⊢
 refine (tlv_any (H.out.below HB2.out) hn set hset).mono ?_
 rintro e w3 ⟨uL, rfl, hu, hb3⟩
 obtain ⟨AL, cL, rfl⟩ := Kd.R_slice hu
 obtain ⟨_, _, hCL⟩ := Kd.R_reads' hu
 have HB3 := Lib.hid (below_then HB2.out HB2.out.size hb3)
 have HM3 := Lib.hid (HM.out.below hb3)
 have HKC3 := Lib.hid ((hb3.block _ (lt_of_block HKC.out)).trans HKC.out)
 have HCL := Lib.hid hCL
 clear hu hCL hb3 HM HKC HB2
 have hlvl : (lvP st set).length ≤ 24 := by have := HLl.out; unfold lvP; omega
 generalize lvP st set = lv at *
 go_wp2_with fail
 go_loopg [11, 12, 29] lv.length (fun gh o n i wr => ∃ (q m : Nat) (out : List Int), q + gh = lv.length ∧ i = .int .i64 q ∧ n = .int .i64 (m : Nat) ∧ m ≤ 1000 * q ∧ out.length ≤ q ∧ Hid (InnR wr w3.heap.size o out) ∧ Hid (Below w3.heap.size w3 wr) ∧ Hid (gaF st tr env ev (lv.drop q) out m = G))
 case atStart => exact ⟨0, 0, [], by omega, rfl, rfl, by omega, by simp, Lib.hid (Kd.R_nil _ _ _ _ _), Lib.hid (Below.refl _ _), Lib.hid (by rw [List.drop_zero]; exact HG.out)⟩
 case round =>
  clear HG
  obtain ⟨q, m, out, hqg, rfl, rfl, hm, hol, HO, HB, HI⟩ := hrel
  obtain ⟨AO, cO, rfl⟩ := Kd.R_slice HO.out
  have HBw := Lib.hid (below_then HB3.out HB3.out.size HB.out)
  cases gk with
  | zero =>
   obtain rfl : q = lv.length := by omega
   have HG : Hid ((out, m) = G) := Lib.hid (by rw [← HI.out, List.drop_length]; rfl)
   have p1 : ((lv.length : Int) < (lv.length : Int)) = False := eq_false (by omega)
   go_wp2_with fail
   rw [Exit.noGoto_ret]
   go_ret2
   exact ⟨_, by rw [← HG.out]; rfl, by rw [← HG.out]; exact Kd.R_lower HO.out HB3.out.size, HBw.out⟩
  | succ gh =>
   obtain ⟨wo, rfl⟩ : ∃ wo : World, wo = wr := ⟨_, rfl⟩
   have hlt : q < lv.length := by omega
   obtain ⟨ad, rfl, a0⟩ := nums_at (Kd.C_below HCL.out HB.out) q hlt
   have hds : lv.drop q = lv[q] :: lv.drop (q + 1) := List.drop_eq_getElem_cons hlt
   have HI2 := HI.out
   rw [hds] at HI2
   simp only [gaF] at HI2
   have p1 : ((q : Int) < (lv.length : Int)) = True := eq_true (by omega)
   clear hds HI
   generalize lv[q] = a at *
   have HI := Lib.hid HI2
   have hup := up_len24 HA.out hn a
   have HL1 := Lib.hid (inn_lit wo a)
   have hal : Below wo.heap.size wo (wo.alloc (.cells #[.int .i64 a] 3)) := (Below.refl _ wo).alloc (Nat.le_refl _) _
   have HAl := Lib.hid hal
   clear HI2 hal
   go_wp2_with fail
   generalize wo.alloc (.cells #[.int .i64 a] 3) = w4 at HL1 HAl ⊢
   refine (tup_any (H.out.below (below_then HBw.out HBw.out.size HAl.out)) HA.out (by omega) a).mono ?_
   rintro e w5 ⟨uU, rfl, hu, hb5⟩
   obtain ⟨AU, cU, rfl⟩ := Kd.R_slice hu
   obtain ⟨_, _, hCU⟩ := Kd.R_reads' hu
   have HCU := Lib.hid hCU
   have HL5 := Lib.hid (Kd.R_below HL1.out hb5)
   have HB5 := Lib.hid (below_then HAl.out HAl.out.size hb5)
   have hs5 := HB5.out.size
   have hl5 : [a].length + (upP st a).length < 1000000 := by simp; omega
   clear hu hCU hb5 HL1 HAl a0
   go_wp2_with (at_builtin; refine inn_app_row rfl (.tmp 34) (.tmp 37) rfl wo.heap.size _ [a] (upP st a) AU (upP st a).length cU rfl rfl rfl HL5.out HCU.out hs5 hl5 ?_)
   intro v6 w6 h6 hb6 hg6
   obtain ⟨way, hway⟩ : ∃ way : List Int, way = a :: upP st a := ⟨_, rfl⟩
   rw [← hway] at h6
   obtain ⟨AW, cW, rfl⟩ := Kd.R_slice h6
   obtain ⟨_, _, hCW⟩ := Kd.R_reads' h6
   have HCW : Hid (NumsC w6 AW way.length way) := Lib.hid hCW
   have HB6 := Lib.hid (HB5.out.trans hb6)
   have hwl : way.length ≤ 25 := by rw [hway]; simp; omega
   have HI6 : Hid (gaF st tr env ev (lv.drop (q + 1)) (addI out (scS tr env ev way m).1) (scS tr env ev way m).2 = G) := Lib.hid (by rw [hway]; exact HI.out)
   clear h6 hb6 hg6 hCW HL5 HB5 HCU HI hl5 hway
   go_wp2_with fail
   go_loopg [11, 12, 40] way.length (fun g1 o n j wy => ∃ (k m1 : Nat), k + g1 = way.length ∧ j = .int .i64 k ∧ n = .int .i64 (m1 : Nat) ∧ o = .slice AO out.length cO ∧ m1 ≤ 1000 * q + 40 * k ∧ Hid (Below w6.heap.size w6 wy) ∧ Hid (scS tr env ev (way.drop k) m1 = scS tr env ev way m))
   case atStart => exact ⟨0, m, by omega, rfl, rfl, rfl, by omega, Lib.hid (Below.refl _ _), Lib.hid (by rw [List.drop_zero])⟩
   case round =>
    obtain ⟨k, m1, hkg, rfl, rfl, rfl, hm1, HBy, HSy⟩ := hrel
    obtain ⟨wy, rfl⟩ : ∃ wy : World, wy = wr := ⟨_, rfl⟩
    have HRy := Lib.hid (below_then HB6.out HB6.out.size HBy.out)
    cases gk with
    | zero =>
     obtain rfl : k = way.length := by omega
     have hS : scS tr env ev way m = (-1, m1) := by rw [← HSy.out, List.drop_length]; rfl
     have HI2 := HI6.out
     rw [hS] at HI2
     have HI3 : Hid (gaF st tr env ev (lv.drop (q + 1)) out m1 = G) := Lib.hid HI2
     have HO2 := Lib.hid (Kd.R_below HO.out HRy.out)
     have HB7 := Lib.hid (below_then HB.out HB.out.size HRy.out)
     have p2 : ((way.length : Int) < (way.length : Int)) = False := eq_false (by omega)
     clear hS HI2 HI6
     go_wp2_with fail
     go_roundg gh
     case measure => omega
     case rel => exact ⟨q + 1, m1, out, by omega, by go_num, rfl, by omega, by omega, HO2, HB7, HI3⟩
    | succ g1 =>
     have hlk : k < way.length := by omega
     obtain ⟨ad2, rfl, a2⟩ := nums_at (Kd.C_below HCW.out HBy.out) k hlk
     have hdk : way.drop k = way[k] :: way.drop (k + 1) := List.drop_eq_getElem_cons hlk
     have HS2 := HSy.out
     rw [hdk] at HS2
     simp only [scS] at HS2
     have p2 : ((k : Int) < (way.length : Int)) = True := eq_true (by omega)
     clear hdk HSy
     generalize way[k] = s at *
     have HSy := Lib.hid HS2
     have HTy := Lib.hid (below_then HB3.out HB3.out.size (below_then HB.out HB.out.size HRy.out))
     have hk3 := ((below_then HB.out HB.out.size HRy.out).block _ (lt_of_block HKC3.out)).trans HKC3.out
     have HKy := Lib.hid hk3
     have HMy := Lib.hid (HM3.out.below (below_then HB.out HB.out.size HRy.out))
     have z2 : wy.cell? ⟨w1.heap.size, 2, none⟩ = some (.slice B tr.length cb) := blk_cell hk3 2
     clear HS2 hk3
     go_wp2_with fail
     go_loopg [11, 12, 47] tr.length (fun g2 o n t wz => ∃ (p m2 : Nat), p + g2 = tr.length ∧ t = .int .i64 p ∧ n = .int .i64 (m2 : Nat) ∧ o = .slice AO out.length cO ∧ m2 ≤ m1 + p ∧ Hid (Below wy.heap.size wy wz) ∧ Hid (scT env ev s (tr.drop p) p m2 = scT env ev s tr 0 m1))
     case atStart => exact ⟨0, m1, by omega, rfl, rfl, rfl, by omega, Lib.hid (Below.refl _ _), Lib.hid (by rw [List.drop_zero]; rfl)⟩
     case round =>
      clear z2
      obtain ⟨p, m2, hpg, rfl, rfl, rfl, hm2, HBz, HTz⟩ := hrel
      obtain ⟨wz, rfl⟩ : ∃ wz : World, wz = wr := ⟨_, rfl⟩
      have HRz := Lib.hid (below_then HRy.out HRy.out.size HBz.out)
      cases gk with
      | zero =>
       obtain rfl : p = tr.length := by omega
       have hT : scT env ev s tr 0 m1 = (-1, m2) := by rw [← HTz.out, List.drop_length]; rfl
       have HS2 := HSy.out
       rw [hT] at HS2
       have HS3 : Hid (scS tr env ev (way.drop (k + 1)) m2 = scS tr env ev way m) := Lib.hid HS2
       have HBy2 := Lib.hid (below_then HBy.out HBy.out.size HBz.out)
       have p3 : ((tr.length : Int) < (tr.length : Int)) = False := eq_false (by omega)
       clear hT HS2 HSy
       go_wp2_with fail
       go_roundg g1
       case measure => omega
       case rel => exact ⟨k + 1, m2, by omega, by go_num, rfl, rfl, by omega, HBy2, HS3⟩
      | succ g2 =>
       have hlp : p < tr.length := by omega
       have p3 : ((p : Int) < (tr.length : Int)) = True := eq_true (by omega)
       obtain ⟨bd, A3, c3, A5, c5, rfl, q0, q1, q2, q3, q4, q5, l3, g3, l5, g5⟩ := PAll.at_T46 (HMy.out.below HBz.out).ct (p : Int) (by omega) (by omega)
       rw [Int.toNat_natCast] at q0 q1 q2 q3 q4 q5
       have hz : (rdT tr (p : Int)).f2.size ≤ 281474976710656 := by rw [rdT_at hlp]; exact HFz.out _ (List.getElem_mem hlp)
       have HZ := Lib.hid hz
       have hT2 := HTz.out
       rw [List.drop_eq_getElem_cons hlp, ← rdT_at hlp] at hT2
       simp only [scT] at hT2
       have HAz := Lib.hid (HBz.out.alloc HBz.out.size (.cells #[.int .i64 (rdT tr p).f0, .int .i64 (rdT tr p).f1, .string (rdT tr p).f2, .slice A3 (rdT tr p).f3.length c3, .bool (rdT tr p).f4, .slice A5 (rdT tr p).f5.length c5] 46))
       have HRa := Lib.hid (HRz.out.alloc HRz.out.size (.cells #[.int .i64 (rdT tr p).f0, .int .i64 (rdT tr p).f1, .string (rdT tr p).f2, .slice A3 (rdT tr p).f3.length c3, .bool (rdT tr p).f4, .slice A5 (rdT tr p).f5.length c5] 46))
       clear hz HTz g3 g5 l3 l5
       by_cases hs : (rdT tr (p : Int)).f0 ≠ s
       ·have d1 : ((PAll.rd_T46 tr (p : Int)).f0 != s) = true := by rw [bne_iff_ne]; exact hs
        rw [if_pos hs] at hT2
        have HT3 : Hid (scT env ev s (tr.drop (p + 1)) ((p + 1 : Nat) : Int) m2 = scT env ev s tr 0 m1) := Lib.hid (by rw [← hT2]; rfl)
        clear hs hT2
        go_wp2_with fail
        go_roundg g2
        case measure => omega
        case rel => exact ⟨p + 1, m2, by omega, by go_num, rfl, rfl, by omega, HAz, HT3⟩
       ·have d1 : ((PAll.rd_T46 tr (p : Int)).f0 != s) = false := by rw [bne_eq_false_iff_eq]; exact Classical.not_not.1 hs
        rw [if_neg hs] at hT2
        have HT3 := Lib.hid hT2
        clear hs hT2
        go_wp2_with fail
        have HWr := Lib.hid (HW.out.below (below_then HBw.out HBw.out.size HRa.out))
        have HEr := Lib.hid (Kd.C_below HE.out (below_then HBw.out HBw.out.size HRa.out))
        refine (rdy_any (rdT tr (p : Int)) A3 A5 c3 c5 HZ.out E ecap env _ HWr.out HEr.out ev).mono ?_
        clear q0 q1 q2 q3 q4 q5
        cases his : (rdyP (rdT tr (p : Int)) env ev).1 with
        | true =>
         have hbad := rdy_fine his
         rw [hbad]
         have hT := HT3.out
         rw [if_pos his, hbad] at hT
         have hS := HSy.out
         rw [← hT, if_pos (by simp)] at hS
         have hI := HI6.out
         rw [← hS] at hI
         have HI7 : Hid (gaF st tr env ev (lv.drop (q + 1)) (addI out (p : Int)) m2 = G) := Lib.hid hI
         clear hT hS hI hbad his HT3 HSy HI6
         rintro e w7 ⟨rfl, hb7⟩
         have HR7 := Lib.hid (below_then HRa.out HRa.out.size hb7)
         have HO7 := Lib.hid (Kd.R_below HO.out HR7.out)
         have HB7 := Lib.hid (below_then HB.out HB.out.size HR7.out)
         obtain ⟨_, hcO, hCO⟩ := Kd.R_reads' HO7.out
         have HCO := Lib.hid hCO
         have hol2 : out.length < 1000000 := by omega
         clear hb7 hCO
         cases hc : out.contains (p : Int) with
         | true =>
          have hA : addI out (p : Int) = out := if_pos (.inr hc)
          have HI8 : Hid (gaF st tr env ev (lv.drop (q + 1)) out m2 = G) := Lib.hid (by rw [← hA]; exact HI7.out)
          clear hA HI7
          go_wp2_with fail
          refine (thas_any AO cO out (p : Int) (by omega) hcO HCO.out).mono ?_
          rw [hc]
          clear hc
          rintro e w8 ⟨rfl, hb8⟩
          have HO8 := Lib.hid (Kd.R_below HO7.out hb8)
          have HB8 := Lib.hid (below_then HB7.out HB7.out.size hb8)
          clear hb8
          go_wp2_with fail
          go_roundg gh
          case measure => omega
          case rel => exact ⟨q + 1, m2, out, by omega, by go_num, rfl, by omega, by omega, HO8, HB8, HI8⟩
         | false =>
          have hA : addI out (p : Int) = out ++ [(p : Int)] := if_neg (fun h => by rcases h with h | h; omega; rw [hc] at h; cases h)
          have HI8 : Hid (gaF st tr env ev (lv.drop (q + 1)) (out ++ [(p : Int)]) m2 = G) := Lib.hid (by rw [← hA]; exact HI7.out)
          clear hA HI7
          go_wp2_with fail
          refine (thas_any AO cO out (p : Int) (by omega) hcO HCO.out).mono ?_
          rw [hc]
          clear hc
          rintro e w8 ⟨rfl, hb8⟩
          have HO8 := Lib.hid (Kd.R_below HO7.out hb8)
          have HB8 := Lib.hid (below_then HB7.out HB7.out.size hb8)
          have hs8 := HB8.out.size
          clear hb8
          go_wp2_with (at_builtin; refine inn_append rfl (.tmp 72) (.tmp 74) rfl w3.heap.size _ out (p : Int) rfl _ rfl rfl HO8.out hs8 hol2 ?_)
          intro v9 w9 h9 hb9 hg9
          have HO9 := Lib.hid h9
          have HB9 := Lib.hid (HB8.out.trans hb9)
          clear h9 hb9 hg9
          go_wp2_with fail
          go_roundg gh
          case measure => omega
          case rel => exact ⟨q + 1, m2, out ++ [(p : Int)], by omega, by go_num, rfl, by omega, by simp; omega, HO9, HB9, HI8⟩
        | false =>
         have hmb : m2 ≤ 100000 := by omega
         cases hbad : (rdyP (rdT tr (p : Int)) env ev).2 with
         | true =>
          have hT := HT3.out
          rw [if_neg (by rw [his]; simp), hbad] at hT
          have HT4 : Hid (scT env ev s (tr.drop (p + 1)) ((p + 1 : Nat) : Int) (m2 + 1) = scT env ev s tr 0 m1) := Lib.hid (by rw [← hT]; rfl)
          clear hT hbad his HT3
          rintro e w7 ⟨rfl, hb7⟩
          have HA7 := Lib.hid (below_then HAz.out HAz.out.size hb7)
          clear hb7
          go_wp2_with fail
          go_roundg g2
          case measure => omega
          case rel => exact ⟨p + 1, m2 + 1, by omega, by go_num, by go_num, rfl, by omega, HA7, HT4⟩
         | false =>
          have hT := HT3.out
          rw [if_neg (by rw [his]; simp), hbad] at hT
          have HT4 : Hid (scT env ev s (tr.drop (p + 1)) ((p + 1 : Nat) : Int) m2 = scT env ev s tr 0 m1) := Lib.hid (by rw [← hT]; rfl)
          clear hT hbad his HT3
          rintro e w7 ⟨rfl, hb7⟩
          have HA7 := Lib.hid (below_then HAz.out HAz.out.size hb7)
          clear hb7
          go_wp2_with fail
          go_roundg g2
          case measure => omega
          case rel => exact ⟨p + 1, m2, by omega, by go_num, rfl, rfl, by omega, HA7, HT4⟩
end
end Go.Proofs.YtcjlpkegkehghaaGreatDoor
end
section
namespace Go.Proofs.YtcjlpkegkehghaaGreatDoor
open Go.RowKit Go.Proofs.YtcjlpkegkehghaaGreatDoorW.PrintWords
open PX (T V)
def AsksL1 (F : Nat) (g1 : Nat) (w : World) (l : List Int) (p : Int → Bool) : Prop :=
 ∀ wr, Below w.heap.size w wr → ∀ x, x ∈ l → Calls Tryz.prog F #[.int .i64 x, .pointer (some ⟨g1, 0, none⟩)] wr fun e w' => e = .returned (.bool (p x)) ∧ Below wr.heap.size wr w'
section
variable {w : World}
theorem fidx1_any (F g1 : Nat) (hrun : ∀ args w, (callFunc F args).run Tryz.prog w = .ok (.enter F args) w) (S : Option Addr) (c : Nat) (l : List Int) (hS : (Kd.int .i64).C w S l.length l) (hc : l.length ≤ c) (hl : l.length ≤ 1000000) (p : Int → Bool) (hp : AsksL1 F g1 w l p) :
  Calls Tryz.prog 133 #[.slice S l.length c, .func (.func F) #[] #[.pointer (some ⟨g1, 0, none⟩)]] w fun e w' => e = .returned (.int .i64 (firstAt p l 0)) ∧ Below w.heap.size w w' := by
 have HP := Lib.hid hp
 have HS := Lib.hid hS
 clear hS hp
 go_enter Tryz.func133, Tryz.ntmps133
 go_wp2_with fail
 go_loopw [8] (fun i wr => ∃ q : Nat, i = .int .i64 q ∧ q ≤ l.length ∧ Hid (Below w.heap.size w wr) ∧ Hid (firstAt p l 0 = firstAt p (l.drop q) q)) (fun i _ => l.length - (intOf i).toNat)
 case atStart => exact ⟨0, rfl, Nat.zero_le _, Lib.hid (Below.refl _ _), Lib.hid (by simp)⟩
 case round =>
  obtain ⟨q, rfl, hq, HB, HE⟩ := hrel
  by_cases hlt : q < l.length
  ·obtain ⟨ad, rfl, a0⟩ := nums_at (Kd.C_below HS.out HB.out) q hlt
   have hds : l.drop q = l[q] :: l.drop (q + 1) := List.drop_eq_getElem_cons hlt
   have HE2 := HE.out
   rw [hds] at HE2
   have HMe := Lib.hid (show l[q] ∈ l from List.getElem_mem hlt)
   have p1 : ((q : Int) < (l.length : Int)) = True := eq_true (by omega)
   clear hds HE
   generalize l[q] = a at *
   have HE := Lib.hid HE2
   clear HE2
   go_wp2_with fail
   refine (HP.out _ HB.out a HMe.out).mono ?_
   cases hp : p a with
   | true =>
    have HE3 : Hid (firstAt p l 0 = (q : Int)) := Lib.hid (by have := HE.out; simp only [firstAt] at this; rw [if_pos hp] at this; exact this)
    clear hp
    rintro e w2 ⟨rfl, hb2⟩
    have HB2 := Lib.hid (below_then HB.out HB.out.size hb2)
    clear hb2 a0
    go_wp2_with fail
    go_ret
    exact ⟨by rw [HE3.out]; rfl, HB2.out⟩
   | false =>
    have HE3 : Hid (firstAt p l 0 = firstAt p (l.drop (q + 1)) ((q + 1 : Nat) : Int)) := Lib.hid (by have := HE.out; simp only [firstAt] at this; rw [if_neg (by rw [hp]; simp)] at this; rw [this]; rfl)
    clear hp
    rintro e w2 ⟨rfl, hb2⟩
    have HB2 := Lib.hid (below_then HB.out HB.out.size hb2)
    clear hb2 a0
    go_wp2_with fail
    go_roundw
    case rel => exact ⟨q + 1, by go_num, by omega, HB2, HE3⟩
    case measure => simp [intOf]; omega
  ·obtain rfl : q = l.length := by omega
   have HE3 : Hid (firstAt p l 0 = -1) := Lib.hid (by rw [HE.out, List.drop_length]; rfl)
   go_wp2_with fail
   go_ret
   exact ⟨by rw [HE3.out]; rfl, HB.out⟩
end
theorem inn_clear {B gl n cap : Nat} (m : Nat) : ∀ (o : Nat) (w : World) (xs : List Int), InnR w B (.slice (some ⟨gl, 0, none⟩) n cap) xs →
  ∃ ys : List Int, InnR (w.setCells gl o (List.replicate m (.int .i64 0))) B (.slice (some ⟨gl, 0, none⟩) n cap) ys ∧ ys.length = xs.length ∧ ys.take o = xs.take o := by
 induction m with
 | zero => intro o w xs h; exact ⟨xs, h, rfl, rfl⟩
 | succ m ih =>
  intro o w xs h
  obtain ⟨ys, h1, h2, h3⟩ := ih (o + 1) _ _ (inn_put h o 0)
  refine ⟨ys, h1, by simpa using h2, ?_⟩
  have : (ys.take (o + 1)).take o = ((xs.set o 0).take (o + 1)).take o := by rw [h3]
  rw [List.take_take, List.take_take, Nat.min_eq_left (by omega)] at this
  rw [this, List.take_set, List.set_eq_of_length_le (by simp; omega)]
theorem chg_setCells {S : Nat → Prop} {a : World} {g : Nat} (hS : g < a.heap.size → S g) : ∀ (vs : List Value) (o : Nat) (b : World), Chg S a b → Chg S a (b.setCells g o vs)
 | [], _, _, h => h
 | v :: r, o, b, h => chg_setCells hS r (o + 1) (b.setCell ⟨g, o, none⟩ v) (h.setCell hS v)
def AsksK (F g1 gr : Nat) (w : World) (p : Int → Bool) : Prop :=
 ∀ wr, Chg (· = gr) w wr → ∀ x, Calls Tryz.prog F #[.int .i64 x, .pointer (some ⟨g1, 0, none⟩)] wr fun e w' => e = .returned (.bool (p x)) ∧ Below wr.heap.size wr w'
theorem firstAt_spec (p : Int → Bool) (l : List Int) : ∀ i : Nat, (firstAt p l i = -1 ∧ ∀ x ∈ l, p x = false) ∨ ∃ k, ∃ h : k < l.length, firstAt p l i = ((i + k : Nat) : Int) ∧ p l[k] = true ∧ ∀ x ∈ l.take k, p x = false := by
 induction l with
 | nil => intro i; exact .inl ⟨rfl, fun x h => by cases h⟩
 | cons a l ih =>
  intro i
  by_cases hp : p a = true
  ·exact .inr ⟨0, by simp, by simp [firstAt, hp], by simpa using hp, fun x h => by simp at h⟩
  ·have e : firstAt p (a :: l) i = firstAt p l ((i + 1 : Nat) : Int) := by simp only [firstAt]; rw [if_neg hp]; rfl
   rw [e]
   rcases ih (i + 1) with ⟨h1, h2⟩ | ⟨k, hk, h1, h2, h3⟩
   ·refine .inl ⟨h1, fun x hx => ?_⟩
    rcases List.mem_cons.1 hx with rfl | hx
    ·simpa using hp
    ·exact h2 x hx
   ·refine .inr ⟨k + 1, by simpa using hk, by rw [h1]; congr 1; omega, by simpa using h2, fun x hx => ?_⟩
    rw [List.take_succ_cons] at hx
    rcases List.mem_cons.1 hx with rfl | hx
    ·simpa using hp
    ·exact h3 x hx
theorem filt_snoc (p : Int → Bool) (l : List Int) (j : Nat) (h : j < l.length) : (l.take (j + 1)).filter p = (l.take j).filter p ++ (if p l[j] = true then [l[j]] else []) := by
 rw [List.take_succ_eq_append_getElem h, List.filter_append]
 congr 1
 by_cases c : p l[j] = true <;> simp [c]
section
variable {w : World}
theorem delf_none (F g1 : Nat) (hrun : ∀ args w, (callFunc F args).run Tryz.prog w = .ok (.enter F args) w) (S : Option Addr) (c : Nat) (l : List Int) (hS : (Kd.int .i64).C w S l.length l) (hc : l.length ≤ c) (hl : l.length ≤ 1000000) (p : Int → Bool) (hp : AsksL1 F g1 w l p) (hn : firstAt p l 0 = -1) :
  Calls Tryz.prog 72 #[.slice S l.length c, .func (.func F) #[] #[.pointer (some ⟨g1, 0, none⟩)]] w fun e w' => e = .returned (.slice S l.length c) ∧ Below w.heap.size w w' := by
 have HP := Lib.hid hp
 have HS := Lib.hid hS
 have HN := Lib.hid hn
 clear hS hp hn
 go_enter Tryz.func72, Tryz.ntmps72
 go_wp2_with fail
 refine (fidx1_any F g1 hrun S c l HS.out hc hl p HP.out).mono ?_
 rw [HN.out]
 rintro e w1 ⟨rfl, hb1⟩
 go_wp2_with fail
 go_ret
 exact ⟨rfl, hb1⟩
theorem delf_any (B : Nat) (F g1 gr c n : Nat) (hrun : ∀ args w, (callFunc F args).run Tryz.prog w = .ok (.enter F args) w) (l : List Int) (hS : InnR w B (.slice (some ⟨gr, 0, none⟩) n c) l) (hl : n ≤ 1000000) (p : Int → Bool) (hp : AsksK F g1 gr w p) (hsm : firstAt p l 0 ≠ -1) :
  Calls Tryz.prog 72 #[.slice (some ⟨gr, 0, none⟩) n c, .func (.func F) #[] #[.pointer (some ⟨g1, 0, none⟩)]] w fun e w' => e = .returned (.slice (some ⟨gr, 0, none⟩) (l.filter (fun x => !p x)).length c) ∧ InnR w' B (.slice (some ⟨gr, 0, none⟩) (l.filter (fun x => !p x)).length c) (l.filter (fun x => !p x)) ∧ Chg (· = gr) w w' := by
 have zE : ∀ w : World, (zeroValue 3).run Tryz.prog w = .ok (.int .i64 0) w := fun w => by kernel_rfl
 obtain ⟨rfl, hnc, hC⟩ := Kd.R_reads' hS
 have HP := Lib.hid hp
 have HC := Lib.hid hC
 have HS := Lib.hid hS
 obtain ⟨hno, _⟩ | ⟨k, hk, hk1, hk2, hk3⟩ := firstAt_spec p l 0
 ·exact absurd hno hsm
 have hk1' : firstAt p l 0 = (k : Int) := by have := hk1; simpa using this
 have HK1 := Lib.hid hk1'
 have HFi : Hid ((l.take (k + 1)).filter (fun x => !p x) = l.take k) := Lib.hid (by
  rw [filt_snoc _ _ _ hk, List.filter_eq_self.2 (fun x hx => by simp [hk3 x hx]), if_neg (by simp [hk2]), List.append_nil])
 have hne1 : ((k : Int) == -1) = false := beq_eq_false_iff_ne.2 (by omega)
 clear hp hC hS hk1 hk2 hk3 hk1' hsm
 go_enter Tryz.func72, Tryz.ntmps72
 go_wp2_with fail
 refine (fidx1_any F g1 hrun (some ⟨gr, 0, none⟩) c l HC.out hnc hl p (fun wr hb x _ => HP.out wr (Chg.of_below hb) x)).mono ?_
 rw [HK1.out]
 rintro e w1 ⟨rfl, hb1⟩
 have HS1 := Lib.hid (Kd.R_below HS.out hb1)
 have HC1 := Lib.hid (Chg.of_below (S := (· = gr)) hb1)
 clear hb1 HS HC
 go_wp2_with fail
 go_loopg [5, 6, 7] (l.length - (k + 1)) (fun gg s5 s6 _ wr => ∃ (i j : Nat) (xs : List Int), s5 = .int .i64 i ∧ s6 = .int .i64 j ∧ j + gg = l.length ∧ i < j ∧ xs.length = l.length ∧ Hid (xs.take i = (l.take j).filter (fun x => !p x)) ∧ Hid (xs.drop j = l.drop j) ∧ Hid (InnR wr B (.slice (some ⟨gr, 0, none⟩) l.length c) xs) ∧ Hid (Chg (· = gr) w wr))
 case atStart => exact ⟨k, k + 1, l, rfl, by go_num, by omega, by omega, rfl, Lib.hid HFi.out.symm, Lib.hid rfl, HS1, HC1⟩
 case round =>
  clear HS1 HC1 HFi
  obtain ⟨i, j, xs, rfl, rfl, hjg, hij, hxl, HT, HD, HR, HCh⟩ := hrel
  cases gk with
  | zero =>
   obtain rfl : j = l.length := by omega
   have hcl : ∀ ty, (Builtin.clear_ #[35] ty #[.slice (some ⟨gr, i, none⟩) (l.length - i) (c - i)]).run Tryz.prog wr = .ok (.tuple #[]) (wr.setCells gr i (List.replicate (l.length - i) (.int .i64 0))) :=
    fun ty => Lib.run_clear_slice wr _ _ ty _ Tryz.underlying35 zE rfl rfl gr i _ _ (by omega) (fun t ht => by rw [(inn_at HR.out (i + t) (by omega)).1]; rfl) (fun t ht => (inn_at HR.out (i + t) (by omega)).2)
   obtain ⟨ys, y1, y2, y3⟩ := inn_clear (l.length - i) i wr xs HR.out
   have hfl : l.filter (fun x => !p x) = ys.take i := by rw [y3, HT.out, List.take_length]
   have hfn : (l.filter (fun x => !p x)).length = i := by rw [hfl, List.length_take]; omega
   have HY := Lib.hid (Kd.R_take y1 (show i ≤ ys.length by omega))
   have HCe := Lib.hid (chg_setCells (S := (· = gr)) (fun _ => rfl) (List.replicate (l.length - i) (.int .i64 0)) i wr HCh.out)
   have HFn := Lib.hid hfn
   have HFl := Lib.hid hfl
   clear y1 y2 y3 hfl hfn HT HD HR HCh
   go_wp2_with fail
   go_ret
   exact ⟨by rw [HFn.out]; rfl, by rw [HFn.out, HFl.out]; exact HY.out, HCe.out⟩
  | succ gg =>
   have hlt : j < l.length := by omega
   have p1 : ((j : Int) < (l.length : Int)) = True := eq_true (by omega)
   obtain ⟨u0, _⟩ := inn_at HR.out j (by omega)
   obtain ⟨i0, i1⟩ := inn_at HR.out i (by omega)
   have hxj : xs[j]'(by omega) = l[j] := by
    have h1 := List.getElem_drop (xs := xs) (i := j) (j := 0) (h := by simp; omega)
    have h2 := List.getElem_drop (xs := l) (i := j) (j := 0) (h := by simp; omega)
    simp only [Nat.add_zero] at h1 h2
    rw [← h1, ← h2]
    simp only [HD.out]
   rw [hxj] at u0
   have HF := Lib.hid (filt_snoc (fun x => !p x) l j hlt)
   have HXs : Hid (xs.drop (j + 1) = l.drop (j + 1)) := Lib.hid (by
    have := HD.out
    rw [List.drop_eq_getElem_cons (by omega), List.drop_eq_getElem_cons hlt] at this
    exact (List.cons.inj this).2)
   have p2 : ((i : Int) < (l.length : Int)) = True := eq_true (by omega)
   clear hxj HD
   generalize l[j] = u at *
   generalize xs[i] = old at *
   go_wp2_with fail
   refine (HP.out _ HCh.out u).mono ?_
   cases hpu : p u with
   | false =>
    have hf := HF.out
    rw [if_pos (by simp [hpu])] at hf
    have HT2 : Hid ((xs.set i u).take (i + 1) = (l.take (j + 1)).filter (fun x => !p x)) := Lib.hid (by
     rw [hf, ← HT.out, List.take_succ_eq_append_getElem (by simp; omega), List.take_set, List.set_eq_of_length_le (by simp; omega)]
     simp)
    have HD2 : Hid ((xs.set i u).drop (j + 1) = l.drop (j + 1)) := Lib.hid (by rw [List.drop_set_of_lt (by omega)]; exact HXs.out)
    clear hpu hf HT HF HXs
    rintro e w2 ⟨rfl, hb2⟩
    have HR2 := Lib.hid (Kd.R_below HR.out hb2)
    have HC2 := Lib.hid (HCh.out.trans (Chg.of_below hb2))
    obtain ⟨k0, k1⟩ := inn_at HR2.out i (by omega)
    clear hb2 u0 i0 i1
    go_wp2_with fail
    go_roundg gg
    case measure => omega
    case rel => exact ⟨i + 1, j + 1, xs.set i u, by go_num, by go_num, by omega, by omega, by simpa using hxl, HT2, HD2, Lib.hid (inn_put HR2.out i u), Lib.hid (HC2.out.setCell (p := ⟨gr, i, none⟩) (fun _ => rfl) _)⟩
   | true =>
    have hf := HF.out
    rw [if_neg (by simp [hpu]), List.append_nil] at hf
    have HT2 : Hid (xs.take i = (l.take (j + 1)).filter (fun x => !p x)) := Lib.hid (by rw [hf, HT.out])
    clear hpu hf HT HF
    rintro e w2 ⟨rfl, hb2⟩
    have HR2 := Lib.hid (Kd.R_below HR.out hb2)
    have HC2 := Lib.hid (HCh.out.trans (Chg.of_below hb2))
    clear hb2 u0 i0 i1
    go_wp2_with fail
    go_roundg gg
    case measure => omega
    case rel => exact ⟨i, j + 1, xs, rfl, by go_num, by omega, by omega, hxl, HT2, HXs, HR2, HC2⟩
end
end Go.Proofs.YtcjlpkegkehghaaGreatDoor
end
section
namespace Go.Proofs.YtcjlpkegkehghaaGreatDoor
open Go.RowKit Go.Proofs.YtcjlpkegkehghaaGreatDoorW.PrintWords Go.Proofs.YtcjlpkegkehghaaGreatDoorW.PrintLast
open PX (T V)
theorem inn_chg {B g : Nat} {w w' : World} {v : Value} {xs : List Int} (h : InnR w B v xs) (hc : Chg (· = g) w w') (hg : g < B) : InnR w' B v xs := by
 have h1 := Kd.R_tight rfl h
 refine Kd.R_mono (Kd.R_step h1 (fun k hk hlt => hc.block k hlt (fun e => ?_))) (fun _ _ => trivial)
 have := Kd.R_base h k hk.symm
 have e' : k = g := e
 omega
theorem filt_all {p : Int → Bool} {l : List Int} (h : ∀ x ∈ l, p x = false) : l.filter (fun x => !p x) = l := List.filter_eq_self.2 (fun x hx => by simp [h x hx])
section
variable {g : Nat} {v : Int} {st : List Sta} {tr : List Tra} {w : World}
theorem siffn_any (g1 : Nat) (A : Option Addr) (c : Nat) (l : List Int) (x : Int) (hl : l.length ≤ 1000000) (hc : l.length ≤ c) (hC : NumsC w A l.length l) (h1 : w.heap[g1]? = some (.cells #[.slice A l.length c] 35 (0, 0))) :
  Calls Tryz.prog 73 #[.int .i64 x, .pointer (some ⟨g1, 0, none⟩)] w fun e w' => e = .returned (.bool (l.contains x)) ∧ Below w.heap.size w w' := by
 have HC := Lib.hid hC
 have y1 : w.cell? ⟨g1, 0, none⟩ = some (.slice A l.length c) := blk_cell h1 0
 clear hC h1
 go_enter Tryz.func73, Tryz.ntmps73
 go_wp2_with fail
 refine (thas_any A c l x hl hc HC.out).mono ?_
 rintro e w1 ⟨rfl, hb1⟩
 go_wp2_with fail
 go_ret
 exact ⟨by simp, hb1⟩
theorem sift_any (h : TrM w g v st tr) (good : chkP v st tr = .none) (hF : fewP st tr = true) (set : Nat) (hset : set < 4294967296) (L : Option Addr) (cL : Nat) (l : List Int) (hL : NumsC w L l.length l) (hll : l.length ≤ 100000) :
  Calls Tryz.prog 23 #[.pointer (some ⟨g, 0, none⟩), .int .u32 (set : Nat), .slice L l.length cL] w fun e w' => ∃ u, e = .returned u ∧ InnR w' w.heap.size u (siP st tr set l) ∧ Below w.heap.size w w' := by
 have hmf : ∀ (fn : Fn) (first cap : Array Value) (w : World), (Instr.makeFunc fn first cap).run Tryz.prog w = .ok (.func fn first cap) w := fun _ _ _ _ => rfl
 have hrun : ∀ args w, (callFunc 73 args).run Tryz.prog w = .ok (.enter 73 args) w := fun _ _ => rfl
 have H := Lib.hid h
 have HL := Lib.hid hL
 have HA := Lib.hid (good_ahead good)
 have HGood := Lib.hid good
 have HF := Lib.hid hF
 obtain ⟨⟨_, _, hn1, hn, hn2⟩, _⟩ := chk_none good
 obtain ⟨hS, hTr⟩ := few_s hF
 generalize hG : siP st tr set l = G0
 have HG : Hid (siF st tr set l [] = G0) := Lib.hid hG
 clear h good hF hL hG
 go_enter Tryz.func23, Tryz.ntmps23
 go_wp2_with fail
 refine (tchart_any H.out (by omega) (by omega) (by omega) hS hTr).mono ?_
 rintro e w1 ⟨gS, ca, B, cb, rfl, hM, hb1, _, _, _⟩
 generalize (some ⟨gS, 0, none⟩ : Option Addr) = A at hM ⊢
 have hal : Below w1.heap.size w1 (w1.alloc (.cells #[.int .i64 v, .slice A st.length ca, .slice B tr.length cb] 25)) := (Below.refl _ w1).alloc (Nat.le_refl _) _
 have hkc := blk_new w1 (.cells #[.int .i64 v, .slice A st.length ca, .slice B tr.length cb] 25)
 have HB3 := Lib.hid (below_then hb1 hb1.size hal)
 have HM3 := Lib.hid (hM.below hal)
 have HKC3 := Lib.hid hkc
 have HCL := Lib.hid (Kd.C_below HL.out (below_then hb1 hb1.size hal))
 clear hM hb1 hkc hal hS hTr HL
 go_wp2_with fail
 generalize w1.alloc (.cells #[.int .i64 v, .slice A st.length ca, .slice B tr.length cb] 25) = w3 at HB3 HM3 HKC3 HCL ⊢
 go_loopg [8, 21] l.length (fun gh o i wr => ∃ (q : Nat) (kept : List Int), q + gh = l.length ∧ i = .int .i64 q ∧ kept.length ≤ q ∧ Hid (InnR wr w3.heap.size o kept) ∧ Hid (Below w3.heap.size w3 wr) ∧ Hid (siF st tr set (l.drop q) kept = G0) ∧ Hid (∀ x ∈ kept, thT tr x))
 case atStart => exact ⟨0, [], by omega, rfl, by simp, Lib.hid (Kd.R_nil _ _ _ _ _), Lib.hid (Below.refl _ _), Lib.hid (by rw [List.drop_zero]; exact HG.out), Lib.hid (fun x h => by cases h)⟩
 case round =>
  clear HG
  obtain ⟨q, kept, hqg, rfl, hkl, HO, HB, HI, HTh⟩ := hrel
  obtain ⟨wo, rfl⟩ : ∃ wo : World, wo = wr := ⟨_, rfl⟩
  obtain ⟨AO, cO, rfl⟩ := Kd.R_slice HO.out
  have HBw := Lib.hid (below_then HB3.out HB3.out.size HB.out)
  cases gk with
  | zero =>
   obtain rfl : q = l.length := by omega
   have HG : Hid (kept = G0) := Lib.hid (by rw [← HI.out, List.drop_length]; rfl)
   have p1 : ((l.length : Int) < (l.length : Int)) = False := eq_false (by omega)
   go_wp2_with fail
   go_ret
   exact ⟨_, rfl, by rw [← HG.out]; exact Kd.R_lower HO.out HB3.out.size, HBw.out⟩
  | succ gh =>
   have hlt : q < l.length := by omega
   obtain ⟨ad, rfl, a0⟩ := nums_at (Kd.C_below HCL.out HB.out) q hlt
   have HI2 := HI.out
   rw [List.drop_eq_getElem_cons hlt] at HI2
   simp only [siF] at HI2
   have p1 : ((q : Int) < (l.length : Int)) = True := eq_true (by omega)
   have HKo := Lib.hid ((HB.out.block _ (lt_of_block HKC3.out)).trans HKC3.out)
   have z2 : wo.cell? ⟨w1.heap.size, 2, none⟩ = some (.slice B tr.length cb) := blk_cell HKo.out 2
   clear HI
   generalize l[q] = i at *
   by_cases hth : thT tr i
   ·rw [if_neg (fun h => h hth)] at HI2
    have HI := Lib.hid HI2
    have hth1 := hth.1
    have hth2 := hth.2
    have d1 : decide (i < 0) = false := decide_eq_false (by omega)
    have d2 : decide (i ≥ (tr.length : Int)) = false := decide_eq_false (by omega)
    have d2' : decide ((tr.length : Int) ≤ i) = false := decide_eq_false (by omega)
    have hgB := blk_new wo (.cells #[.slice none 0 0] 35)
    have hal : Below wo.heap.size wo (wo.alloc (.cells #[.slice none 0 0] 35)) := (Below.refl _ wo).alloc (Nat.le_refl _) _
    have HGB := Lib.hid hgB
    have HAl := Lib.hid hal
    clear HI2 hth hgB hal
    go_wp2_with fail
    go_loopg [12, 36] kept.length (fun g1 ft j wy => ∃ (k : Nat) (G : List Int) (vG : Value), k + g1 = kept.length ∧ j = .int .i64 k ∧ ft = .bool true ∧ G.length ≤ k ∧ Hid (wy.heap[wo.heap.size]? = some (.cells #[vG] 35 (0, 0))) ∧ Hid (InnR wy (wo.heap.size + 1) vG G) ∧ Hid (Below wo.heap.size wo wy) ∧ Hid (siK st tr set i (kept.drop k) G = siK st tr set i kept []))
    case atStart => exact ⟨0, [], _, by omega, rfl, rfl, by simp, HGB, Lib.hid (Kd.R_nil _ _ _ _ _), HAl, Lib.hid (by rw [List.drop_zero])⟩
    case round =>
     clear HGB HAl
     obtain ⟨k, G, vG, hkg, rfl, rfl, hGl, HGB, HGR, HBy, HSK⟩ := hrel
     obtain ⟨wy, rfl⟩ : ∃ wy : World, wy = wr := ⟨_, rfl⟩
     have HB4 := Lib.hid (below_then HB.out HB.out.size HBy.out)
     have HTy := Lib.hid (H.out.below (below_then HB3.out HB3.out.size HB4.out))
     have HOy := Lib.hid (Kd.R_below HO.out HBy.out)
     cases gk with
     | zero =>
      obtain rfl : k = kept.length := by omega
      have hS : siK st tr set i kept [] = (true, G) := by rw [← HSK.out, List.drop_length]; rfl
      have hI := HI.out
      rw [hS, if_pos rfl] at hI
      have HI3 : Hid (siF st tr set (l.drop (q + 1)) (sift kept G i) = G0) := Lib.hid hI
      have hHTh : ∀ x ∈ sift kept G i, thT tr x := by
       intro x hx
       unfold sift at hx
       rcases List.mem_append.1 hx with hx | hx
       ·exact HTh.out x (List.mem_filter.1 hx).1
       ·rw [List.mem_singleton] at hx; subst hx; exact ⟨hth1, hth2⟩
      have HTh3 := Lib.hid hHTh
      have hfl : (kept.filter (fun x => !G.contains x)).length ≤ kept.length := List.length_filter_le _ _
      have hsl : (sift kept G i).length ≤ q + 1 := by unfold sift; rw [List.length_append, List.length_singleton]; omega
      obtain ⟨AG, cG, rfl⟩ := Kd.R_slice HGR.out
      obtain ⟨_, hcG, hCG⟩ := Kd.R_reads' HGR.out
      obtain ⟨_, hcO, hCO⟩ := Kd.R_reads' HOy.out
      have HCO := Lib.hid hCO
      have HAs1 : Hid (AsksL1 73 wo.heap.size wy kept (fun x => G.contains x)) := Lib.hid (fun wx hb x _ => siffn_any wo.heap.size AG cG G x (by omega) hcG (Kd.C_below hCG hb) ((hb.block _ (lt_of_block HGB.out)).trans HGB.out))
      have p2 : ((kept.length : Int) < (kept.length : Int)) = False := eq_false (by omega)
      by_cases hfa : firstAt (fun x => G.contains x) kept 0 = -1
      ·have hall : kept.filter (fun x => !G.contains x) = kept := by
        rcases firstAt_spec (fun x => G.contains x) kept 0 with ⟨_, h⟩ | ⟨kk, _, h, _⟩
        ·exact filt_all h
        ·have hfa' : firstAt (fun x => G.contains x) kept ((0 : Nat) : Int) = -1 := hfa
         rw [hfa'] at h; omega
       have HSf : Hid (sift kept G i = kept ++ [i]) := Lib.hid (by unfold sift; rw [hall])
       have HFa := Lib.hid hfa
       have hac : kept.length < 1000000 := by omega
       clear hS hI hHTh hCG hCO hall hfa hfl
       go_wp2_with fail
       refine (delf_none 73 wo.heap.size hrun AO cO kept HCO.out hcO (by omega) _ HAs1.out HFa.out).mono ?_
       rintro e w7 ⟨rfl, hb7⟩
       have HO7 := Lib.hid (Kd.R_below HOy.out hb7)
       have HB7 := Lib.hid (below_then HB4.out HB4.out.size hb7)
       have hs7 := HB7.out.size
       clear hb7
       go_wp2_with (at_builtin; refine inn_append rfl (.tmp 69) (.tmp 71) rfl w3.heap.size _ kept i rfl _ rfl rfl HO7.out hs7 hac ?_)
       intro v8 w8 h8 hb8 _
       have HO8 : Hid (InnR w8 w3.heap.size v8 (sift kept G i)) := Lib.hid (by rw [HSf.out]; exact h8)
       have HB8 := Lib.hid (HB7.out.trans hb8)
       clear h8 hb8
       go_wp2_with fail
       go_roundg gh
       case measure => omega
       case rel => exact ⟨q + 1, _, by omega, by go_num, hsl, HO8, HB8, HI3, HTh3⟩
      ·have hne : 0 < kept.length := by
        rcases Nat.eq_zero_or_pos kept.length with h | h
        ·exact absurd (by rw [List.eq_nil_of_length_eq_zero h]; rfl) hfa
        ·exact h
       obtain ⟨gr, cr, hv, hgr, hgr2, _⟩ := Kd.R_form HO.out hne
       injection hv with hv1 _ hv3
       subst hv1 hv3
       have HAsK : Hid (AsksK 73 wo.heap.size gr wy (fun x => G.contains x)) := Lib.hid (fun wx hc x => by
        obtain ⟨_, _, hCx⟩ := Kd.R_reads' (inn_chg HGR.out hc (by omega))
        exact siffn_any wo.heap.size AG cG G x (by omega) hcG hCx (hc.blk HGB.out (by omega)))
       have HFa := Lib.hid hfa
       have hac : (kept.filter (fun x => !G.contains x)).length < 1000000 := by omega
       have hcon := delf_any w3.heap.size 73 wo.heap.size gr cO kept.length hrun kept HOy.out (by omega) _ HAsK.out HFa.out
       have HCon := Lib.hid hcon
       clear hS hI hHTh hCG hCO hfa hcon
       go_wp2_with fail
       refine HCon.out.mono ?_
       have HSf : Hid (sift kept G i = kept.filter (fun x => !G.contains x) ++ [i]) := Lib.hid rfl
       clear HCon HAsK HAs1 HCO
       generalize kept.filter (fun x => !G.contains x) = kf at *
       rintro e w7 ⟨rfl, hr7, hc7⟩
       have HO7 := Lib.hid hr7
       have HB7 := Lib.hid (HB4.out.trans (hc7.below HB4.out.size (fun k hk e => by have e' : k = gr := e; omega)))
       have hs7 := HB7.out.size
       clear hr7 hc7
       go_wp2_with (at_builtin; refine inn_append rfl (.tmp 69) (.tmp 71) rfl w3.heap.size _ kf i rfl _ rfl rfl HO7.out hs7 hac ?_)
       intro v8 w8 h8 hb8 _
       have HO8 : Hid (InnR w8 w3.heap.size v8 (sift kept G i)) := Lib.hid (by rw [HSf.out]; exact h8)
       have HB8 := Lib.hid (HB7.out.trans hb8)
       clear h8 hb8
       go_wp2_with fail
       go_roundg gh
       case measure => omega
       case rel => exact ⟨q + 1, _, by omega, by go_num, hsl, HO8, HB8, HI3, HTh3⟩
     | succ g1 =>
      have hlk : k < kept.length := by omega
      obtain ⟨_, _, hCO⟩ := Kd.R_reads' HOy.out
      obtain ⟨ad2, rfl, a2⟩ := nums_at hCO k hlk
      have HS2 := HSK.out
      rw [List.drop_eq_getElem_cons hlk] at HS2
      simp only [siK] at HS2
      have p2 : ((k : Int) < (kept.length : Int)) = True := eq_true (by omega)
      have HMe := Lib.hid (List.getElem_mem hlk)
      clear HSK hCO
      generalize kept[k] = kk at *
      cases hcl : claP st tr set i kk with
      | false =>
       rw [if_pos hcl] at HS2
       have HS3 := Lib.hid HS2
       go_wp2_with fail
       refine (clash_any HTy.out HGood.out HF.out set hset i kk).mono ?_
       rw [hcl]
       clear hcl HS2
       rintro e w5 ⟨rfl, hb5⟩
       have HGB5 := Lib.hid ((hb5.block _ (lt_of_block HGB.out)).trans HGB.out)
       have HGR5 := Lib.hid (Kd.R_below HGR.out hb5)
       have HBy5 := Lib.hid (below_then HBy.out HBy.out.size hb5)
       clear hb5
       go_wp2_with fail
       go_roundg g1
       case measure => omega
       case rel => exact ⟨k + 1, G, vG, by omega, by go_num, rfl, by omega, HGB5, HGR5, HBy5, HS3⟩
      | true =>
       rw [if_neg (by rw [hcl]; simp)] at HS2
       obtain ⟨hk1, hk2⟩ := HTh.out kk HMe.out
       have hz := blk_cell ((below_then HB.out HB.out.size HBy.out).block _ (lt_of_block HKC3.out) |>.trans HKC3.out) 2
       obtain ⟨bd, _, _, _, _, rfl, k0', _⟩ := PAll.at_T46 (HM3.out.below HB4.out).ct i hth1 hth2
       obtain ⟨bd', _, _, _, _, hbd, k1', _⟩ := PAll.at_T46 (HM3.out.below HB4.out).ct kk hk1 hk2
       obtain rfl := Option.some.inj hbd
       have HZ := Lib.hid (show wy.cell? ⟨w1.heap.size, 2, none⟩ = some (.slice (some bd) tr.length cb) from hz)
       have HK0 := Lib.hid k0'
       have HK1 := Lib.hid k1'
       clear hz k0' k1' hbd
       have p3 : (0 ≤ i) = True := eq_true hth1
       have p4 : (i < (tr.length : Int)) = True := eq_true hth2
       have p5 : (0 ≤ kk) = True := eq_true hk1
       have p6 : (kk < (tr.length : Int)) = True := eq_true hk2
       go_wp2_with fail
       refine (clash_any HTy.out HGood.out HF.out set hset i kk).mono ?_
       rw [hcl]
       clear hcl
       rintro e w5 ⟨rfl, hb5⟩
       have mv : ∀ {p : Addr} {u : Value}, wy.cell? p = some u → w5.cell? p = some u := fun h => (World.cell?_of_block (hb5.block _ (c_lt h))).trans h
       have z2' := mv HZ.out
       have k0 := mv HK0.out
       have k1 := mv HK1.out
       replace k0 : w5.cell? (bd.add (i.toNat * 6)) = some (.int .i64 (rdT tr i).f0) := k0
       replace k1 : w5.cell? (bd.add (kk.toNat * 6)) = some (.int .i64 (rdT tr kk).f0) := k1
       have HB5 := Lib.hid hb5
       clear mv hb5 HZ HK0 HK1
       go_wp2_with fail
       cases hin : inP st (rdT tr i).f0 (rdT tr kk).f0 with
       | false =>
        have HIn : Hid ((decide (0 ≤ (rdT tr kk).f0) && inC st (rdT tr i).f0 (rdT tr kk).f0) = false) := Lib.hid hin
        rw [if_pos hin] at HS2
        have hI := HI.out
        rw [← HS2, if_neg (by simp)] at hI
        have HI3 : Hid (siF st tr set (l.drop (q + 1)) kept = G0) := Lib.hid hI
        clear hin HS2 hI
        refine start_ (n := 15) (S := fun w' => w'.cell? ⟨w1.heap.size, 2, none⟩ = some (.slice (some bd) tr.length cb) ∧ w'.cell? (bd.add (i.toNat * 6)) = some (.int .i64 (rdT tr i).f0) ∧ w'.cell? (bd.add (kk.toNat * 6)) = some (.int .i64 (rdT tr kk).f0)) (ds := [13]) (tf15 0) (by kernel_rfl) rfl (by kernel_rfl) ⟨z2', k0, k1⟩ (fun hHeld => ?_)
        iterate 2
         refine pxt_ (v := ?_) (a' := ?_) rfl rfl (by kernel_rfl) (fun _ _ _ h => h) (Or.inl ⟨by rfl, ?_⟩) ?_ ?_
         rotate_left
         ·intro w'
          go_simp
          first | done | with_reducible rfl
         rotate_left
         ·simp only [Act.put, List.setIfInBounds_toArray, List.set_cons_zero, List.set_cons_succ, i64_w, i32_w]
          first | done | rfl
        refine nxt_ (v := ?_) (a' := ?_) rfl rfl (by kernel_rfl) (fun _ _ _ h => h) (Or.inl ⟨by rfl, ?_⟩) hHeld ?_ ?_
        rotate_left
        ·rintro w' ⟨s0, s1, s2⟩
         go_simp
         first | done | with_reducible rfl
        rotate_left
        ·simp only [Act.put, List.setIfInBounds_toArray, List.set_cons_zero, List.set_cons_succ, i64_w, i32_w]
         first | done | rfl
        iterate 3
         refine pxt_ (v := ?_) (a' := ?_) rfl rfl (by kernel_rfl) (fun _ _ _ h => h) (Or.inl ⟨by rfl, ?_⟩) ?_ ?_
         rotate_left
         ·intro w'
          go_simp
          first | done | with_reducible rfl
         rotate_left
         ·simp only [Act.put, List.setIfInBounds_toArray, List.set_cons_zero, List.set_cons_succ, i64_w, i32_w]
          first | done | rfl
        refine nxt_ (v := ?_) (a' := ?_) rfl rfl (by kernel_rfl) (fun _ _ _ h => h) (Or.inl ⟨by rfl, ?_⟩) hHeld ?_ ?_
        rotate_left
        ·rintro w' ⟨s0, s1, s2⟩
         go_simp
         first | done | with_reducible rfl
        rotate_left
        ·simp only [Act.put, List.setIfInBounds_toArray, List.set_cons_zero, List.set_cons_succ, i64_w, i32_w]
         first | done | rfl
        refine pxt_ (v := ?_) (a' := ?_) rfl rfl (by kernel_rfl) (fun _ _ _ h => h) (Or.inl ⟨by rfl, ?_⟩) ?_ ?_
        rotate_left
        ·intro w'
         go_simp
         first | done | with_reducible rfl
        rotate_left
        ·simp only [Act.put, List.setIfInBounds_toArray, List.set_cons_zero, List.set_cons_succ, i64_w, i32_w]
         first | done | rfl
        refine nxt_ (v := ?_) (a' := ?_) rfl rfl (by kernel_rfl) (fun _ _ _ h => h) (Or.inl ⟨by rfl, ?_⟩) hHeld ?_ ?_
        rotate_left
        ·rintro w' ⟨s0, s1, s2⟩
         go_simp
         first | done | with_reducible rfl
        rotate_left
        ·simp only [Act.put, List.setIfInBounds_toArray, List.set_cons_zero, List.set_cons_succ, i64_w, i32_w]
         first | done | rfl
        iterate 3
         refine pxt_ (v := ?_) (a' := ?_) rfl rfl (by kernel_rfl) (fun _ _ _ h => h) (Or.inl ⟨by rfl, ?_⟩) ?_ ?_
         rotate_left
         ·intro w'
          go_simp
          first | done | with_reducible rfl
         rotate_left
         ·simp only [Act.put, List.setIfInBounds_toArray, List.set_cons_zero, List.set_cons_succ, i64_w, i32_w]
          first | done | rfl
        refine nxt_ (v := ?_) (a' := ?_) rfl rfl (by kernel_rfl) (fun _ _ _ h => h) (Or.inl ⟨by rfl, ?_⟩) hHeld ?_ ?_
        rotate_left
        ·rintro w' ⟨s0, s1, s2⟩
         go_simp
         first | done | with_reducible rfl
        rotate_left
        ·simp only [Act.put, List.setIfInBounds_toArray, List.set_cons_zero, List.set_cons_succ, i64_w, i32_w]
         first | done | rfl
        refine last_ (i := 13) (N := some 59) (tf15 14) rfl rfl (by kernel_rfl) (by decide) (fun K hK => ?_)
        refine goes_ Tryz.func71 (by kernel_rfl) rfl #[.pointer (some ⟨g, 0, none⟩), .int .i64 (rdT tr i).f0, .int .i64 (rdT tr kk).f0] (by rfl) rfl rfl (by first | rfl | (go_simp; done) | (go_simp; exact ⟨rfl, rfl⟩) | (go_simp; rfl)) ?_
        refine (tin_any (HTy.out.below (below_drew HB5.out)) HA.out (by omega) (rdT tr i).f0 (rdT tr kk).f0).mono ?_
        rw [HIn.out]
        rintro e6 w6 ⟨rfl, hb6⟩
        refine ⟨_, rfl, hK.out _ _ ?_⟩
        clear hK K
        have HB6 := Lib.hid (below_then (below_drew HB5.out) (by have := HB5.out.size; exact this) hb6)
        clear hb6
        refine pxt_ (v := ?_) (a' := ?_) rfl rfl (by kernel_rfl) (fun _ _ _ h => h) (Or.inl ⟨by rfl, ?_⟩) ?_ ?_
        rotate_left
        ·intro w'
         go_simp
         first | done | with_reducible rfl
        rotate_left
        ·simp only [Act.put, List.setIfInBounds_toArray, List.set_cons_zero, List.set_cons_succ, i64_w, i32_w]
         first | done | rfl
        refine done_ (by kernel_rfl) ?_
        have HO6 := Lib.hid (Kd.R_below HOy.out HB6.out)
        have HB7 := Lib.hid (below_then HB4.out HB4.out.size HB6.out)
        go_wp2_with fail
        go_roundg gh
        case measure => omega
        case rel => exact ⟨q + 1, kept, by omega, by go_num, by omega, HO6, HB7, HI3, HTh⟩
       | true =>
        have HIn : Hid ((decide (0 ≤ (rdT tr kk).f0) && inC st (rdT tr i).f0 (rdT tr kk).f0) = true) := Lib.hid hin
        rw [if_neg (by rw [hin]; simp)] at HS2
        have HS3 := Lib.hid HS2
        obtain ⟨AG, cG, rfl⟩ := Kd.R_slice HGR.out
        have hgl : G.length < 1000000 := by omega
        clear hin HS2
        refine start_ (n := 15) (S := fun w' => w'.cell? ⟨w1.heap.size, 2, none⟩ = some (.slice (some bd) tr.length cb) ∧ w'.cell? (bd.add (i.toNat * 6)) = some (.int .i64 (rdT tr i).f0) ∧ w'.cell? (bd.add (kk.toNat * 6)) = some (.int .i64 (rdT tr kk).f0)) (ds := [13]) (tf15 0) (by kernel_rfl) rfl (by kernel_rfl) ⟨z2', k0, k1⟩ (fun hHeld => ?_)
        iterate 2
         refine pxt_ (v := ?_) (a' := ?_) rfl rfl (by kernel_rfl) (fun _ _ _ h => h) (Or.inl ⟨by rfl, ?_⟩) ?_ ?_
         rotate_left
         ·intro w'
          go_simp
          first | done | with_reducible rfl
         rotate_left
         ·simp only [Act.put, List.setIfInBounds_toArray, List.set_cons_zero, List.set_cons_succ, i64_w, i32_w]
          first | done | rfl
        refine nxt_ (v := ?_) (a' := ?_) rfl rfl (by kernel_rfl) (fun _ _ _ h => h) (Or.inl ⟨by rfl, ?_⟩) hHeld ?_ ?_
        rotate_left
        ·rintro w' ⟨s0, s1, s2⟩
         go_simp
         first | done | with_reducible rfl
        rotate_left
        ·simp only [Act.put, List.setIfInBounds_toArray, List.set_cons_zero, List.set_cons_succ, i64_w, i32_w]
         first | done | rfl
        iterate 3
         refine pxt_ (v := ?_) (a' := ?_) rfl rfl (by kernel_rfl) (fun _ _ _ h => h) (Or.inl ⟨by rfl, ?_⟩) ?_ ?_
         rotate_left
         ·intro w'
          go_simp
          first | done | with_reducible rfl
         rotate_left
         ·simp only [Act.put, List.setIfInBounds_toArray, List.set_cons_zero, List.set_cons_succ, i64_w, i32_w]
          first | done | rfl
        refine nxt_ (v := ?_) (a' := ?_) rfl rfl (by kernel_rfl) (fun _ _ _ h => h) (Or.inl ⟨by rfl, ?_⟩) hHeld ?_ ?_
        rotate_left
        ·rintro w' ⟨s0, s1, s2⟩
         go_simp
         first | done | with_reducible rfl
        rotate_left
        ·simp only [Act.put, List.setIfInBounds_toArray, List.set_cons_zero, List.set_cons_succ, i64_w, i32_w]
         first | done | rfl
        refine pxt_ (v := ?_) (a' := ?_) rfl rfl (by kernel_rfl) (fun _ _ _ h => h) (Or.inl ⟨by rfl, ?_⟩) ?_ ?_
        rotate_left
        ·intro w'
         go_simp
         first | done | with_reducible rfl
        rotate_left
        ·simp only [Act.put, List.setIfInBounds_toArray, List.set_cons_zero, List.set_cons_succ, i64_w, i32_w]
         first | done | rfl
        refine nxt_ (v := ?_) (a' := ?_) rfl rfl (by kernel_rfl) (fun _ _ _ h => h) (Or.inl ⟨by rfl, ?_⟩) hHeld ?_ ?_
        rotate_left
        ·rintro w' ⟨s0, s1, s2⟩
         go_simp
         first | done | with_reducible rfl
        rotate_left
        ·simp only [Act.put, List.setIfInBounds_toArray, List.set_cons_zero, List.set_cons_succ, i64_w, i32_w]
         first | done | rfl
        iterate 3
         refine pxt_ (v := ?_) (a' := ?_) rfl rfl (by kernel_rfl) (fun _ _ _ h => h) (Or.inl ⟨by rfl, ?_⟩) ?_ ?_
         rotate_left
         ·intro w'
          go_simp
          first | done | with_reducible rfl
         rotate_left
         ·simp only [Act.put, List.setIfInBounds_toArray, List.set_cons_zero, List.set_cons_succ, i64_w, i32_w]
          first | done | rfl
        refine nxt_ (v := ?_) (a' := ?_) rfl rfl (by kernel_rfl) (fun _ _ _ h => h) (Or.inl ⟨by rfl, ?_⟩) hHeld ?_ ?_
        rotate_left
        ·rintro w' ⟨s0, s1, s2⟩
         go_simp
         first | done | with_reducible rfl
        rotate_left
        ·simp only [Act.put, List.setIfInBounds_toArray, List.set_cons_zero, List.set_cons_succ, i64_w, i32_w]
         first | done | rfl
        refine last_ (i := 13) (N := some 59) (tf15 14) rfl rfl (by kernel_rfl) (by decide) (fun K hK => ?_)
        refine goes_ Tryz.func71 (by kernel_rfl) rfl #[.pointer (some ⟨g, 0, none⟩), .int .i64 (rdT tr i).f0, .int .i64 (rdT tr kk).f0] (by rfl) rfl rfl (by first | rfl | (go_simp; done) | (go_simp; exact ⟨rfl, rfl⟩) | (go_simp; rfl)) ?_
        refine (tin_any (HTy.out.below (below_drew HB5.out)) HA.out (by omega) (rdT tr i).f0 (rdT tr kk).f0).mono ?_
        rw [HIn.out]
        rintro e6 w6 ⟨rfl, hb6⟩
        refine ⟨_, rfl, hK.out _ _ ?_⟩
        clear hK K
        have HB6 := Lib.hid (below_then (below_drew HB5.out) (by have := HB5.out.size; exact this) hb6)
        clear hb6
        refine pxt_ (v := ?_) (a' := ?_) rfl rfl (by kernel_rfl) (fun _ _ _ h => h) (Or.inl ⟨by rfl, ?_⟩) ?_ ?_
        rotate_left
        ·intro w'
         go_simp
         first | done | with_reducible rfl
        rotate_left
        ·simp only [Act.put, List.setIfInBounds_toArray, List.set_cons_zero, List.set_cons_succ, i64_w, i32_w]
         first | done | rfl
        refine done_ (by kernel_rfl) ?_
        have hgb6 := (HB6.out.block _ (lt_of_block HGB.out)).trans HGB.out
        have HGR6 := Lib.hid (Kd.R_below HGR.out HB6.out)
        have HBy6 := Lib.hid (below_then HBy.out HBy.out.size HB6.out)
        have hs6 := lt_of_block hgb6
        have y6 : w6.cell? ⟨wo.heap.size, 0, none⟩ = some (.slice AG G.length cG) := blk_cell hgb6 0
        have HGB6 := Lib.hid hgb6
        clear hgb6
        go_wp2_with (at_builtin; refine inn_append rfl (.tmp 61) (.tmp 63) rfl (wo.heap.size + 1) _ G kk rfl _ rfl rfl HGR6.out (by omega) hgl ?_)
        intro v8 w8 h8 hb8 _
        obtain ⟨G2, hG2⟩ : ∃ G2 : List Int, G2 = G ++ [kk] := ⟨_, rfl⟩
        rw [← hG2] at h8
        have hl2 : G2.length ≤ k + 1 := by rw [hG2, List.length_append, List.length_singleton]; omega
        have HS4 : Hid (siK st tr set i (kept.drop (k + 1)) G2 = siK st tr set i kept []) := Lib.hid (by rw [hG2]; exact HS3.out)
        obtain ⟨A8, c8, rfl⟩ := Kd.R_slice h8
        have hgb8 := (hb8.block _ (by omega)).trans HGB6.out
        have y8 : w8.cell? ⟨wo.heap.size, 0, none⟩ = some (.slice AG G.length cG) := blk_cell hgb8 0
        have f8 : w8.frozen? ⟨wo.heap.size, 0, none⟩ = false := blk_free hgb8 0
        have HGB9 : Hid ((w8.setCell ⟨wo.heap.size, 0, none⟩ (.slice A8 G2.length c8)).heap[wo.heap.size]? = some (.cells #[.slice A8 G2.length c8] 35 (0, 0))) := Lib.hid (blk_set hgb8 0 _)
        have HGR9 : Hid (InnR (w8.setCell ⟨wo.heap.size, 0, none⟩ (.slice A8 G2.length c8)) (wo.heap.size + 1) (.slice A8 G2.length c8) G2) := Lib.hid (Kd.R_set h8 hgb8 (by decide) 0 _)
        have HBy9 := Lib.hid ((HBy6.out.trans (hb8.mono (by omega))).setCell (p := ⟨wo.heap.size, 0, none⟩) (Nat.le_refl _) (.slice A8 G2.length c8))
        clear h8 hb8 hgb8 y6 hG2 HS3
        go_wp2_with fail
        go_roundg g1
        case measure => omega
        case rel => exact ⟨k + 1, G2, _, by omega, by go_num, rfl, hl2, HGB9, HGR9, HBy9, HS4⟩
   ·rw [if_pos hth] at HI2
    have HI := Lib.hid HI2
    by_cases c1 : i < 0
    ·have d1 : decide (i < 0) = true := decide_eq_true c1
     clear HI2 hth c1
     go_wp2_with fail
     go_roundg gh
     case measure => omega
     case rel => exact ⟨q + 1, kept, by omega, by go_num, by omega, HO, HB, HI, HTh⟩
    ·have c2 : (tr.length : Int) ≤ i := Int.not_lt.1 (fun h => hth ⟨by omega, h⟩)
     have d1 : decide (i < 0) = false := decide_eq_false c1
     have d2 : decide (i ≥ (tr.length : Int)) = true := decide_eq_true c2
     have d2' : decide ((tr.length : Int) ≤ i) = true := decide_eq_true c2
     clear HI2 hth c1 c2
     go_wp2_with fail
     go_roundg gh
     case measure => omega
     case rel => exact ⟨q + 1, kept, by omega, by go_num, by omega, HO, HB, HI, HTh⟩
end
end Go.Proofs.YtcjlpkegkehghaaGreatDoor
end
section
namespace Go.Proofs.YtcjlpkegkehghaaGreatDoor
open Go.RowKit Go.Proofs.YtcjlpkegkehghaaGreatDoorW.PrintWords Go.Proofs.YtcjlpkegkehghaaGreatDoorW.PrintLast
open PX (T V)
namespace Ent
end Ent
structure AdC (wB : World) (g : Nat) (v : Int) (A B : Option Addr) (ca cb : Nat) (st : List Sta) (tr : List Tra) (H : Option Addr) (hc : Nat) (hs : List Int) : Prop where
 T : TrM wB g v st tr
 M : ChM wB A ca st B cb tr
 H : (Kd.int .u32).C wB H hs.length hs
 hc : hs.length ≤ hc
 hl : hs.length ≤ 100000
 hb : ∀ x ∈ hs, 0 ≤ x ∧ x < 4294967296
 laid : LaidZ wB
 good : chkP v st tr = .none
abbrev adO (g : Nat) (v : Int) (A B : Option Addr) (n m ca cb : Nat) (H : Option Addr) (k hc : Nat) (S : Ent.ES) : Obj :=
 .cells #[.pointer (some ⟨g, 0, none⟩), .int .i64 v, .slice A n ca, .slice B m cb, .slice H k hc, .int .u32 (S.1 : Int), .int .i64 (S.2 : Int)] 127 (0, 0)
structure AdM (wB : World) (g : Nat) (v : Int) (A B : Option Addr) (n m ca cb : Nat) (H : Option Addr) (k hc : Nat) (w : World) (S : Ent.ES) : Prop where
 low : Below wB.heap.size wB w
 blk : w.heap[wB.heap.size]? = some (adO g v A B n m ca cb H k hc S)
 set : S.1 < 4294967296
 left : S.2 ≤ 4000
theorem AdM.step {wB : World} {g : Nat} {v : Int} {A B : Option Addr} {n m ca cb : Nat} {H : Option Addr} {k hc : Nat} {w w' : World} {S : Ent.ES} (h : AdM wB g v A B n m ca cb H k hc w S) (hb : Below w.heap.size w w') : AdM wB g v A B n m ca cb H k hc w' S :=
 ⟨below_then h.low h.low.size hb, (hb.block _ (lt_of_block h.blk)).trans h.blk, h.set, h.left⟩
theorem AdM.cells {wB : World} {g : Nat} {v : Int} {A B : Option Addr} {n m ca cb : Nat} {H : Option Addr} {k hc : Nat} {w : World} {S : Ent.ES} (h : AdM wB g v A B n m ca cb H k hc w S) :
  w.cell? ⟨wB.heap.size, 0, none⟩ = some (.pointer (some ⟨g, 0, none⟩)) ∧ w.cell? ⟨wB.heap.size, 1, none⟩ = some (.int .i64 v) ∧ w.cell? ⟨wB.heap.size, 2, none⟩ = some (.slice A n ca) ∧ w.cell? ⟨wB.heap.size, 3, none⟩ = some (.slice B m cb) ∧
   w.cell? ⟨wB.heap.size, 4, none⟩ = some (.slice H k hc) ∧ w.cell? ⟨wB.heap.size, 5, none⟩ = some (.int .u32 (S.1 : Int)) ∧ w.cell? ⟨wB.heap.size, 6, none⟩ = some (.int .i64 (S.2 : Int)) ∧ w.frozen? ⟨wB.heap.size, 5, none⟩ = false ∧ w.frozen? ⟨wB.heap.size, 6, none⟩ = false :=
 ⟨blk_cell h.blk 0, blk_cell h.blk 1, blk_cell h.blk 2, blk_cell h.blk 3, blk_cell h.blk 4, blk_cell h.blk 5, blk_cell h.blk 6, blk_free h.blk 5, blk_free h.blk 6⟩
end Go.Proofs.YtcjlpkegkehghaaGreatDoor
end
section
namespace Go.Proofs.YtcjlpkegkehghaaGreatDoor
open Go.RowKit Go.Proofs.YtcjlpkegkehghaaGreatDoorW.PrintWords Go.Proofs.YtcjlpkegkehghaaGreatDoorW.PrintLast
open PX (T V)
structure RC (w : World) (A B : Option Addr) (ca cb : Nat) (st : List Sta) (tr : List Tra) (H : Option Addr) (hc : Nat) (hs : List Int) : Prop where
 M : ChM w A ca st B cb tr
 H : (Kd.int .u32).C w H hs.length hs
 hc : hs.length ≤ hc
 hl : hs.length ≤ 100000
 hb : ∀ x ∈ hs, 0 ≤ x ∧ x < 4294967296
end Go.Proofs.YtcjlpkegkehghaaGreatDoor
end
section
namespace Go.Proofs.YtcjlpkegkehghaaGreatDoor
open Go.RowKit Go.Proofs.YtcjlpkegkehghaaGreatDoorW.PrintWords
theorem numArg {w : World} {v : Value} {xs : List Int} (h : (Rep.int .i64).slice.ok (fun b => b < w.heap.size) w [v] xs) :
  ∃ A cap, v = .slice A xs.length cap ∧ xs.length ≤ cap ∧ NumsC w A xs.length xs ∧ ∀ x ∈ xs, -9223372036854775808 ≤ x ∧ x ≤ 9223372036854775807 := by
 obtain ⟨A, cap, hv, hA⟩ := Rep.slice_open h
 by_cases h0 : 0 < xs.length
 ·obtain ⟨b, off, rfl, hb, hlt, hc1, hc2, hel⟩ := hA h0
  unfold maxLen at hc2
  have hel' : ∀ i (hi : i < xs.length), w.cell? ⟨b, off + i, none⟩ = some (.int .i64 xs[i]) ∧ (Lit.int .i64 xs[i]).wf = true := by
   intro i hi
   obtain ⟨c, hc, hcell, hok⟩ := hel i hi
   obtain ⟨rfl, hw⟩ := hok
   have := hcell 0 (by simp)
   have hs : (Rep.int .i64).size = 1 := rfl
   rw [hs, Nat.mul_one] at this
   exact ⟨this, hw⟩
  refine ⟨some ⟨b, off, none⟩, cap, hv, hc1, ⟨rfl, by omega, fun _ => ⟨⟨b, off, none⟩, rfl, ?_⟩⟩, ?_⟩
  ·intro j p hj
   obtain ⟨hjl, rfl⟩ := List.getElem?_eq_some_iff.1 hj
   refine ⟨[.int .i64 xs[j]], rfl, rfl, ?_⟩
   intro i u hi
   rw [add_at]
   match i, hi with
   | 0, hi =>
    simp at hi; subst hi
    have := (hel' j hjl).1
    simpa [Kd.int, Kd.scalar] using this
   | n + 1, hi => simp at hi
  ·intro t ht
   obtain ⟨j, hj, rfl⟩ := List.mem_iff_getElem.1 ht
   exact bounds_i64 (hel' j hj).2
 ·have hx : xs = [] := by cases xs with
   | nil => rfl
   | cons a l => simp at h0
  subst hx
  exact ⟨A, cap, hv, Nat.zero_le _, ⟨rfl, by simp, fun h => by simp at h⟩, fun t ht => by cases ht⟩
end Go.Proofs.YtcjlpkegkehghaaGreatDoor
end
section
namespace Go.Proofs.YtcjlpkegkehghaaGreatDoor
open Go.RowKit Go.Proofs.YtcjlpkegkehghaaGreatDoorW.PrintWords
open PX (T V)
theorem parsed_det {s : List UInt8} {r r' : List T × Er} (h : Parsed s r) (h' : Parsed s r') : r = r' := by
 unfold Parsed at h h'
 cases hx : (lexed s).2 with
 | none =>
  rw [hx] at h h'
  obtain ⟨R, hR, rfl⟩ := h
  obtain ⟨R', hR', rfl⟩ := h'
  rw [PX.Pr.det hR hR']
 | code c => rw [hx] at h h'; rw [h, h']
 | spot a c => rw [hx] at h h'; rw [h, h']
theorem parseT_eq {s : ByteArray} {r : List T × Er} (h : Parsed s.data.toList r) : parseT s = r := parsed_det (parseT_ok s) h
end Go.Proofs.YtcjlpkegkehghaaGreatDoor
end
section
namespace Go.Proofs.YtcjlpkegkehghaaGreatDoor
open Go.RowKit Go.Proofs.YtcjlpkegkehghaaGreatDoorW.PrintWords
open PX (T V)
theorem parsed_g : Parsed [49, 47, 48, 60, 49] ([⟨1, 1, 0⟩, ⟨1, 0, 0⟩, ⟨6, 0, 0⟩, ⟨1, 1, 0⟩, ⟨8, 0, 0⟩], .none) :=
 parsed_run 9 30 _ [⟨1, 1, 0⟩, ⟨6, 0, 1⟩, ⟨1, 0, 2⟩, ⟨8, 0, 3⟩, ⟨1, 1, 4⟩] ⟨5, [⟨1, 1, 0⟩, ⟨1, 0, 0⟩, ⟨6, 0, 0⟩, ⟨1, 1, 0⟩, ⟨8, 0, 0⟩], false⟩ (by decide) (by rfl) (by rfl)
abbrev gd10 : ByteArray := ⟨#[49, 47, 48, 60, 49]⟩
abbrev tr10 : List Tra := [⟨1, 1, gd10, [], false, []⟩]
theorem typ10 : typP gd10 2 0 = true := by
 unfold typP
 rw [parseT_eq (s := gd10) parsed_g]
 kernel_rfl
theorem chk10 : chkP 0 least2 tr10 = .none := by
 have a0 : stateP 0 least2 0 = 0 := by simp [stateP, parP, kidsP, kidsF, iniP, histP, inC, inF, actsP, PAll.rd_T93, rd]
 have a1 : stateP 0 least2 1 = 0 := by simp [stateP, parP, kidsP, kidsF, iniP, histP, inC, inF, actsP, PAll.rd_T93, rd]
 have a2 : transP 0 least2 ⟨1, 1, gd10, [], false, []⟩ = 0 := by simp [transP, tgtP, tgtF, typ10, actsP, PAll.rd_T93]
 unfold chkP
 rw [if_neg (by simp)]
 simp [findBad, a0, a1, a2, PAll.rd_T46]
theorem few10 : fewP least2 tr10 = true := by decide
theorem lv10 : lvP least2 3 = [1] := by decide
theorem up10l : upP least2 1 = [0] := by decide
theorem rdy10a : rdyP ⟨1, 1, gd10, [], false, []⟩ [] 2 = (false, false) := by
 unfold rdyP; rw [if_pos (.inl (by decide))]; rfl
theorem gd10_some : gd10.toList.isEmpty = false := by kernel_rfl
theorem rdy10b : rdyP ⟨1, 1, gd10, [], false, []⟩ [] 1 = (false, true) := by
 unfold rdyP
 rw [if_neg (by rintro (h | h); exact h rfl; exact absurd (h.symm.trans gd10_some) (by decide)), parseT_eq (s := gd10) parsed_g]
 kernel_rfl
theorem ga10a : gaP least2 tr10 3 [] 2 = ([], 0) := by
 unfold gaP
 rw [lv10]
 simp [gaF, up10l, scS, scT, rdy10a, addI, one01]
theorem ga10b : gaP least2 tr10 3 [] 1 = ([], 1) := by
 unfold gaP
 rw [lv10]
 simp [gaF, up10l, scS, scT, rdy10b, addI, one01]
theorem sift_nil (w : World) (x : Int) (S : Option Addr) (a b : Nat) : Calls Tryz.prog 23 #[.pointer none, .int .u32 x, .slice S a b] w fun e w' => e = .returned (.slice none 0 0) ∧ w' = w := by
 go_enter Tryz.func23, Tryz.ntmps23
 go_wp2_with fail
 go_ret
 exact ⟨rfl, rfl⟩
theorem trans10 {W : World} {g : Nat} {ty : Nat} (h : W.heap[g]? = some (.cells #[.int .i64 1, .int .i64 1, .string gd10, .slice none 0 0, .bool false, .slice none 0 0] ty (0, 0))) : PAll.k46.C W (some ⟨g, 0, none⟩) tr10.length tr10 := by
 refine ⟨rfl, by decide, fun _ => ⟨_, rfl, ?_⟩⟩
 intro j p hj
 match j, hj with
 | 0, hj =>
  obtain rfl := Option.some.inj hj
  refine ⟨_, rfl, PAll.k46_mk W _ (A3 := none) (c3 := 0) (Nat.le_refl _) (nilC _ W) (A5 := none) (c5 := 0) (Nat.le_refl _) (nilC _ W), ?_⟩
  intro i u hi
  have e : (⟨g, 0, none⟩ : Addr).add (0 * PAll.k46.sz + i) = ⟨g, i, none⟩ := by
   rw [Nat.zero_mul, Nat.zero_add]
   simp only [Addr.add]
   split <;> simp_all
  rw [e, blk_cell h]
  match i, hi with
  | 0, hu => exact hu
  | 1, hu => exact hu
  | 2, hu => exact hu
  | 3, hu => exact hu
  | 4, hu => exact hu
  | 5, hu => exact hu
  | n + 6, hu => simp at hu
 | n + 1, hj => simp at hj
theorem up10 (w : World) (hw : Laid w) : Calls Tryz.prog 15 #[] w fun e w' => e = .returned (.bool true) ∧ Below w.heap.size w w' := by
 have k6 := eqErr
 have HW := Lib.hid hw
 clear hw
 go_enter Tryz.func15, Tryz.ntmps15
 go_wp2_with fail
 have e1 : (w.alloc (.cells #[.int .i64 1] 3)).heap.size = w.heap.size + 1 := by simp
 have k1 := blk_new w (.cells #[.int .i64 1] 3)
 have b1 : Below w.heap.size w (w.alloc (.cells #[.int .i64 1] 3)) := (Below.refl _ w).alloc (Nat.le_refl _) _
 generalize w.alloc (.cells #[.int .i64 1] 3) = w1 at e1 k1 b1 ⊢
 have e2 : (w1.alloc (.cells #[.int .i64 2, .int .i64 (-1), .slice (some ⟨w.heap.size, 0, none⟩) 1 1, .slice none 0 0, .slice none 0 0, .int .i64 1, .int .i64 0, .slice none 0 0, .slice none 0 0, .slice none 0 0] 93)).heap.size = w.heap.size + 1 + 1 := by simp [e1]
 have k2 := blk_new w1 (.cells #[.int .i64 2, .int .i64 (-1), .slice (some ⟨w.heap.size, 0, none⟩) 1 1, .slice none 0 0, .slice none 0 0, .int .i64 1, .int .i64 0, .slice none 0 0, .slice none 0 0, .slice none 0 0] 93)
 have b2 : Below w1.heap.size w1 (w1.alloc (.cells #[.int .i64 2, .int .i64 (-1), .slice (some ⟨w.heap.size, 0, none⟩) 1 1, .slice none 0 0, .slice none 0 0, .int .i64 1, .int .i64 0, .slice none 0 0, .slice none 0 0, .slice none 0 0] 93)) := (Below.refl _ w1).alloc (Nat.le_refl _) _
 rw [e1] at k2
 generalize w1.alloc (.cells #[.int .i64 2, .int .i64 (-1), .slice (some ⟨w.heap.size, 0, none⟩) 1 1, .slice none 0 0, .slice none 0 0, .int .i64 1, .int .i64 0, .slice none 0 0, .slice none 0 0, .slice none 0 0] 93) = w2 at e2 k2 b2 ⊢
 have k3 := blk_new w2 (.cells #[.int .i64 1, .int .i64 1, .string gd10, .slice none 0 0, .bool false, .slice none 0 0] 46)
 have b3 : Below w2.heap.size w2 (w2.alloc (.cells #[.int .i64 1, .int .i64 1, .string gd10, .slice none 0 0, .bool false, .slice none 0 0] 46)) := (Below.refl _ w2).alloc (Nat.le_refl _) _
 rw [e2] at k3
 generalize w2.alloc (.cells #[.int .i64 1, .int .i64 1, .string gd10, .slice none 0 0, .bool false, .slice none 0 0] 46) = w3 at k3 b3 ⊢
 have c1 := (b3.block _ (by omega)).trans ((b2.block _ (by omega)).trans k1)
 have c2 := (b3.block _ (by omega)).trans k2
 have HB3 := Lib.hid (below_then (below_then b1 (by omega) b2) (by omega) b3)
 have HM : Hid (ChM w3 (some ⟨w.heap.size + 1, 0, none⟩) 2 least2 (some ⟨w.heap.size + 1 + 1, 0, none⟩) 1 tr10) := Lib.hid ⟨states2 (i0 := [1]) c2 (by simp) (one_new c1), Nat.le_refl _, trans10 k3, Nat.le_refl _⟩
 clear e1 k1 b1 e2 k2 b2 k3 b3 c1 c2
 refine (tnew_any 0 _ _ 2 1 least2 tr10 few10 w3 (HW.out.below HB3.out) HM.out).mono ?_
 rintro e w4 ⟨⟨p, ev, rfl, h⟩, hb4⟩
 rcases h with ⟨_, g, rfl, rfl, hg, hT⟩ | ⟨h, _⟩
 rotate_left
 ·exact absurd chk10 h
 have HT := Lib.hid hT
 have HB4 := Lib.hid (below_then HB3.out HB3.out.size hb4)
 clear hT hb4 HM
 go_wp2_with fail
 refine (gather_any HT.out chk10 few10 (HW.out.below HB4.out) 3 (by decide) none 0 [] (nilC _ _) 2).mono ?_
 rw [ga10a]
 rintro e w5 ⟨u, rfl, hu, hb5⟩
 obtain ⟨B5, c5, rfl⟩ := Kd.R_slice hu
 have HT5 := Lib.hid (HT.out.below hb5)
 have HB5 := Lib.hid (below_then HB4.out HB4.out.size hb5)
 clear hu hb5
 go_wp2_with fail
 refine (gather_any HT5.out chk10 few10 (HW.out.below HB5.out) 3 (by decide) none 0 [] (nilC _ _) 1).mono ?_
 rw [ga10b]
 rintro e w6 ⟨u, rfl, hu, hb6⟩
 have HB6 := Lib.hid (below_then HB5.out HB5.out.size hb6)
 clear hu hb6
 go_wp2_with fail
 refine (sift_nil _ 3 _ 1 1).mono ?_
 rintro e w7 ⟨rfl, rfl⟩
 go_wp2_with fail
 go_ret
 exact ⟨rfl, HB6.out.alloc HB6.out.size _⟩
end Go.Proofs.YtcjlpkegkehghaaGreatDoor
end
section
namespace Go.Proofs.YtcjlpkegkehghaaGreatDoor
open Go.RowKit Go.Proofs.YtcjlpkegkehghaaGreatDoorW.PrintWords Go.Proofs.YtcjlpkegkehghaaGreatDoorW.PrintLast
open PX (T V)
theorem gaF_len (st : List Sta) (tr : List Tra) (env : List Int) (ev : Int) (l : List Int) : ∀ (out : List Int) (n : Nat), (gaF st tr env ev l out n).1.length ≤ out.length + l.length := by
 induction l with
 | nil => intro out n; simp [gaF]
 | cons a l ih =>
  intro out n
  simp only [gaF, List.length_cons]
  have h1 := ih (addI out (scS tr env ev (a :: upP st a) n).1) (scS tr env ev (a :: upP st a) n).2
  have h2 := addI_len out (scS tr env ev (a :: upP st a) n).1
  omega
theorem siF_len (st : List Sta) (tr : List Tra) (set : Nat) (l : List Int) : ∀ kept : List Int, (siF st tr set l kept).length ≤ kept.length + l.length := by
 induction l with
 | nil => intro kept; simp [siF]
 | cons i l ih =>
  intro kept
  simp only [siF, List.length_cons]
  split
  ·have := ih kept; omega
  ·split
   ·have h1 := ih (sift kept (siK st tr set i kept []).2 i)
    have h2 : (sift kept (siK st tr set i kept []).2 i).length ≤ kept.length + 1 := by
     unfold sift
     have := List.length_filter_le (fun k => !(siK st tr set i kept []).2.contains k) kept
     rw [List.length_append, List.length_singleton]; omega
    omega
   ·have := ih kept; omega
theorem any_snoc {α : Type} (p : α → Bool) (l : List α) (q : Nat) (h : q < l.length) : (l.take (q + 1)).any p = ((l.take q).any p || p l[q]) := by
 rw [List.take_succ_eq_append_getElem h, List.any_append]; simp
theorem has_snoc (a : Int) (l : List Int) (q : Nat) (h : q < l.length) : (l.take (q + 1)).contains a = ((l.take q).contains a || l[q] == a) := by
 rw [List.take_succ_eq_append_getElem h, List.contains_append]
 congr 1
 rw [List.contains_cons, List.contains_nil, Bool.or_false, Bool.eq_iff_iff, beq_iff_eq, beq_iff_eq]
 exact eq_comm
theorem nums_q {w : World} {ad : Addr} {l : List Int} (h : NumsC w (some ad) l.length l) {q : Nat} {x : Int} (hq : l[q]? = some x) : w.cell? (ad.add q) = some (.int .i64 x) := by
 obtain ⟨hlt, rfl⟩ := List.getElem?_eq_some_iff.1 hq
 obtain ⟨ad', e, hc⟩ := nums_at h q hlt
 obtain rfl := Option.some.inj e
 exact hc
def gdd (x : Tra) : Bool := !x.f2.toList.isEmpty
theorem ChooseKept_walk (w : World) (hw : Laid w) (cs : Array Value) (x0 : Int × List StaT × List TraT × Unit) (v1 v2 v3 : Value) (x1 : Int) (env : List Int) (ev : Int) (h0 : RChart.ok (fun b => b < w.heap.size) w cs.toList x0) (h1 : (Rep.int .u32).ok (fun b => b < w.heap.size) w [v1] x1) (h2 : (Rep.int .i64).slice.ok (fun b => b < w.heap.size) w [v2] env) (h3 : (Rep.int .i64).ok (fun b => b < w.heap.size) w [v3] ev) :
  Calls Tryz.prog 5 #[.agg cs, v1, v2, v3] w fun e w' => e = .returned (.bool true) ∧ Below w.heap.size w w' := by
 obtain ⟨A, ca, B, cb, st, tr, hcs, hM⟩ := chartArg h0
 obtain ⟨E, ecap, rfl, hec, hE, _⟩ := numArg h2
 obtain ⟨h3, _⟩ := h3
 obtain rfl : v3 = .int .i64 ev := by simpa using h3
 obtain ⟨h1, hx1⟩ := h1
 have hx1b := bounds_u32 hx1
 obtain ⟨set, rfl⟩ : ∃ n : Nat, x1 = (n : Int) := ⟨x1.toNat, by omega⟩
 obtain rfl : v1 = .int .u32 (set : Int) := by simpa using h1
 have hset : set < 4294967296 := by omega
 rw [hcs]
 generalize x0.1 = v at *
 clear h0 hcs h1 h2 h3 hx1 hx1b
 have hb0 : Below w.heap.size w (w.alloc (.cells #[.int .i64 v, .slice A st.length ca, .slice B tr.length cb] 25)) := (Below.refl _ w).alloc (Nat.le_refl _) _
 have HB0 := Lib.hid hb0
 have HWE := Lib.hid (hw.below hb0)
 have HM := Lib.hid (hM.below hb0)
 have HE := Lib.hid (Kd.C_below hE hb0)
 have HG := Lib.hid (blk_new w (.cells #[.int .i64 v, .slice A st.length ca, .slice B tr.length cb] 25))
 clear hb0 hw hM hE
 go_enter Tryz.func5, Tryz.ntmps5
 go_wp2_with fail
 generalize w.alloc (.cells #[.int .i64 v, .slice A st.length ca, .slice B tr.length cb] 25) = w0 at HB0 HWE HM HE HG ⊢
 have hfin : ∀ wr, Below w0.heap.size w0 wr → Below w.heap.size w wr := fun wr h => HB0.out.trans (h.mono HB0.out.size)
 have HFin := Lib.hid hfin
 clear hfin
 refine (up10 _ HWE.out).mono ?_
 rintro e w1 ⟨rfl, hb1⟩
 have HB1 := Lib.hid hb1
 have hk := (hb1.block _ (lt_of_block HG.out)).trans HG.out
 obtain ⟨y0, y1, y2⟩ : w1.cell? ⟨w.heap.size, 0, none⟩ = some (.int .i64 v) ∧ w1.cell? ⟨w.heap.size, 1, none⟩ = some (.slice A st.length ca) ∧ w1.cell? ⟨w.heap.size, 2, none⟩ = some (.slice B tr.length cb) := ⟨blk_cell hk 0, blk_cell hk 1, blk_cell hk 2⟩
 clear hk hb1
 go_wp2_with fail
 refine (fewc_any (HM.out.below HB1.out) v).mono ?_
 cases hf : fewP st tr with
 | false =>
  rintro e w2 ⟨rfl, hb2⟩
  go_wp2_with fail
  go_ret
  exact ⟨rfl, HFin.out _ (below_then HB1.out HB1.out.size hb2)⟩
 | true =>
  have HF := Lib.hid hf
  clear hf
  rintro e w2 ⟨rfl, hb2⟩
  have HB2 := Lib.hid (below_then HB1.out HB1.out.size hb2)
  clear y0 y1 y2 hb2
  by_cases c1 : (env.length : Int) > 40
  ·have d1 : decide ((env.length : Int) > 40) = true := decide_eq_true c1
   clear c1
   go_wp2_with fail
   go_ret
   exact ⟨rfl, HFin.out _ HB2.out⟩
  have d1 : decide ((env.length : Int) > 40) = false := decide_eq_false c1
  have hk := (HB2.out.block _ (lt_of_block HG.out)).trans HG.out
  obtain ⟨y0, y1, y2⟩ : w2.cell? ⟨w.heap.size, 0, none⟩ = some (.int .i64 v) ∧ w2.cell? ⟨w.heap.size, 1, none⟩ = some (.slice A st.length ca) ∧ w2.cell? ⟨w.heap.size, 2, none⟩ = some (.slice B tr.length cb) := ⟨blk_cell hk 0, blk_cell hk 1, blk_cell hk 2⟩
  clear hk c1
  go_wp2_with fail
  refine (tnew_any v A B ca cb st tr HF.out _ (HWE.out.below HB2.out) (HM.out.below HB2.out)).mono ?_
  rintro e w3 ⟨⟨p, er, rfl, h⟩, hb3⟩
  have HB3 := Lib.hid (below_then HB2.out HB2.out.size hb3)
  clear y0 y1 y2 hb3
  rcases h with ⟨he, g, rfl, rfl, hg, hT⟩ | ⟨he, rfl, hev⟩
  rotate_left
  ·rcases er_some hev he with ⟨c, rfl⟩ | ⟨c, rfl⟩
   all_goals
    clear hev he
    go_wp2_with fail
    go_ret
    exact ⟨rfl, HFin.out _ HB3.out⟩
  have HT := Lib.hid hT
  have HGood := Lib.hid he
  obtain ⟨⟨_, _, hn1, hn, hn2⟩, _⟩ := chk_none he
  clear hT he hg
  have hgl := gaF_len st tr env ev (lvP st set) [] 0
  have hll := lvN_len st set st.length
  obtain ⟨hnd, hok⟩ := ga_ok (st := st) (tr := tr) (set := set) (env := env) (ev := ev)
  have hnone := ga_none (st := st) (tr := tr) (set := set) (env := env) (ev := ev)
  go_wp2_with fail
  refine (gather_any HT.out HGood.out HF.out (HWE.out.below HB3.out) set hset E ecap env (Kd.C_below HE.out HB3.out) ev).mono ?_
  change (gaP st tr set env ev).1.length ≤ _ at hgl
  generalize gaP st tr set env ev = gp at *
  obtain ⟨la, n⟩ := gp
  simp only at hnd hok hnone hgl ⊢
  have hlal : la.length ≤ 24 := by unfold lvP at hgl; simp at hgl; omega
  obtain ⟨hap, hsub⟩ := si_ok (st := st) (tr := tr) (set := set) hnd
  have hsome := si_some (st := st) (tr := tr) (set := set) (l := la) (fun i hi => (hok i hi).1)
  have hkl : (siP st tr set la).length ≤ 24 := by have := siF_len st tr set la []; unfold siP; simp at this; omega
  have HOk := Lib.hid hok
  have HNone := Lib.hid hnone
  have HAp := Lib.hid hap
  have HSub := Lib.hid hsub
  have HSome := Lib.hid hsome
  clear hnd hok hnone hgl hll hap hsub hsome
  rintro e w4 ⟨uL, rfl, hu, hb4⟩
  obtain ⟨AL, cL, rfl⟩ := Kd.R_slice hu
  obtain ⟨_, _, hCL⟩ := Kd.R_reads' hu
  have HCL := Lib.hid hCL
  have HB4 := Lib.hid (below_then HB3.out HB3.out.size hb4)
  have HT4 := Lib.hid (HT.out.below hb4)
  clear hu hb4 hCL HT
  go_wp2_with fail
  refine (sift_any HT4.out HGood.out HF.out set hset AL cL la HCL.out (by omega)).mono ?_
  generalize siP st tr set la = ks at *
  rintro e w5 ⟨uK, rfl, hu, hb5⟩
  obtain ⟨AK, cK, rfl⟩ := Kd.R_slice hu
  obtain ⟨_, _, hCK⟩ := Kd.R_reads' hu
  have HCK := Lib.hid hCK
  have HB5 := Lib.hid (below_then HB4.out HB4.out.size hb5)
  have HT5 := Lib.hid (HT4.out.below hb5)
  have HCL5 := Lib.hid (Kd.C_below HCL.out hb5)
  clear hu hb5 hCK HT4 HCL
  go_wp2_with fail
  go_loopg [16] ks.length (fun gh i wr => ∃ q : Nat, q + gh = ks.length ∧ i = .int .i64 q ∧ Hid (Below w5.heap.size w5 wr))
  case atStart => exact ⟨0, by omega, rfl, Lib.hid (Below.refl _ _)⟩
  case round =>
   obtain ⟨q, hqg, rfl, HB⟩ := hrel
   obtain ⟨wo, rfl⟩ : ∃ wo : World, wo = wr := ⟨_, rfl⟩
   have HBo := Lib.hid (below_then HB5.out HB5.out.size HB.out)
   cases gk with
   | zero =>
    obtain rfl : q = ks.length := by omega
    have p1 : ((ks.length : Int) < (ks.length : Int)) = False := eq_false (by omega)
    have hk := (HBo.out.block _ (lt_of_block HG.out)).trans HG.out
    have y2 : wo.cell? ⟨w.heap.size, 2, none⟩ = some (.slice B tr.length cb) := blk_cell hk 2
    have HMo := Lib.hid (HM.out.below HBo.out)
    clear hk
    go_wp2_with fail
    go_loopg [22, 23] tr.length (fun g1 gd i wy => ∃ (p : Nat) (b : Bool), p + g1 = tr.length ∧ i = .int .i64 p ∧ gd = .bool b ∧ Hid (b = (tr.take p).any gdd) ∧ wo = wy)
    case atStart => exact ⟨0, false, by omega, rfl, rfl, Lib.hid (by simp), rfl⟩
    case round =>
     obtain ⟨p, b, hpg, rfl, rfl, HBv, rfl⟩ := hrel
     cases gk with
     | zero =>
      obtain rfl : p = tr.length := by omega
      have p3 : ((tr.length : Int) < (tr.length : Int)) = False := eq_false (by omega)
      have HBn : Hid (b = false → n = 0) := Lib.hid (fun hb => HNone.out (fun x hx => by
       have h := HBv.out
       rw [hb, List.take_length] at h
       have h2 := List.any_eq_false.1 h.symm x hx
       simpa [gdd] using h2))
      have HLz : Hid (¬ la = [] → 0 < ks.length) := Lib.hid (fun h => List.length_pos_iff.2 (HSome.out h))
      clear HBv
      by_cases hla : la = []
      ·subst hla
       cases b with
       | true =>
        go_wp2_with fail
        go_ret
        exact ⟨rfl, HFin.out _ HBo.out⟩
       | false =>
        obtain rfl := HBn.out rfl
        go_wp2_with fail
        go_ret
        exact ⟨rfl, HFin.out _ HBo.out⟩
      ·have hkp := HLz.out hla
       have hlp : 0 < la.length := List.length_pos_iff.2 hla
       have d2 : ((la.length : Int) == 0) = false := by rw [beq_eq_false_iff_ne]; omega
       have d3 : decide ((ks.length : Int) > 0) = true := decide_eq_true (by omega)
       have d3' : decide (0 < (ks.length : Int)) = true := decide_eq_true (by omega)
       have d3'' : decide (0 < ks.length) = true := decide_eq_true hkp
       clear hla
       cases b with
       | true =>
        go_wp2_with fail
        go_ret
        exact ⟨rfl, HFin.out _ HBo.out⟩
       | false =>
        obtain rfl := HBn.out rfl
        go_wp2_with fail
        go_ret
        exact ⟨rfl, HFin.out _ HBo.out⟩
     | succ g1 =>
      have hlp : p < tr.length := by omega
      have p3 : ((p : Int) < (tr.length : Int)) = True := eq_true (by omega)
      obtain ⟨bd, A3, c3, A5, c5, rfl, _, _, q2, _⟩ := PAll.at_T46 HMo.out.ct (p : Int) (by omega) (by omega)
      rw [Int.toNat_natCast] at q2
      have HSn := Lib.hid (any_snoc gdd tr p hlp)
      have hgd : gdd tr[p] = !(rdT tr (p : Int)).f2.toList.isEmpty := by unfold gdd; rw [rdT_at hlp]
      cases b with
      | true =>
       have HB2v : Hid (true = (tr.take (p + 1)).any gdd) := Lib.hid (by rw [HSn.out, ← HBv.out]; rfl)
       clear hgd HSn HBv q2
       go_wp2_with fail
       go_roundg g1
       case measure => omega
       case rel => exact ⟨p + 1, true, by omega, by go_num, rfl, HB2v, rfl⟩
      | false =>
       cases hem : (rdT tr (p : Int)).f2.toList.isEmpty with
       | true =>
        have HB2v : Hid (false = (tr.take (p + 1)).any gdd) := Lib.hid (by rw [HSn.out, ← HBv.out, hgd, hem]; rfl)
        have e2 : (PAll.rd_T46 tr (p : Int)).f2.toList = [] := List.isEmpty_iff.1 hem
        have e3 : (PAll.rd_T46 tr (p : Int)).f2.toList.isEmpty = true := hem
        clear hgd HSn HBv hem
        go_wp2_with fail
        go_roundg g1
        case measure => omega
        case rel => exact ⟨p + 1, false, by omega, by go_num, by simp, HB2v, rfl⟩
       | false =>
        have HB2v : Hid (true = (tr.take (p + 1)).any gdd) := Lib.hid (by rw [HSn.out, ← HBv.out, hgd, hem]; rfl)
        have e3 : (PAll.rd_T46 tr (p : Int)).f2.toList.isEmpty = false := hem
        clear hgd HSn HBv hem
        go_wp2_with fail
        go_roundg g1
        case measure => omega
        case rel => exact ⟨p + 1, true, by omega, by go_num, by simp, HB2v, rfl⟩
   | succ gh =>
    have hlt : q < ks.length := by omega
    have p1 : ((q : Int) < (ks.length : Int)) = True := eq_true (by omega)
    obtain ⟨adk, rfl, a0⟩ := nums_at (Kd.C_below HCK.out HB.out) q hlt
    obtain ⟨hth, hrd, _⟩ := HOk.out ks[q] (HSub.out ks[q] (List.getElem_mem hlt))
    have hcr : crdP tr env ev ks[q] = (true, false) := by
     unfold crdP
     rw [if_pos hth]
     exact Prod.ext hrd (rdy_fine hrd)
    have HCr := Lib.hid hcr
    have HIn := Lib.hid (HSub.out ks[q] (List.getElem_mem hlt))
    have hpw : ∀ (j : Nat) (hj : j < q), claP st tr set ks[q] (ks[j]'(by omega)) = false ∧ ks[q] ≠ (ks[j]'(by omega)) := fun j hj => List.pairwise_iff_getElem.1 HAp.out j q (by omega) hlt hj
    have HPw := Lib.hid hpw
    have HQ := Lib.hid (show ks[q]? = some ks[q] from List.getElem?_eq_getElem hlt)
    clear hth hrd hcr hpw
    generalize ks[q] = ki at *
    go_wp2_with fail
    refine (cready_any (HT5.out.below HB.out) HGood.out HF.out (HWE.out.below HBo.out) E ecap env (Kd.C_below HE.out HBo.out) ki ev).mono ?_
    rw [HCr.out]
    rintro e w6 ⟨rfl, hb6⟩
    have HB6 := Lib.hid (below_then HB.out HB.out.size hb6)
    clear hb6 a0
    go_wp2_with fail
    go_loopg [19, 20] la.length (fun g1 mt j wy => ∃ (jn : Nat) (b : Bool), jn + g1 = la.length ∧ j = .int .i64 jn ∧ mt = .bool b ∧ Hid (b = (la.take jn).contains ki) ∧ Hid (Below w6.heap.size w6 wy))
    case atStart => exact ⟨0, false, by omega, rfl, rfl, Lib.hid (by simp), Lib.hid (Below.refl _ _)⟩
    case round =>
     obtain ⟨jn, b, hjg, rfl, rfl, HBv, HBy⟩ := hrel
     have HB5y := Lib.hid (below_then HB6.out HB6.out.size HBy.out)
     cases gk with
     | succ g1 =>
      have hlj : jn < la.length := by omega
      have p2 : ((jn : Int) < (la.length : Int)) = True := eq_true (by omega)
      obtain ⟨adl, rfl, b0⟩ := nums_at (Kd.C_below HCL5.out HB5y.out) jn hlj
      have b1 := nums_q (Kd.C_below HCK.out HB5y.out) HQ.out
      have HSn := Lib.hid (has_snoc ki la jn hlj)
      generalize la[jn] = lj at *
      cases b with
      | true =>
       have HB2v : Hid (true = (la.take (jn + 1)).contains ki) := Lib.hid (by rw [HSn.out, ← HBv.out]; rfl)
       clear HSn HBv b0 b1
       go_wp2_with fail
       go_quiet (fail)
       go_wp2_with fail
       go_roundg g1
       case measure => omega
       case rel => exact ⟨jn + 1, true, by omega, by go_num, rfl, HB2v, Lib.hid (below_drewN' HBy.out _)⟩
      | false =>
       by_cases hjk : lj = ki
       ·have d4 : (lj == ki) = true := by simp [hjk]
        have HB2v : Hid (true = (la.take (jn + 1)).contains ki) := Lib.hid (by rw [HSn.out, ← HBv.out, d4]; rfl)
        clear HSn HBv hjk
        go_wp2_with fail
        go_quiet (fail)
        go_wp2_with fail
        go_roundg g1
        case measure => omega
        case rel => exact ⟨jn + 1, true, by omega, by go_num, rfl, HB2v, Lib.hid (below_drewN' HBy.out _)⟩
       ·have d4 : (lj == ki) = false := by simp [hjk]
        have HB2v : Hid (false = (la.take (jn + 1)).contains ki) := Lib.hid (by rw [HSn.out, ← HBv.out, d4]; rfl)
        clear HSn HBv hjk
        go_wp2_with fail
        go_quiet (fail)
        go_wp2_with fail
        go_roundg g1
        case measure => omega
        case rel => exact ⟨jn + 1, false, by omega, by go_num, rfl, HB2v, Lib.hid (below_drewN' HBy.out _)⟩
     | zero =>
      obtain rfl : jn = la.length := by omega
      obtain rfl : b = true := by rw [HBv.out, List.take_length]; simpa using HIn.out
      have p2 : ((la.length : Int) < (la.length : Int)) = False := eq_false (by omega)
      obtain ⟨wm, rfl⟩ : ∃ wm : World, wm = wr := ⟨_, rfl⟩
      clear HBv
      go_wp2_with fail
      go_loopg [21] q (fun g1 j wz => ∃ jn : Nat, jn + g1 = q ∧ j = .int .i64 jn ∧ Hid (Below w6.heap.size w6 wz))
      case atStart => exact ⟨0, by omega, rfl, HBy⟩
      case round =>
       clear HB5y HBy
       obtain ⟨j, hjq, rfl, HBz⟩ := hrel
       obtain ⟨wz, rfl⟩ : ∃ wz : World, wz = wr := ⟨_, rfl⟩
       have HB5z := Lib.hid (below_then HB6.out HB6.out.size HBz.out)
       cases gk with
       | zero =>
        obtain rfl : j = q := by omega
        have p3 : ((j : Int) < (j : Int)) = False := eq_false (by omega)
        go_wp2_with fail
        go_roundg gh
        case measure => omega
        case rel => exact ⟨j + 1, by omega, by go_num, HB5z⟩
       | succ g1 =>
        have hlj : j < q := by omega
        have p3 : ((j : Int) < (q : Int)) = True := eq_true (by omega)
        have p4 : ((j : Int) < (ks.length : Int)) = True := eq_true (by omega)
        obtain ⟨hcl, hne⟩ := HPw.out j hlj
        have HQj := Lib.hid (show ks[j]? = some ks[j] from List.getElem?_eq_getElem (by omega))
        generalize ks[j] = kj at *
        have d4 : (kj == ki) = false := by rw [beq_eq_false_iff_ne]; exact fun e => hne e.symm
        have HCl := Lib.hid hcl
        have kz0 := nums_q (Kd.C_below HCK.out HB5z.out) HQj.out
        have kz1 := nums_q (Kd.C_below HCK.out HB5z.out) HQ.out
        have HTz := Lib.hid (HT5.out.below HB5z.out)
        clear hcl hne
        go_wp2_with fail
        refine start_ (n := 22) (S := fun w' => w'.cell? (adk.add j) = some (.int .i64 kj) ∧ w'.cell? (adk.add q) = some (.int .i64 ki)) (ds := [20]) (tf22 0) (by kernel_rfl) rfl (by kernel_rfl) ⟨kz0, kz1⟩ (fun hHeld => ?_)
        iterate 3
         refine pxt_ (v := ?_) (a' := ?_) rfl rfl (by kernel_rfl) (fun _ _ _ h => h) (Or.inl ⟨by rfl, ?_⟩) ?_ ?_
         rotate_left
         ·intro w'
          go_simp
          first | done | with_reducible rfl
         rotate_left
         ·simp only [Act.put, List.setIfInBounds_toArray, List.set_cons_zero, List.set_cons_succ, i64_w, i32_w]
          first | done | rfl
        refine nxt_ (v := ?_) (a' := ?_) rfl rfl (by kernel_rfl) (fun _ _ _ h => h) (Or.inl ⟨by rfl, ?_⟩) hHeld ?_ ?_
        rotate_left
        ·rintro w' ⟨s0, s1⟩
         go_simp
         first | done | with_reducible rfl
        rotate_left
        ·simp only [Act.put, List.setIfInBounds_toArray, List.set_cons_zero, List.set_cons_succ, i64_w, i32_w]
         first | done | rfl
        iterate 3
         refine pxt_ (v := ?_) (a' := ?_) rfl rfl (by kernel_rfl) (fun _ _ _ h => h) (Or.inl ⟨by rfl, ?_⟩) ?_ ?_
         rotate_left
         ·intro w'
          go_simp
          first | done | with_reducible rfl
         rotate_left
         ·simp only [Act.put, List.setIfInBounds_toArray, List.set_cons_zero, List.set_cons_succ, i64_w, i32_w]
          first | done | rfl
        refine nxt_ (v := ?_) (a' := ?_) rfl rfl (by kernel_rfl) (fun _ _ _ h => h) (Or.inl ⟨by rfl, ?_⟩) hHeld ?_ ?_
        rotate_left
        ·rintro w' ⟨s0, s1⟩
         go_simp
         first | done | with_reducible rfl
        rotate_left
        ·simp only [Act.put, List.setIfInBounds_toArray, List.set_cons_zero, List.set_cons_succ, i64_w, i32_w]
         first | done | rfl
        iterate 7
         refine pxt_ (v := ?_) (a' := ?_) rfl rfl (by kernel_rfl) (fun _ _ _ h => h) (Or.inl ⟨by rfl, ?_⟩) ?_ ?_
         rotate_left
         ·intro w'
          go_simp
          first | done | with_reducible rfl
         rotate_left
         ·simp only [Act.put, List.setIfInBounds_toArray, List.set_cons_zero, List.set_cons_succ, i64_w, i32_w]
          first | done | rfl
        refine nxt_ (v := ?_) (a' := ?_) rfl rfl (by kernel_rfl) (fun _ _ _ h => h) (Or.inl ⟨by rfl, ?_⟩) hHeld ?_ ?_
        rotate_left
        ·rintro w' ⟨s0, s1⟩
         go_simp
         first | done | with_reducible rfl
        rotate_left
        ·simp only [Act.put, List.setIfInBounds_toArray, List.set_cons_zero, List.set_cons_succ, i64_w, i32_w]
         first | done | rfl
        iterate 3
         refine pxt_ (v := ?_) (a' := ?_) rfl rfl (by kernel_rfl) (fun _ _ _ h => h) (Or.inl ⟨by rfl, ?_⟩) ?_ ?_
         rotate_left
         ·intro w'
          go_simp
          first | done | with_reducible rfl
         rotate_left
         ·simp only [Act.put, List.setIfInBounds_toArray, List.set_cons_zero, List.set_cons_succ, i64_w, i32_w]
          first | done | rfl
        refine nxt_ (v := ?_) (a' := ?_) rfl rfl (by kernel_rfl) (fun _ _ _ h => h) (Or.inl ⟨by rfl, ?_⟩) hHeld ?_ ?_
        rotate_left
        ·rintro w' ⟨s0, s1⟩
         go_simp
         first | done | with_reducible rfl
        rotate_left
        ·simp only [Act.put, List.setIfInBounds_toArray, List.set_cons_zero, List.set_cons_succ, i64_w, i32_w]
         first | done | rfl
        refine last_ (i := 20) (N := some 132) (tf22 21) rfl rfl (by kernel_rfl) (by decide) (fun K hK => ?_)
        refine goes_ Tryz.func24 (by kernel_rfl) rfl #[.pointer (some ⟨g, 0, none⟩), .int .u32 (set : Nat), .int .i64 ki, .int .i64 kj] (by rfl) rfl rfl (by first | rfl | (go_simp; done) | (go_simp; exact ⟨rfl, rfl⟩) | (go_simp; rfl)) ?_
        refine (clash_any (HTz.out.below (below_drew (Below.refl _ _))) HGood.out HF.out set hset ki kj).mono ?_
        rw [HCl.out]
        rintro e7 w7 ⟨rfl, hb7⟩
        refine ⟨_, rfl, hK.out _ _ ?_⟩
        clear hK K
        have HB7 := Lib.hid (below_then (below_drew HBz.out) (by have := HBz.out.size; exact this) hb7)
        clear hb7
        refine pxt_ (v := ?_) (a' := ?_) rfl rfl (by kernel_rfl) (fun _ _ _ h => h) (Or.inl ⟨by rfl, ?_⟩) ?_ ?_
        rotate_left
        ·intro w'
         go_simp
         first | done | with_reducible rfl
        rotate_left
        ·simp only [Act.put, List.setIfInBounds_toArray, List.set_cons_zero, List.set_cons_succ, i64_w, i32_w]
         first | done | rfl
        refine done_ (by kernel_rfl) ?_
        go_wp2_with fail
        go_roundg g1
        case measure => omega
        case rel => exact ⟨j + 1, by omega, by go_num, HB7⟩
end Go.Proofs.YtcjlpkegkehghaaGreatDoor
end
section
namespace Go.Proofs.YtcjlpkegkehghaaGreatDoor
open Go.ChangeShapes Go.WideShapes Go.RowKit PX Go.Proofs.YtcjlpkegkehghaaGreatDoorW.PrintWords
namespace Door
abbrev laid5 : List (String × DataW Unit) := [("math/bits.deBruijn32tab", Rows.laid_math_bits_deBruijn32tab), ("math/bits.deBruijn64tab", Rows.laid_math_bits_deBruijn64tab), ("internal/strconv.uint64pow10", Rows.laid_internal_strconv_uint64pow10), ("strconv.ErrRange", Rows.laid_strconv_ErrRange), ("strconv.ErrSyntax", Rows.laid_strconv_ErrSyntax)]
theorem gRange : Tryz.prog.globalNamed "strconv.ErrRange" = some 3 := by kernel_rfl
theorem gRangeT : (Tryz.prog.globals[3]?).map (·.type) = some 32 := by kernel_rfl
theorem gPow : Tryz.prog.globalNamed "internal/strconv.uint64pow10" = some 4 := by kernel_rfl
theorem gPowT : (Tryz.prog.globals[4]?).map (·.type) = some 353 := by kernel_rfl
theorem powT : Tryz.prog.underlying 353 = some (.array 20 265) := by kernel_rfl
theorem powIs {H : Type} : (Rows.laid_internal_strconv_uint64pow10 : DataW H) = Lib.tabData .u64 Lib.pow10Tab := rfl
theorem laid_of_met5 {W : World} (h : laidMet Tryz.prog laid5 W) : Laid W := by
 obtain ⟨g, t, cs, fuel, p, h1, h2, h3, h4⟩ := Lib.laidMet.reads h (n := "strconv.ErrRange") (d := Rows.laid_strconv_ErrRange) (.tail _ (.tail _ (.tail _ (.head _))))
 obtain rfl := Option.some.inj (gRange.symm.trans h1)
 obtain rfl := Option.some.inj (gRangeT.symm.trans h2)
 obtain ⟨_, u, v, he, _, _⟩ := iface_of_trod Tryz.underlying32 h4
 have hc : cs = #[.iface u v] := Array.eq_one_of_toList he
 subst hc
 obtain ⟨g, t, cs, fuel, p, k1, k2, k3, k4⟩ := Lib.laidMet.reads h (n := "internal/strconv.uint64pow10") (d := Rows.laid_internal_strconv_uint64pow10) (.tail _ (.tail _ (.head _)))
 obtain rfl := Option.some.inj (gPow.symm.trans k1)
 obtain rfl := Option.some.inj (gPowT.symm.trans k2)
 refine ⟨⟨u, v, h3⟩, ?_⟩
 unfold Lib.TabIs
 rw [powIs] at k4
 rw [k3, ← Lib.cells_of_tab powT (by kernel_rfl) (by kernel_rfl) (by kernel_rfl) k4]
theorem laid_of5 {W : World} (h : laidMetH Tryz.prog laid5 W) : Laid W := laid_of_met5 (laidMetH_iff.1 h).1
def cellsOfData : DataW Unit → Array Value
 | .agg l => (l.map fun | .lit (.int k z) => Value.int k z | _ => .nilIface).toArray
 | _ => #[]
noncomputable def laidWorld (os : Os) : World :=
 let N := (World.holding Tryz.prog os ⟨#[], #[], []⟩).heap.size
 let w0 := World.holding Tryz.prog os ⟨#[.cells #[.string ⟨#[118, 97, 108, 117, 101, 32, 111, 117, 116, 32, 111, 102, 32, 114, 97, 110, 103, 101]⟩] 345, .cells #[.string ⟨#[105, 110, 118, 97, 108, 105, 100, 32, 115, 121, 110, 116, 97, 120]⟩] 345], #[], []⟩
 let put (h : Array Obj) (g : Nat) (cs : Array Value) : Array Obj := h.modify g fun
  | .cells _ t frozen => .cells cs t frozen
  | o => o
 { w0 with heap := put (put (put (put (put (put w0.heap
   1 (cellsOfData Rows.laid_math_bits_deBruijn32tab)) 5 (cellsOfData Rows.laid_math_bits_deBruijn64tab)) 4 (cellsOfData Rows.laid_internal_strconv_uint64pow10))
   0 #[.iface 296 (.agg #[.pointer (some ⟨6, 32, none⟩)])]) 3 #[.iface 343 (.pointer (some ⟨N, 0, none⟩))]) 2 #[.iface 343 (.pointer (some ⟨N + 1, 0, none⟩))] }
theorem met5 (os : Os) (args : Array Value) : laidMet Tryz.prog laid5 ((laidWorld os).forCall (fun _ _ => 0) ⟨#[], args, []⟩).memory :=
 laidMet_of_run3 10 (by kernel_rfl) (by kernel_rfl) (by kernel_rfl)
theorem met5H (os : Os) (args : Array Value) : laidMetH Tryz.prog laid5 ((laidWorld os).forCall (fun _ _ => 0) ⟨#[], args, []⟩).memory :=
 laidMetH_of_parts (met5 os args) (by kernel_rfl)
end Door
end Go.Proofs.YtcjlpkegkehghaaGreatDoor
end
