/- A postfix's text: the walk through the parser's Text. -/
import Derived.Test.YtldcplgfkcionaaDoorPtext
set_option linter.unusedVariables false
set_option linter.unusedSimpArgs false
namespace Go.Proofs.YtldcplgfkcionaaDoor
open Go.RowKit PX Go.Proofs.YtldcplgfkcionaaDoorW.PrintWords
/-- A stack of texts of the call's own. -/
def StkS (w : World) (B : Nat) (v : Value) (xs : List (List UInt8)) : Prop := w.ownsRow B 9 1 v xs.length (xs.map fun s => .string (bytesArr s))
theorem StkS.below {w w' : World} {B : Nat} {v : Value} {xs : List (List UInt8)} (h : StkS w B v xs) (hb : Below w.heap.size w w') : StkS w' B v xs :=
  own_chg h (Chg.of_below hb : Chg (fun _ => False) w w') (fun _ _ e => e)
theorem StkS.cut {w : World} {B n c : Nat} {A : Option Addr} {xs ys : List (List UInt8)} (h : StkS w B (.slice A n c) (xs ++ ys)) : StkS w B (.slice A xs.length c) xs := by
  unfold StkS at h ⊢
  have hn : n = (xs ++ ys).length := by
    obtain ⟨_, ⟨hv, _⟩ | ⟨g, cap, cur, hv, _⟩⟩ := h
    · injection hv with _ h1 _; omega
    · injection hv
  subst hn
  have := own_take h (m := xs.length) (by simp)
  simpa using this
theorem StkS.cell {w : World} {B : Nat} {v : Value} {xs : List (List UInt8)} (h : StkS w B v xs) (hp : 0 < xs.length) : ∃ g cap, v = .slice (some ⟨g, 0, none⟩) xs.length cap ∧ xs.length ≤ cap ∧ ∀ (i : Nat) x, xs[i]? = some x → w.cell? ⟨g, i, none⟩ = some (.string (bytesArr x)) := by
  obtain ⟨g, cap, hv, _, _, h1, _, h2, _⟩ := own_shape h hp
  exact ⟨g, cap, hv, h1, fun i x hx => h2 i _ (by rw [List.getElem?_map, hx]; rfl)⟩
theorem leafT_len (t : T) (h0 : -9223372036854775808 ≤ t.f1) (h1 : t.f1 ≤ 9223372036854775807) : (leafT t).length ≤ 20 := by
  unfold leafT
  split
  · exact itoa_len _ h0 h1
  · split
    · simp
    · split <;> simp
set_option maxHeartbeats 8000000 in
set_option maxRecDepth 100000 in
theorem ptext_any (A : Option Addr) (cap : Nat) (p : List T) (w : World) (hc : p.length ≤ cap) (hC : ToksC w A p.length p) (hwd : Wide p) (hw : Laid w) :
    Calls Tryd.prog 25 #[.slice A p.length cap] w fun e w' => ∃ ev, e = .returned (.tuple #[.string (bytesArr (ptextOf p).1), ev]) ∧ ErV w.heap.size w' ev (ptextOf p).2 ∧ Below w.heap.size w w' := by
  have HC := Lib.hid hC
  have HW := Lib.hid hwd
  clear hC hwd
  cases hm : may p with
  | false =>
    have HX := Lib.hid (show ptextOf p = ([], .code 1) by unfold ptextOf; rw [if_neg (by simp [hm])])
    go_enter Tryd.func25, Tryd.ntmps25
    go_wp2_with fail
    refine (may_any A cap p _ HC.out hc).mono ?_
    rw [hm]
    rintro e w1 ⟨rfl, hb1⟩
    go_wp2_with fail
    go_ret2
    rw [HX.out]
    exact ⟨_, rfl, rfl, hb1⟩
  | true =>
    have hmg : mayGo p 0 = some 1 := by unfold may at hm; simp at hm; exact hm.2
    have hl : p.length ≤ 100 := by unfold may at hm; simp at hm; exact hm.1
    have HX := Lib.hid (show ptextOf p = toldT (valueT p) by unfold ptextOf; rw [if_pos hm])
    have HM := Lib.hid hmg
    clear hmg
    have kcat : ∀ (w : World), True := fun _ => trivial
    go_enter Tryd.func25, Tryd.ntmps25
    go_wp2_with fail
    refine (may_any A cap p _ HC.out hc).mono ?_
    rw [hm]
    rintro e w1 ⟨rfl, hb1⟩
    clear kcat hm
    go_wp2_with fail
    go_loopw [4, 16] (fun v i wr => ∃ (q : Nat) (xs : List (List UInt8)), i = .int .i64 q ∧ q ≤ p.length ∧ xs.length ≤ q ∧ (∃ A1 c1, v = .slice A1 xs.length c1) ∧ Hid (runsT (p.take q) [] = .ok xs ∧ (∀ x ∈ xs, x.length ≤ 200) ∧ StkS wr w.heap.size v xs ∧ Below w.heap.size w wr))
      (fun _ i _ => p.length - (intOf i).toNat)
    case atStart => exact ⟨0, [], rfl, by omega, by simp, ⟨_, _, rfl⟩, Lib.hid ⟨rfl, by simp, ⟨by simp, .inl ⟨rfl, rfl⟩⟩, hb1⟩⟩
    case round =>
      obtain ⟨q, xs, rfl, hq, hxq, ⟨A1, c1, rfl⟩, HI⟩ := hrel
      obtain ⟨hrun, hxl, hst, hbr⟩ := HI.out
      clear HI
      by_cases hlt : q < p.length
      · have hmay := may_at _ _ _ HM.out q hlt hrun
        have hnext : runsT (p.take (q + 1)) [] = stepT p[q] xs := runs_snoc _ _ _ p q hlt hrun
        obtain ⟨ad, hA, x0, x1, x2⟩ := PAll.at_T40 (Kd.C_below HC.out hbr) q (by omega) (by omega)
        subst hA
        have hti : PAll.rd_T40 p q = p[q] := by simp [PAll.rd_T40, List.getD_eq_getElem?_getD, List.getElem?_eq_getElem hlt]
        rw [hti] at x0 x1 x2
        simp only [Int.toNat_natCast] at x0 x1 x2
        have hwt := HW.out p[q] (List.getElem_mem hlt)
        generalize htk : p[q] = t at *
        have HN := Lib.hid hnext
        have HR := Lib.hid hrun
        have HL := Lib.hid hxl
        have HS := Lib.hid hst
        have HBR := Lib.hid hbr
        clear hnext hrun hxl hst hbr hti
        have p1 : (0 ≤ (q : Int)) = True := eq_true (by omega)
        have p2 : ((q : Int) < (p.length : Int)) = True := eq_true (by omega)
        have ht := takes_any t
        go_wp2_with fail
        refine (ht _).mono ?_
        rintro e w2 ⟨rfl, hb2⟩
        obtain ⟨k0, k1, k2, f0, f1, f2, hz2, hbw2⟩ := laid3 hb2
        clear hb2
        have hcap : xs.length ≤ c1 := by
          by_cases h0 : 0 < xs.length
          · obtain ⟨g, cap, hv, h1, _⟩ := HS.out.cell h0
            injection hv with _ _ h2
            omega
          · omega
        have HS2 := Lib.hid (HS.out.below hbw2)
        have HB2 := Lib.hid (HBR.out.trans (hbw2.mono HBR.out.size))
        have hlw := HB2.out.size
        clear HS HBR hbw2 htk x0 x1 x2
        obtain ⟨k, n, c⟩ := t
        simp only at k0 k1 k2 hwt ht
        rcases takes_cases ⟨k, n, c⟩ with e | e | e | e
        · omega
        · obtain ⟨hk, hn0, hn2⟩ := takes0 e
          simp only at hk hn0 hn2
          rw [e]
          clear ht
          rcases hk with rfl | rfl | rfl | rfl
          · go_wp2_with fail
            refine (format_any n hwt.1 hwt.2 _ (hw.below HB2.out)).mono ?_
            rintro e w3 ⟨rfl, hb3⟩
            have HS3 := Lib.hid (HS2.out.below hb3)
            have HB3 := Lib.hid (HB2.out.trans (hb3.mono HB2.out.size))
            have hlw3 := HB3.out.size
            clear hb3 HS2 HB2 k0 k1 k2 f0 f1 f2
            rw [show (⟨(Lib.itoa n).toArray⟩ : ByteArray) = bytesArr (leafT ⟨1, n, c⟩) from rfl]
            obtain ⟨r, hr0⟩ : ∃ r, r = xs := ⟨xs, rfl⟩
            have HE : Hid (stepT ⟨1, n, c⟩ xs = (fit (leafT ⟨1, n, c⟩)).map fun v => r ++ [v]) := Lib.hid (by rw [stepT, step_leaf _ _ _ e, fit, if_neg (by have := leafT_len ⟨1, n, c⟩ hwt.1 hwt.2; omega), hr0])
            have hxr : Hid (xs = r ++ []) := Lib.hid (by rw [hr0]; simp)
            have hlr : xs.length = r.length := by rw [hr0]
            have hxl : ∀ x ∈ r, x.length ≤ 200 := by rw [hr0]; exact HL.out
            clear hr0
            rw [hlr]
            generalize leafT ⟨1, n, c⟩ = s at *
            have HR3 : Hid (StkS w3 w.heap.size (.slice A1 r.length c1) r) := Lib.hid (by have h := HS3.out; rw [hxr.out] at h; exact h.cut)
            clear HS3 hxr
            go_wp2_with (at_builtin; refine app_one rfl (.tmp 88) (.tmp 90) 83 9 (.string ⟨#[]⟩) 1 16 rfl Tryd.underlying83 str_info rfl (by decide) (by decide) w.heap.size (.slice A1 r.length c1) r.length (r.map fun s => .string (bytesArr s)) #[.string (bytesArr s)] _ rfl rfl ?aN rfl ?aC ?aO ?aB ?aL ?_)
            case aN => first | rfl | simp
            case aC => rfl
            case aO => exact HR3.out
            case aB => exact hlw3
            case aL => omega
            intro v4 w4 hown hchg hat
            have HB4 : Hid (Below w.heap.size w w4) := Lib.hid (HB3.out.trans (hchg.below hlw3 (fun k hk e => by have := own_lt HR3.out k e; omega)))
            have hS4 : StkS w4 w.heap.size v4 (r ++ [s]) := by unfold StkS; simpa using hown
            obtain ⟨A4, c4, rfl⟩ := own_slice hown
            have HS4 := Lib.hid hS4
            have hsz : ((bytesArr s).size : Int) = s.length := by simp [bytesArr, ByteArray.size]
            clear hown hchg hat hS4 HR3
            by_cases hbig : 200 < s.length
            · have hb : ((bytesArr s).size : Int) > 200 := by omega
              clear hsz
              go_wp2_with fail
              go_ret2
              rw [HX.out, value_fail p q HN.out HE.out hbig]
              exact ⟨_, rfl, rfl, HB4.out⟩
            · have hb : ¬ ((bytesArr s).size : Int) > 200 := by omega
              clear hsz
              go_wp2_with fail
              go_roundw
              case rel => exact ⟨q + 1, r ++ [s], by go_num, by omega, by simp; omega, ⟨A4, c4, by simp⟩, Lib.hid ⟨by rw [HN.out, HE.out, fit, if_neg hbig]; rfl, fun x hx => by
                rcases List.mem_append.1 hx with hx | hx
                · exact hxl x hx
                · rw [List.mem_singleton.1 hx]; omega, HS4.out, HB4.out⟩⟩
              case measure => simp [intOf]; omega
          · have kc := byte_str w2 (97 + n) w2.heap.size rfl
            have hs2 : strOfNums [97 + n] = bytesArr (leafT ⟨2, n, c⟩) := by
              have e : (97 + n).toNat = 97 + n.toNat := by omega
              simp only [strOfNums, List.map_cons, List.map_nil, e]
              rfl
            rw [hs2] at kc
            clear hs2
            have e256 : (97 + n) % 256 = 97 + n := by have := hn2 rfl; omega
            have HS3 : Hid (StkS (w2.alloc (.cells #[.int .u8 (97 + n)] 5)) w.heap.size (.slice A1 xs.length c1) xs) := Lib.hid (HS2.out.below ((Below.refl _ _).alloc (Nat.le_refl _) _))
            have HB3 : Hid (Below w.heap.size w (w2.alloc (.cells #[.int .u8 (97 + n)] 5))) := Lib.hid (HB2.out.alloc hlw _)
            have hlw3 := HB3.out.size
            obtain ⟨r, hr0⟩ : ∃ r, r = xs := ⟨xs, rfl⟩
            have HE : Hid (stepT ⟨2, n, c⟩ xs = (fit (leafT ⟨2, n, c⟩)).map fun v => r ++ [v]) := Lib.hid (by rw [stepT, step_leaf _ _ _ e, fit, if_neg (by have := leafT_len ⟨2, n, c⟩ hwt.1 hwt.2; omega), hr0])
            have hxr : Hid (xs = r ++ []) := Lib.hid (by rw [hr0]; simp)
            have hlr : xs.length = r.length := by rw [hr0]
            have hxl : ∀ x ∈ r, x.length ≤ 200 := by rw [hr0]; exact HL.out
            clear hr0
            generalize leafT ⟨2, n, c⟩ = s at *
            clear HS2 HB2
            have HR3 : Hid (StkS (w2.alloc (.cells #[.int .u8 (97 + n)] 5)) w.heap.size (.slice A1 r.length c1) r) := Lib.hid (by have h := HS3.out; rw [hxr.out] at h; exact h.cut)
            clear HS3 hxr
            go_wp2_with (at_builtin; refine app_one rfl (.tmp 88) (.tmp 90) 83 9 (.string ⟨#[]⟩) 1 16 rfl Tryd.underlying83 str_info rfl (by decide) (by decide) w.heap.size (.slice A1 r.length c1) r.length (r.map fun s => .string (bytesArr s)) #[.string (bytesArr s)] _ rfl rfl ?aN rfl ?aC ?aO ?aB ?aL ?_)
            case aN => first | rfl | simp
            case aC => rfl
            case aO => exact HR3.out
            case aB => exact hlw3
            case aL => omega
            intro v4 w4 hown hchg hat
            have HB4 : Hid (Below w.heap.size w w4) := Lib.hid (HB3.out.trans (hchg.below hlw3 (fun k hk e => by have := own_lt HR3.out k e; omega)))
            have hS4 : StkS w4 w.heap.size v4 (r ++ [s]) := by unfold StkS; simpa using hown
            obtain ⟨A4, c4, rfl⟩ := own_slice hown
            have HS4 := Lib.hid hS4
            have hsz : ((bytesArr s).size : Int) = s.length := by simp [bytesArr, ByteArray.size]
            clear hown hchg hat hS4 HR3
            by_cases hbig : 200 < s.length
            · have hb : ((bytesArr s).size : Int) > 200 := by omega
              clear hsz
              go_wp2_with fail
              go_ret2
              rw [HX.out, value_fail p q HN.out HE.out hbig]
              exact ⟨_, rfl, rfl, HB4.out⟩
            · have hb : ¬ ((bytesArr s).size : Int) > 200 := by omega
              clear hsz
              go_wp2_with fail
              go_roundw
              case rel => exact ⟨q + 1, r ++ [s], by go_num, by omega, by simp; omega, ⟨A4, c4, by simp⟩, Lib.hid ⟨by rw [HN.out, HE.out, fit, if_neg hbig]; rfl, fun x hx => by
                rcases List.mem_append.1 hx with hx | hx
                · exact hxl x hx
                · rw [List.mem_singleton.1 hx]; omega, HS4.out, HB4.out⟩⟩
              case measure => simp [intOf]; omega
          · obtain ⟨r, hr0⟩ : ∃ r, r = xs := ⟨xs, rfl⟩
            have HE : Hid (stepT ⟨15, n, c⟩ xs = (fit [116, 114, 117, 101]).map fun v => r ++ [v]) := Lib.hid (by rw [stepT, step_leaf _ _ _ e, hr0]; rfl)
            have hxr : Hid (xs = r ++ []) := Lib.hid (by rw [hr0]; simp)
            have hlr : xs.length = r.length := by rw [hr0]
            have hxl : ∀ x ∈ r, x.length ≤ 200 := by rw [hr0]; exact HL.out
            clear hr0
            have HS3 := HS2
            have HB3 := HB2
            have hlw3 := hlw
            clear HS2 HB2
            have HR3 : Hid (StkS w2 w.heap.size (.slice A1 r.length c1) r) := Lib.hid (by have h := HS3.out; rw [hxr.out] at h; exact h.cut)
            clear HS3 hxr
            go_wp2_with (at_builtin; refine app_one rfl (.tmp 88) (.tmp 90) 83 9 (.string ⟨#[]⟩) 1 16 rfl Tryd.underlying83 str_info rfl (by decide) (by decide) w.heap.size (.slice A1 r.length c1) r.length (r.map fun s => .string (bytesArr s)) #[.string (bytesArr [116, 114, 117, 101])] _ rfl rfl ?aN rfl ?aC ?aO ?aB ?aL ?_)
            case aN => first | rfl | simp
            case aC => rfl
            case aO => exact HR3.out
            case aB => exact hlw3
            case aL => omega
            intro v4 w4 hown hchg hat
            have HB4 : Hid (Below w.heap.size w w4) := Lib.hid (HB3.out.trans (hchg.below hlw3 (fun k hk e => by have := own_lt HR3.out k e; omega)))
            have hS4 : StkS w4 w.heap.size v4 (r ++ [[116, 114, 117, 101]]) := by unfold StkS; simpa using hown
            obtain ⟨A4, c4, rfl⟩ := own_slice hown
            have HS4 := Lib.hid hS4
            clear hown hchg hat hS4 HR3
            have hbig : ¬ 200 < ([116, 114, 117, 101] : List UInt8).length := by decide
            go_wp2_with fail
            go_roundw
            case rel => exact ⟨q + 1, r ++ [[116, 114, 117, 101]], by go_num, by omega, by simp; omega, ⟨A4, c4, by simp⟩, Lib.hid ⟨by rw [HN.out, HE.out, fit, if_neg hbig]; rfl, fun x hx => by
              rcases List.mem_append.1 hx with hx | hx
              · exact hxl x hx
              · rw [List.mem_singleton.1 hx]; omega, HS4.out, HB4.out⟩⟩
            case measure => simp [intOf]; omega
          · obtain ⟨r, hr0⟩ : ∃ r, r = xs := ⟨xs, rfl⟩
            have HE : Hid (stepT ⟨16, n, c⟩ xs = (fit [102, 97, 108, 115, 101]).map fun v => r ++ [v]) := Lib.hid (by rw [stepT, step_leaf _ _ _ e, hr0]; rfl)
            have hxr : Hid (xs = r ++ []) := Lib.hid (by rw [hr0]; simp)
            have hlr : xs.length = r.length := by rw [hr0]
            have hxl : ∀ x ∈ r, x.length ≤ 200 := by rw [hr0]; exact HL.out
            clear hr0
            have HS3 := HS2
            have HB3 := HB2
            have hlw3 := hlw
            clear HS2 HB2
            have HR3 : Hid (StkS w2 w.heap.size (.slice A1 r.length c1) r) := Lib.hid (by have h := HS3.out; rw [hxr.out] at h; exact h.cut)
            clear HS3 hxr
            go_wp2_with (at_builtin; refine app_one rfl (.tmp 88) (.tmp 90) 83 9 (.string ⟨#[]⟩) 1 16 rfl Tryd.underlying83 str_info rfl (by decide) (by decide) w.heap.size (.slice A1 r.length c1) r.length (r.map fun s => .string (bytesArr s)) #[.string (bytesArr [102, 97, 108, 115, 101])] _ rfl rfl ?aN rfl ?aC ?aO ?aB ?aL ?_)
            case aN => first | rfl | simp
            case aC => rfl
            case aO => exact HR3.out
            case aB => exact hlw3
            case aL => omega
            intro v4 w4 hown hchg hat
            have HB4 : Hid (Below w.heap.size w w4) := Lib.hid (HB3.out.trans (hchg.below hlw3 (fun k hk e => by have := own_lt HR3.out k e; omega)))
            have hS4 : StkS w4 w.heap.size v4 (r ++ [[102, 97, 108, 115, 101]]) := by unfold StkS; simpa using hown
            obtain ⟨A4, c4, rfl⟩ := own_slice hown
            have HS4 := Lib.hid hS4
            clear hown hchg hat hS4 HR3
            have hbig : ¬ 200 < ([102, 97, 108, 115, 101] : List UInt8).length := by decide
            go_wp2_with fail
            go_roundw
            case rel => exact ⟨q + 1, r ++ [[102, 97, 108, 115, 101]], by go_num, by omega, by simp; omega, ⟨A4, c4, by simp⟩, Lib.hid ⟨by rw [HN.out, HE.out, fit, if_neg hbig]; rfl, fun x hx => by
              rcases List.mem_append.1 hx with hx | hx
              · exact hxl x hx
              · rw [List.mem_singleton.1 hx]; omega, HS4.out, HB4.out⟩⟩
            case measure => simp [intOf]; omega
        · have hk := takes1 e
          simp only at hk
          rw [e] at hmay ⊢
          clear ht
          obtain ⟨r, a, hxa⟩ := one_last xs (by omega)
          obtain ⟨g1, cp1, hv1, _, hcell⟩ := HS2.out.cell (by omega)
          injection hv1 with hv1 _ hv2
          subst hv1 hv2
          have hlr : xs.length = r.length + 1 := by rw [hxa]; simp
          have hca := hcell r.length a (by rw [hxa]; simp)
          have hxl : ∀ x ∈ r, x.length ≤ 200 := fun x hx => HL.out x (by rw [hxa]; simp [hx])
          have hal : a.length ≤ 200 := HL.out a (by rw [hxa]; simp)
          have hxr : Hid (xs = r ++ [a]) := Lib.hid hxa
          clear hxa
          have hxa := hxr
          clear hcell
          have e8 : (xs.length : Int) - 1 = (r.length : Int) := by omega
          have q1 : (0 ≤ (r.length : Int)) = True := eq_true (by omega)
          have q2 : ((r.length : Int) < (xs.length : Int)) = True := eq_true (by omega)
          have HS3 := HS2
          have HB3 := HB2
          have hlw3 := hlw
          clear HS2 HB2
          rcases hk with rfl | rfl
          · have hcat : (⟨#[40, 110, 111, 116, 32]⟩ : ByteArray) ++ bytesArr a ++ ⟨#[41]⟩ = bytesArr (oneT ⟨14, n, c⟩ a) := by
              apply ByteArray.ext
              simp [bytesArr, oneT]
            have HE : Hid (stepT ⟨14, n, c⟩ xs = (fit (oneT ⟨14, n, c⟩ a)).map fun v => r ++ [v]) := Lib.hid (by rw [hxa.out, stepT, step_one _ _ _ e])
            have s1 : (9223372036854775807 < 5 + (bytesArr a).size) = False := eq_false (by have := hal; simp [bytesArr, ByteArray.size]; omega)
            have s2 : (9223372036854775807 < 5 + (bytesArr a).size + 1) = False := eq_false (by have := hal; simp [bytesArr, ByteArray.size]; omega)
            generalize oneT ⟨14, n, c⟩ a = s at *
            have HR3 : Hid (StkS w2 w.heap.size (.slice (some ⟨g1, 0, none⟩) r.length c1) r) := Lib.hid (by have h := HS3.out; rw [hxr.out] at h; exact h.cut)
            clear HS3 hxr
            go_wp2_with (at_builtin; refine app_one rfl (.tmp 88) (.tmp 90) 83 9 (.string ⟨#[]⟩) 1 16 rfl Tryd.underlying83 str_info rfl (by decide) (by decide) w.heap.size (.slice (some ⟨g1, 0, none⟩) r.length c1) r.length (r.map fun s => .string (bytesArr s)) #[.string (bytesArr s)] _ rfl rfl ?aN rfl ?aC ?aO ?aB ?aL ?_)
            case aN => first | rfl | simp
            case aC => rfl
            case aO => exact HR3.out
            case aB => exact hlw3
            case aL => omega
            intro v4 w4 hown hchg hat
            have HB4 : Hid (Below w.heap.size w w4) := Lib.hid (HB3.out.trans (hchg.below hlw3 (fun k hk e => by have := own_lt HR3.out k e; omega)))
            have hS4 : StkS w4 w.heap.size v4 (r ++ [s]) := by unfold StkS; simpa using hown
            obtain ⟨A4, c4, rfl⟩ := own_slice hown
            have HS4 := Lib.hid hS4
            have hsz : ((bytesArr s).size : Int) = s.length := by simp [bytesArr, ByteArray.size]
            clear hown hchg hat hS4 HR3
            by_cases hbig : 200 < s.length
            · have hb : ((bytesArr s).size : Int) > 200 := by omega
              clear hsz
              go_wp2_with fail
              go_ret2
              rw [HX.out, value_fail p q HN.out HE.out hbig]
              exact ⟨_, rfl, rfl, HB4.out⟩
            · have hb : ¬ ((bytesArr s).size : Int) > 200 := by omega
              clear hsz
              go_wp2_with fail
              go_roundw
              case rel => exact ⟨q + 1, r ++ [s], by go_num, by omega, by simp; omega, ⟨A4, c4, by simp⟩, Lib.hid ⟨by rw [HN.out, HE.out, fit, if_neg hbig]; rfl, fun x hx => by
                rcases List.mem_append.1 hx with hx | hx
                · exact hxl x hx
                · rw [List.mem_singleton.1 hx]; omega, HS4.out, HB4.out⟩⟩
              case measure => simp [intOf]; omega
          · have hcat : (⟨#[40, 45]⟩ : ByteArray) ++ bytesArr a ++ ⟨#[41]⟩ = bytesArr (oneT ⟨19, n, c⟩ a) := by
              apply ByteArray.ext
              simp [bytesArr, oneT]
            have HE : Hid (stepT ⟨19, n, c⟩ xs = (fit (oneT ⟨19, n, c⟩ a)).map fun v => r ++ [v]) := Lib.hid (by rw [hxa.out, stepT, step_one _ _ _ e])
            have s1 : (9223372036854775807 < 2 + (bytesArr a).size) = False := eq_false (by have := hal; simp [bytesArr, ByteArray.size]; omega)
            have s2 : (9223372036854775807 < 2 + (bytesArr a).size + 1) = False := eq_false (by have := hal; simp [bytesArr, ByteArray.size]; omega)
            generalize oneT ⟨19, n, c⟩ a = s at *
            have HR3 : Hid (StkS w2 w.heap.size (.slice (some ⟨g1, 0, none⟩) r.length c1) r) := Lib.hid (by have h := HS3.out; rw [hxr.out] at h; exact h.cut)
            clear HS3 hxr
            go_wp2_with (at_builtin; refine app_one rfl (.tmp 88) (.tmp 90) 83 9 (.string ⟨#[]⟩) 1 16 rfl Tryd.underlying83 str_info rfl (by decide) (by decide) w.heap.size (.slice (some ⟨g1, 0, none⟩) r.length c1) r.length (r.map fun s => .string (bytesArr s)) #[.string (bytesArr s)] _ rfl rfl ?aN rfl ?aC ?aO ?aB ?aL ?_)
            case aN => first | rfl | simp
            case aC => rfl
            case aO => exact HR3.out
            case aB => exact hlw3
            case aL => omega
            intro v4 w4 hown hchg hat
            have HB4 : Hid (Below w.heap.size w w4) := Lib.hid (HB3.out.trans (hchg.below hlw3 (fun k hk e => by have := own_lt HR3.out k e; omega)))
            have hS4 : StkS w4 w.heap.size v4 (r ++ [s]) := by unfold StkS; simpa using hown
            obtain ⟨A4, c4, rfl⟩ := own_slice hown
            have HS4 := Lib.hid hS4
            have hsz : ((bytesArr s).size : Int) = s.length := by simp [bytesArr, ByteArray.size]
            clear hown hchg hat hS4 HR3
            by_cases hbig : 200 < s.length
            · have hb : ((bytesArr s).size : Int) > 200 := by omega
              clear hsz
              go_wp2_with fail
              go_ret2
              rw [HX.out, value_fail p q HN.out HE.out hbig]
              exact ⟨_, rfl, rfl, HB4.out⟩
            · have hb : ¬ ((bytesArr s).size : Int) > 200 := by omega
              clear hsz
              go_wp2_with fail
              go_roundw
              case rel => exact ⟨q + 1, r ++ [s], by go_num, by omega, by simp; omega, ⟨A4, c4, by simp⟩, Lib.hid ⟨by rw [HN.out, HE.out, fit, if_neg hbig]; rfl, fun x hx => by
                rcases List.mem_append.1 hx with hx | hx
                · exact hxl x hx
                · rw [List.mem_singleton.1 hx]; omega, HS4.out, HB4.out⟩⟩
              case measure => simp [intOf]; omega
        · obtain ⟨h3, h13⟩ := takes2 e
          simp only at h3 h13
          rw [e] at hmay ⊢
          clear ht
          obtain ⟨r, a, b, hxa⟩ := two_last xs (by omega)
          obtain ⟨g1, cp1, hv1, _, hcell⟩ := HS2.out.cell (by omega)
          injection hv1 with hv1 _ hv2
          subst hv1 hv2
          have hlr : xs.length = r.length + 2 := by rw [hxa]; simp
          have hca := hcell r.length a (by rw [hxa]; simp)
          have hcb := hcell (r.length + 1) b (by rw [hxa, List.getElem?_append_right (by omega)]; simp)
          have hxl : ∀ x ∈ r, x.length ≤ 200 := fun x hx => HL.out x (by rw [hxa]; simp [hx])
          have hal : a.length ≤ 200 := HL.out a (by rw [hxa]; simp)
          have hbl : b.length ≤ 200 := HL.out b (by rw [hxa]; simp)
          have hxr : Hid (xs = r ++ [a, b]) := Lib.hid hxa
          clear hxa hcell
          have hkl : (sgn k).length ≤ 22 := by have := kText_len k; unfold sgn; split <;> simp <;> omega
          have e8 : (xs.length : Int) - 2 = (r.length : Int) := by omega
          have q1 : (0 ≤ (r.length : Int)) = True := eq_true (by omega)
          have q2 : ((r.length : Int) < (xs.length : Int)) = True := eq_true (by omega)
          have q3 : (0 ≤ (r.length : Int) + 1) = True := eq_true (by omega)
          have q4 : ((r.length : Int) + 1 < (xs.length : Int)) = True := eq_true (by omega)
          have n1 : (k == 1) = false := beq_eq_false_iff_ne.mpr (by omega)
          have n2 : (k == 2) = false := beq_eq_false_iff_ne.mpr (by omega)
          have n15 : (k == 15) = false := beq_eq_false_iff_ne.mpr (by omega)
          have n16 : (k == 16) = false := beq_eq_false_iff_ne.mpr (by omega)
          have n19 : (k == 19) = false := beq_eq_false_iff_ne.mpr (by omega)
          have n14 : (k == 14) = false := beq_eq_false_iff_ne.mpr (by omega)
          have hcat : (⟨#[40]⟩ : ByteArray) ++ bytesArr a ++ bytesArr (sgn k) ++ bytesArr b ++ ⟨#[41]⟩ = bytesArr (twoT ⟨k, n, c⟩ a b) := by
            apply ByteArray.ext
            simp [bytesArr, twoT]
          have HE : Hid (stepT ⟨k, n, c⟩ xs = (fit (twoT ⟨k, n, c⟩ a b)).map fun v => r ++ [v]) := Lib.hid (by rw [hxr.out, stepT, step_two _ _ _ e])
          have hsg := psign_any k h3 h13
          have HSG := Lib.hid hsg
          have z1 : (bytesArr a).size = a.length := by simp [bytesArr, ByteArray.size]
          have z2 : (bytesArr b).size = b.length := by simp [bytesArr, ByteArray.size]
          have z3 : (bytesArr (sgn k)).size = (sgn k).length := by simp [bytesArr, ByteArray.size]
          have s1 : (9223372036854775807 < 1 + (bytesArr a).size) = False := eq_false (by omega)
          have s2 : (9223372036854775807 < 1 + (bytesArr a).size + (bytesArr (sgn k)).size) = False := eq_false (by omega)
          have s3 : (9223372036854775807 < 1 + (bytesArr a).size + (bytesArr (sgn k)).size + (bytesArr b).size) = False := eq_false (by omega)
          have s4 : (9223372036854775807 < 1 + (bytesArr a).size + (bytesArr (sgn k)).size + (bytesArr b).size + 1) = False := eq_false (by omega)
          clear z1 z2 z3 hsg
          generalize twoT ⟨k, n, c⟩ a b = s at *
          generalize sgn k = sg at *
          go_wp2_with fail
          go_quiet ((go_at_call 55; exact Calls.quiet_of_same (HSG.out _)))
          obtain ⟨w3, hw3⟩ : ∃ w3, w3 = w2.drewN nq := ⟨_, rfl⟩
          have HS3 : Hid (StkS (w2.drewN nq) w.heap.size (.slice (some ⟨g1, 0, none⟩) xs.length c1) xs) := Lib.hid (own_drewN HS2.out nq)
          have HB3 : Hid (Below w.heap.size w (w2.drewN nq)) := Lib.hid (below_drewN' HB2.out nq)
          have hlw3 := HB3.out.size
          clear hw3 HS2 HB2 HSG
          have HR3 : Hid (StkS (w2.drewN nq) w.heap.size (.slice (some ⟨g1, 0, none⟩) r.length c1) r) := Lib.hid (by have h := HS3.out; rw [hxr.out] at h; exact h.cut)
          clear HS3 hxr
          go_wp2_with (at_builtin; refine app_one rfl (.tmp 88) (.tmp 90) 83 9 (.string ⟨#[]⟩) 1 16 rfl Tryd.underlying83 str_info rfl (by decide) (by decide) w.heap.size (.slice (some ⟨g1, 0, none⟩) r.length c1) r.length (r.map fun s => .string (bytesArr s)) #[.string (bytesArr s)] _ rfl rfl ?aN rfl ?aC ?aO ?aB ?aL ?_)
          case aN => first | rfl | simp
          case aC => rfl
          case aO => exact HR3.out
          case aB => exact hlw3
          case aL => omega
          intro v4 w4 hown hchg hat
          have HB4 : Hid (Below w.heap.size w w4) := Lib.hid (HB3.out.trans (hchg.below hlw3 (fun k hk e => by have := own_lt HR3.out k e; omega)))
          have hS4 : StkS w4 w.heap.size v4 (r ++ [s]) := by unfold StkS; simpa using hown
          obtain ⟨A4, c4, rfl⟩ := own_slice hown
          have HS4 := Lib.hid hS4
          have hsz : ((bytesArr s).size : Int) = s.length := by simp [bytesArr, ByteArray.size]
          clear hown hchg hat hS4 HR3
          by_cases hbig : 200 < s.length
          · have hb : ((bytesArr s).size : Int) > 200 := by omega
            clear hsz
            go_wp2_with fail
            go_ret2
            rw [HX.out, value_fail p q HN.out HE.out hbig]
            exact ⟨_, rfl, rfl, HB4.out⟩
          · have hb : ¬ ((bytesArr s).size : Int) > 200 := by omega
            clear hsz
            go_wp2_with fail
            go_roundw
            case rel => exact ⟨q + 1, r ++ [s], by go_num, by omega, by simp; omega, ⟨A4, c4, by simp⟩, Lib.hid ⟨by rw [HN.out, HE.out, fit, if_neg hbig]; rfl, fun x hx => by
              rcases List.mem_append.1 hx with hx | hx
              · exact hxl x hx
              · rw [List.mem_singleton.1 hx]; omega, HS4.out, HB4.out⟩⟩
            case measure => simp [intOf]; omega
      · obtain rfl : q = p.length := by omega
        rw [List.take_length] at hrun
        have h1 := runs_len _ _ _ p [] xs 1 hrun (by simpa using HM.out)
        obtain ⟨s, rfl⟩ : ∃ s, xs = [s] := by
          match xs, h1 with
          | [s], _ => exact ⟨s, rfl⟩
          | [], h => simp at h
          | _ :: _ :: _, h => simp at h; omega
        obtain ⟨g1, cp1, hv1, _, hcell⟩ := hst.cell (by simp)
        injection hv1 with hv1 _ hv2
        subst hv1 hv2
        have hc0 := hcell 0 s rfl
        have hv : ptextOf p = (s, .none) := by
          rw [HX.out]
          unfold valueT value
          rw [show runs (fun t => Except.ok (leafT t)) (fun t a => fit (oneT t a)) (fun t a b => fit (twoT t a b)) p [] = .ok [s] from hrun]
          rfl
        have HV := Lib.hid hv
        have HBR := Lib.hid hbr
        clear hrun hst hcell hv HX hbr
        have p1 : ((p.length : Int) < (p.length : Int)) = False := eq_false (by omega)
        go_wp2_with fail
        go_ret2
        rw [HV.out]
        exact ⟨_, rfl, rfl, HBR.out⟩
end Go.Proofs.YtldcplgfkcionaaDoor
