/- The law ParsePrints. -/
import Derived.Test.YtldcplgfkcionaaDoorUp03
import Derived.Test.YtldcplgfkcionaaDoorLexTextsLaw
set_option linter.unusedVariables false
set_option linter.unusedSimpArgs false
namespace Go.Proofs.YtldcplgfkcionaaDoor
open Go.RowKit PX Go.Proofs.YtldcplgfkcionaaDoorW.PrintWords
theorem fit_er (s : List UInt8) {e : Int} (h : fit s = .error e) : e = 3 := by
  unfold fit at h; split at h
  · exact (Except.error.inj h).symm
  · cases h
theorem valT_er (x : Tr) {e : Int} (h : valT x = .error e) : e = 3 := by
  induction x generalizing e with
  | leaf t => cases h
  | one t a ih =>
    have h' : ((valT a).bind fun s => fit (oneT t s)) = .error e := h
    cases ha : valT a with
    | error e' => rw [ha] at h'; cases h'; exact ih ha
    | ok s => rw [ha] at h'; exact fit_er _ h'
  | two t a b ia ib =>
    have h' : ((valT a).bind fun s => (valT b).bind fun u => fit (twoT t s u)) = .error e := h
    cases ha : valT a with
    | error e' => rw [ha] at h'; cases h'; exact ia ha
    | ok s =>
      rw [ha] at h'
      cases hb : valT b with
      | error e' =>
        rw [hb] at h'
        have h2 : (Except.error e' : Except Int (List UInt8)) = .error e := h'
        cases h2; exact ib hb
      | ok u => rw [hb] at h'; exact fit_er _ h'
set_option maxHeartbeats 8000000 in
set_option maxRecDepth 100000 in
theorem ParsePrints_walk (w : World) (hw : LaidE w) (v0 : Value) (x0 : List (Int × Int × Int × Unit)) (h0 : RTok.slice.ok (fun b => b < w.heap.size) w [v0] x0) :
    Calls Tryd.prog 7 #[v0] w fun e w' => e = .returned (.bool true) ∧ Below w.heap.size w w' := by
  obtain ⟨A, cap, p, rfl, hc, hC, hwd⟩ := tokArg h0
  clear h0
  have HC := Lib.hid hC
  have HW := Lib.hid hwd.wide
  clear hC hwd
  by_cases h5 : 500 < p.length
  · go_enter Tryd.func7, Tryd.ntmps7
    go_wp2_with fail
    refine (up03 _ hw).mono ?_
    rintro e w1 ⟨rfl, hb1⟩
    go_wp2_with fail
    go_ret
    exact ⟨rfl, hb1⟩
  have k6 := eqErr
  cases hm : may p with
  | false =>
    have HX : Hid (ptextOf p = ([], .code 1)) := Lib.hid (by unfold ptextOf; rw [if_neg (by simp [hm])])
    have HM := Lib.hid hm
    clear hm
    go_enter Tryd.func7, Tryd.ntmps7
    go_wp2_with fail
    refine (up03 _ hw).mono ?_
    rintro e w1 ⟨rfl, hb1⟩
    go_wp2_with fail
    refine (rmay_any A cap p (by omega) _ (Kd.C_below HC.out hb1) hc).mono ?_
    rw [HM.out]
    rintro e w2 ⟨rfl, hb2⟩
    have hb12 := below_then hb1 hb1.size hb2
    go_wp2_with fail
    refine (ptext_any A cap p _ hc (Kd.C_below HC.out hb12) HW.out (hw.below hb12).toLaid).mono ?_
    rw [HX.out]
    rintro e w3 ⟨ev3, rfl, rfl, hb3⟩
    have hb13 := below_then hb12 hb12.size hb3
    go_wp2_with fail
    refine (may_any A cap p _ (Kd.C_below HC.out hb13) hc).mono ?_
    rw [HM.out]
    rintro e w4 ⟨rfl, hb4⟩
    have hb14 := below_then hb13 hb13.size hb4
    have kb : (bytesArr []).toList = [] := by rw [ByteArray.toList_eq]; rfl
    go_wp2_with fail
    go_ret
    exact ⟨rfl, hb14⟩
  | true =>
    have hmg : mayGo p 0 = some 1 := by unfold may at hm; simp at hm; exact hm.2
    obtain ⟨x, hwf, hflat⟩ := tree_of hmg
    have hval : valueT p = valT x := by rw [hflat]; exact value_tree _ _ _ x hwf
    have hpos := Tr.len_pos x
    have hlen : x.flat.length = p.length := by rw [hflat]
    have HX : Hid (ptextOf p = toldT (valT x)) := Lib.hid (by unfold ptextOf; rw [if_pos hm, hval])
    have HM := Lib.hid hm
    have HF := Lib.hid (show p = [] ++ x.flat ++ [] by simpa using hflat)
    have HR := Lib.hid (rtext_any p A cap (by omega) hc HW.out x [] [] (p.length - 1))
    have e1 : (p.length : Int) - 1 = ((p.length - 1 : Nat) : Int) := by omega
    clear hm hmg hflat hval
    go_enter Tryd.func7, Tryd.ntmps7
    go_wp2_with fail
    refine (up03 _ hw).mono ?_
    rintro e w1 ⟨rfl, hb1⟩
    go_wp2_with fail
    refine (rmay_any A cap p (by omega) _ (Kd.C_below HC.out hb1) hc).mono ?_
    rw [HM.out]
    rintro e w2 ⟨rfl, hb2⟩
    have hb12 := below_then hb1 hb1.size hb2
    go_wp2_with fail
    refine (ptext_any A cap p _ hc (Kd.C_below HC.out hb12) HW.out (hw.below hb12).toLaid).mono ?_
    rw [HX.out]
    rintro e w3 ⟨ev3, rfl, he3, hb3⟩
    have hb13 := below_then hb12 hb12.size hb3
    cases hv : valT x with
    | error c =>
      obtain rfl := valT_er x hv
      rw [hv] at he3
      obtain rfl : ev3 = .iface 28 (.int .i64 3) := he3
      have HV := Lib.hid hv
      clear hv
      have kb : (bytesArr []).toList = [] := by rw [ByteArray.toList_eq]; rfl
      simp only [toldT]
      go_wp2_with fail
      refine (may_any A cap p _ (Kd.C_below HC.out hb13) hc).mono ?_
      rw [HM.out]
      rintro e w4 ⟨rfl, hb4⟩
      have hb14 := below_then hb13 hb13.size hb4
      go_wp2_with fail
      refine (HR.out _ hwf HF.out (by simp; omega) (Kd.C_below HC.out hb14)).mono ?_
      rintro e w5 ⟨str, fr, ok, rfl, _, hT, hb5⟩
      obtain rfl : ok = false := by unfold TextIs at hT; rw [HV.out] at hT; exact hT
      have hb15 := below_then hb14 hb14.size hb5
      clear hT
      go_wp2_with fail
      go_ret
      exact ⟨rfl, hb15⟩
    | ok s =>
      rw [hv] at he3
      obtain rfl : ev3 = .nilIface := he3
      have HV := Lib.hid hv
      clear hv
      simp only [toldT]
      go_wp2_with fail
      refine (may_any A cap p _ (Kd.C_below HC.out hb13) hc).mono ?_
      rw [HM.out]
      rintro e w4 ⟨rfl, hb4⟩
      have hb14 := below_then hb13 hb13.size hb4
      go_wp2_with fail
      refine (HR.out _ hwf HF.out (by simp; omega) (Kd.C_below HC.out hb14)).mono ?_
      rintro e w5 ⟨str, fr, ok, rfl, _, hT, hb5⟩
      obtain ⟨rfl, rfl, rfl⟩ : str = bytesArr s ∧ fr = ([] : List T).length ∧ ok = true := by unfold TextIs at hT; rw [HV.out] at hT; exact hT
      have hb15 := below_then hb14 hb14.size hb5
      clear hT
      have kb : ((bytesArr s).toList == (bytesArr s).toList) = true := beq_self_eq_true _
      go_wp2_with fail
      go_ret
      exact ⟨rfl, hb15⟩
end Go.Proofs.YtldcplgfkcionaaDoor
