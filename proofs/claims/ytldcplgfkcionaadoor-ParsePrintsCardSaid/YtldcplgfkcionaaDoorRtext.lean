/- A postfix's text: what the reference's Text does. -/
import Derived.Test.YtldcplgfkcionaaDoorPtextw
import Derived.Test.YtldcplgfkcionaaDoorRefText
set_option linter.unusedVariables false
set_option linter.unusedSimpArgs false
namespace Go.Proofs.YtldcplgfkcionaaDoor
open Go.RowKit PX Go.Proofs.YtldcplgfkcionaaDoorW.PrintWords
theorem leaf_one {t : T} (h : takes t = 0) : oneOf t = leafT t ∧ oneOf t ≠ [] := by
  obtain ⟨h1, h2, h3⟩ := takes0 h
  obtain ⟨k, n, c⟩ := t
  simp only at h1 h2 h3
  rcases h1 with rfl | rfl | rfl | rfl
  · have hp : 0 < (Lib.itoa n).length := by
      unfold Lib.itoa
      rw [if_neg (by omega), Lib.decDigits]
      split <;> simp
    simp only [oneOf, leafT]
    rw [if_pos ⟨trivial, h2⟩, if_pos trivial]
    exact ⟨rfl, fun e => by rw [e] at hp; simp at hp⟩
  · have := h3 rfl
    simp only [oneOf, leafT]
    rw [if_neg (by simp), if_pos ⟨trivial, h2, by omega⟩]
    exact ⟨rfl, by simp⟩
  · have hn : n = 0 := by
      unfold takes at h; simp at h; split at h
      · cases h
      · split at h
        · assumption
        · cases h
    subst hn
    exact ⟨rfl, fun e => by have e' : [(116 : UInt8), 114, 117, 101] = [] := e; cases e'⟩
  · have hn : n = 0 := by
      unfold takes at h; simp at h; split at h
      · cases h
      · split at h
        · assumption
        · cases h
    subst hn
    exact ⟨rfl, fun e => by have e' : [(102 : UInt8), 97, 108, 115, 101] = [] := e; cases e'⟩
theorem leaf_text {t : T} (h : takes t = 0) : textOf [t] = (leafT t, .none) := by
  obtain ⟨h1, h2⟩ := leaf_one h
  unfold textOf
  rw [if_pos (by intro x hx; rw [List.mem_singleton.1 hx]; exact h2)]
  simp [Lib.join, h1]
/-- One of a row. -/
theorem seg_one {w : World} {ad : Addr} {p : List T} (h : ToksC w (some ad) p.length p) (q : Nat) (hq : q < p.length) {t : T} (ht : p[q] = t) : Kd.C PAll.k40 w (some (ad.add (q * 3))) 1 [t] := by
  refine ⟨rfl, by have := h.2.1; omega, fun _ => ⟨_, rfl, fun j x hj => ?_⟩⟩
  obtain ⟨ad', he, hc⟩ := h.2.2 (by omega)
  injection he with he
  subst he
  match j, hj with
  | 0, hj =>
    obtain rfl : t = x := by simpa using hj
    obtain ⟨cs, h1, h2, h3⟩ := hc q t (by rw [List.getElem?_eq_getElem hq, ht])
    refine ⟨cs, h1, h2, fun i u hi => ?_⟩
    rw [← h3 i u hi]
    have hz : PAll.k40.sz = 3 := rfl
    rw [hz]
    rw [Addr.add_add, Nat.zero_mul, Nat.zero_add]
  | n + 1, hj => simp at hj
/-- What the recursion from the end tells of a tree's text. -/
def TextIs (x : Tr) (pre : Nat) (str : ByteArray) (fr : Int) (ok : Bool) : Prop :=
  match valT x with
  | .ok s => str = bytesArr s ∧ fr = pre ∧ ok = true
  | .error _ => ok = false
set_option maxHeartbeats 8000000 in
set_option maxRecDepth 100000 in
theorem rtext_any (p : List T) (A : Option Addr) (cap : Nat) (hl : p.length ≤ 1000000) (hc : p.length ≤ cap) (hw : Wide p) (x : Tr) : ∀ (pre suf : List T) (at_ : Nat) (w : World), x.wf → p = pre ++ x.flat ++ suf → at_ + 1 = pre.length + x.flat.length → ToksC w A p.length p →
    Calls Tryd.prog 27 #[.slice A p.length cap, .int .i64 at_] w fun e w' => ∃ str fr ok, e = .returned (.tuple #[.string str, .int .i64 fr, .bool ok]) ∧ str.size ≤ 30 * x.flat.length ∧ TextIs x pre.length str fr ok ∧ Below w.heap.size w w' := by
  induction x with
  | leaf t =>
    intro pre suf at_ w h0 hp ha hC
    obtain rfl : at_ = pre.length := by simp [Tr.flat] at ha; omega
    have h0' : takes t = 0 := h0
    have hlt : pre.length < p.length := by rw [hp]; simp [Tr.flat]
    have hpt : p[pre.length] = t := by simp [hp, Tr.flat]
    have hti : PAll.rd_T40 p pre.length = t := by simp [PAll.rd_T40, List.getD_eq_getElem?_getD, List.getElem?_eq_getElem hlt, hpt]
    obtain ⟨ad, hA, x0, x1, x2⟩ := PAll.at_T40 hC pre.length (by omega) (by omega)
    subst hA
    rw [hti] at x0 x1 x2
    simp only [Int.toNat_natCast] at x0 x1 x2
    have hwt : Wide [t] := fun y hy => by rw [List.mem_singleton.1 hy, ← hpt]; exact hw _ (List.getElem_mem hlt)
    have ht := rtakes_any t
    obtain ⟨kk, hkk⟩ := refText_f [t] (by simp) hwt
    rw [leaf_text h0'] at hkk
    have HKK := Lib.hid hkk
    have HC := Lib.hid hC
    have HWT := Lib.hid hwt
    have HTI := Lib.hid hpt
    clear hkk hC hti hw hpt hwt hp ha
    have p1 : (0 ≤ (pre.length : Int)) = True := eq_true (by omega)
    have p2 : ((pre.length : Int) < (p.length : Int)) = True := eq_true (by omega)
    go_enter Tryd.func27, Tryd.ntmps27
    go_wp2_with fail
    refine (ht _).mono ?_
    rw [h0']
    rintro e w2 ⟨rfl, hb2⟩
    obtain ⟨k0, k1, k2, f0, f1, f2, hz2, hbw2⟩ := laid3 hb2
    clear hb2 ht x0 x1 x2
    go_wp2_with fail
    have hc1 : Kd.C PAll.k40 w2 (some (ad.add (pre.length * 3))) 1 [t] := seg_one (Kd.C_below HC.out hbw2) pre.length hlt HTI.out
    refine (PAll.spinetref02_Text.calls kk (some (ad.add (pre.length * 3))) (cap - pre.length) [t] _ _ _ hc1 (by simp; omega) HKK.out).mono ?_
    rintro e w3 ⟨rfl, hb3⟩
    have hb13 := below_then hbw2 (Nat.le_of_lt hz2) hb3
    go_wp2_with fail
    go_ret3
    exact ⟨_, _, _, rfl, by
      have := leafT_len t (HWT.out t (by simp)).1 (HWT.out t (by simp)).2
      simp [bytesArr, ByteArray.size, Tr.flat]; omega, ⟨rfl, rfl, rfl⟩, hb13⟩
  | one t a ih =>
    intro pre suf at_ w h0 hp ha hC
    obtain ⟨h1, ha0⟩ : takes t = 1 ∧ a.wf := h0
    have hk := takes1 h1
    have hfl : (Tr.one t a).flat = a.flat ++ [t] := rfl
    rw [hfl] at hp ha ⊢
    rw [List.length_append, List.length_singleton] at ha
    have hpos := Tr.len_pos a
    have hlt : at_ < p.length := by rw [hp]; simp; omega
    have hpt : p[at_] = t := by
      have : p[at_]? = some t := by
        rw [hp, List.append_assoc, List.append_assoc, List.getElem?_append_right (by omega), List.getElem?_append_right (by omega)]
        rw [show at_ - pre.length - a.flat.length = 0 by omega]
        rfl
      rw [List.getElem?_eq_getElem hlt] at this
      exact Option.some.inj this
    have hti : PAll.rd_T40 p at_ = t := by simp [PAll.rd_T40, List.getD_eq_getElem?_getD, List.getElem?_eq_getElem hlt, hpt]
    obtain ⟨ad, hA, x0, x1, x2⟩ := PAll.at_T40 hC at_ (by omega) (by omega)
    subst hA
    rw [hti] at x0 x1 x2
    simp only [Int.toNat_natCast] at x0 x1 x2
    have ht := rtakes_any t
    have HC := Lib.hid hC
    have HI := Lib.hid (ih pre ([t] ++ suf) (at_ - 1))
    have HP := Lib.hid (show p = pre ++ a.flat ++ ([t] ++ suf) by rw [hp]; simp)
    have hv : valT (.one t a) = (valT a).bind fun s => fit (oneT t s) := rfl
    have HV := Lib.hid hv
    have p1 : (0 ≤ (at_ : Int)) = True := eq_true (by omega)
    have p2 : ((at_ : Int) < (p.length : Int)) = True := eq_true (by omega)
    have hafl : a.flat.length ≤ p.length := by rw [hp]; simp; omega
    clear hC hti hw hpt hp ih hv hfl
    have e1 : (at_ : Int) - 1 = ((at_ - 1 : Nat) : Int) := by omega
    go_enter Tryd.func27, Tryd.ntmps27
    go_wp2_with fail
    refine (ht _).mono ?_
    rw [h1]
    rintro e w2 ⟨rfl, hb2⟩
    obtain ⟨k0, k1, k2, f0, f1, f2, hz2, hbw2⟩ := laid3 hb2
    clear hb2 ht x0 x1 x2
    obtain ⟨k, n, c⟩ := t
    simp only at hk k0 k1 k2
    have HC2 := Lib.hid (Kd.C_below HC.out hbw2)
    clear HC
    go_wp2_with fail
    refine (HI.out _ ha0 HP.out (by omega) HC2.out).mono ?_
    rintro e w3 ⟨str, fr, ok, rfl, hsz, hT, hb3⟩
    have hb13 := below_then hbw2 (Nat.le_of_lt hz2) hb3
    have k0' := (hb3.cell (p := ⟨w.heap.size, 0, none⟩) hz2).trans k0
    have HT := Lib.hid hT
    clear hT HI HP k0 k1 k2 f0 f1 f2 e1
    rcases hk with rfl | rfl
    · have s1 : (9223372036854775807 < 5 + str.size) = False := eq_false (by omega)
      have s2 : (9223372036854775807 < 5 + str.size + 1) = False := eq_false (by omega)
      have HF : Hid (((⟨#[40, 110, 111, 116, 32]⟩ : ByteArray) ++ str ++ (⟨#[41]⟩ : ByteArray)).size = str.size + 6) := Lib.hid (by rw [ByteArray.size_append, ByteArray.size_append]; show 5 + str.size + 1 = _; omega)
      cases hx : valT a with
      | ok s =>
        obtain ⟨rfl, rfl, rfl⟩ : str = bytesArr s ∧ fr = pre.length ∧ ok = true := by have := HT.out; unfold TextIs at this; rw [hx] at this; exact this
        have hcat : (⟨#[40, 110, 111, 116, 32]⟩ : ByteArray) ++ bytesArr s ++ (⟨#[41]⟩ : ByteArray) = bytesArr (oneT ⟨14, n, c⟩ s) := by
          apply ByteArray.ext
          simp [bytesArr, oneT]
        rw [hcat] at HF
        have hfin : ∀ b : Bool, b = decide (((bytesArr (oneT ⟨14, n, c⟩ s)).size : Int) ≤ 200) → TextIs (.one ⟨14, n, c⟩ a) pre.length (bytesArr (oneT ⟨14, n, c⟩ s)) pre.length b := by
          intro b hb
          have hz : (bytesArr (oneT ⟨14, n, c⟩ s)).size = (oneT ⟨14, n, c⟩ s).length := by simp [bytesArr, ByteArray.size]
          rw [hz] at hb
          unfold TextIs
          rw [HV.out, hx]
          show (match fit (oneT ⟨14, n, c⟩ s) with | .ok s' => _ | .error _ => _)
          unfold fit
          by_cases h : 200 < (oneT ⟨14, n, c⟩ s).length
          · rw [if_pos h]
            show b = false
            rw [hb]; exact decide_eq_false (by omega)
          · rw [if_neg h]
            exact ⟨rfl, rfl, by rw [hb]; exact decide_eq_true (by omega)⟩
        have HFI := Lib.hid hfin
        have hsz2 : (bytesArr (oneT ⟨14, n, c⟩ s)).size ≤ 30 * (a.flat ++ [(⟨14, n, c⟩ : T)]).length := by rw [HF.out]; simp; omega
        have HSZ := Lib.hid hsz2
        clear hfin hx HV HT HF hsz2
        generalize oneT ⟨14, n, c⟩ s = s' at *
        go_wp2_with fail
        go_ret3
        exact ⟨_, _, _, rfl, HSZ.out, HFI.out _ rfl, hb13⟩
      | error e =>
        obtain rfl : ok = false := by have := HT.out; unfold TextIs at this; rw [hx] at this; exact this
        have HFI : Hid (TextIs (.one ⟨14, n, c⟩ a) pre.length ((⟨#[40, 110, 111, 116, 32]⟩ : ByteArray) ++ str ++ (⟨#[41]⟩ : ByteArray)) fr false) := Lib.hid (by unfold TextIs; rw [HV.out, hx]; rfl)
        clear hx HV HT
        go_wp2_with fail
        go_ret3
        exact ⟨_, _, _, rfl, by rw [HF.out]; simp; omega, HFI.out, hb13⟩
    · have s1 : (9223372036854775807 < 2 + str.size) = False := eq_false (by omega)
      have s2 : (9223372036854775807 < 2 + str.size + 1) = False := eq_false (by omega)
      have HF : Hid (((⟨#[40, 45]⟩ : ByteArray) ++ str ++ (⟨#[41]⟩ : ByteArray)).size = str.size + 3) := Lib.hid (by rw [ByteArray.size_append, ByteArray.size_append]; show 2 + str.size + 1 = _; omega)
      cases hx : valT a with
      | ok s =>
        obtain ⟨rfl, rfl, rfl⟩ : str = bytesArr s ∧ fr = pre.length ∧ ok = true := by have := HT.out; unfold TextIs at this; rw [hx] at this; exact this
        have hcat : (⟨#[40, 45]⟩ : ByteArray) ++ bytesArr s ++ (⟨#[41]⟩ : ByteArray) = bytesArr (oneT ⟨19, n, c⟩ s) := by
          apply ByteArray.ext
          simp [bytesArr, oneT]
        rw [hcat] at HF
        have hfin : ∀ b : Bool, b = decide (((bytesArr (oneT ⟨19, n, c⟩ s)).size : Int) ≤ 200) → TextIs (.one ⟨19, n, c⟩ a) pre.length (bytesArr (oneT ⟨19, n, c⟩ s)) pre.length b := by
          intro b hb
          have hz : (bytesArr (oneT ⟨19, n, c⟩ s)).size = (oneT ⟨19, n, c⟩ s).length := by simp [bytesArr, ByteArray.size]
          rw [hz] at hb
          unfold TextIs
          rw [HV.out, hx]
          show (match fit (oneT ⟨19, n, c⟩ s) with | .ok s' => _ | .error _ => _)
          unfold fit
          by_cases h : 200 < (oneT ⟨19, n, c⟩ s).length
          · rw [if_pos h]
            show b = false
            rw [hb]; exact decide_eq_false (by omega)
          · rw [if_neg h]
            exact ⟨rfl, rfl, by rw [hb]; exact decide_eq_true (by omega)⟩
        have HFI := Lib.hid hfin
        have hsz2 : (bytesArr (oneT ⟨19, n, c⟩ s)).size ≤ 30 * (a.flat ++ [(⟨19, n, c⟩ : T)]).length := by rw [HF.out]; simp; omega
        have HSZ := Lib.hid hsz2
        clear hfin hx HV HT HF hsz2
        generalize oneT ⟨19, n, c⟩ s = s' at *
        go_wp2_with fail
        go_ret3
        exact ⟨_, _, _, rfl, HSZ.out, HFI.out _ rfl, hb13⟩
      | error e =>
        obtain rfl : ok = false := by have := HT.out; unfold TextIs at this; rw [hx] at this; exact this
        have HFI : Hid (TextIs (.one ⟨19, n, c⟩ a) pre.length ((⟨#[40, 45]⟩ : ByteArray) ++ str ++ (⟨#[41]⟩ : ByteArray)) fr false) := Lib.hid (by unfold TextIs; rw [HV.out, hx]; rfl)
        clear hx HV HT
        go_wp2_with fail
        go_ret3
        exact ⟨_, _, _, rfl, by rw [HF.out]; simp; omega, HFI.out, hb13⟩
  | two t a b ia ib =>
    intro pre suf at_ w h0 hp ha hC
    obtain ⟨h2, ha0, hb0⟩ : takes t = 2 ∧ a.wf ∧ b.wf := h0
    obtain ⟨h3, h13⟩ := takes2 h2
    have hfl : (Tr.two t a b).flat = a.flat ++ b.flat ++ [t] := rfl
    rw [hfl] at hp ha ⊢
    rw [List.length_append, List.length_append, List.length_singleton] at ha
    have hpa := Tr.len_pos a
    have hpb := Tr.len_pos b
    have hlt : at_ < p.length := by rw [hp]; simp; omega
    have hpt : p[at_] = t := by
      have : p[at_]? = some t := by
        rw [hp, List.append_assoc, List.append_assoc, List.append_assoc, List.getElem?_append_right (by omega), List.getElem?_append_right (by omega), List.getElem?_append_right (by omega)]
        rw [show at_ - pre.length - a.flat.length - b.flat.length = 0 by omega]
        rfl
      rw [List.getElem?_eq_getElem hlt] at this
      exact Option.some.inj this
    have hti : PAll.rd_T40 p at_ = t := by simp [PAll.rd_T40, List.getD_eq_getElem?_getD, List.getElem?_eq_getElem hlt, hpt]
    obtain ⟨ad, hA, x0, x1, x2⟩ := PAll.at_T40 hC at_ (by omega) (by omega)
    subst hA
    rw [hti] at x0 x1 x2
    simp only [Int.toNat_natCast] at x0 x1 x2
    have ht := rtakes_any t
    have HC := Lib.hid hC
    have HIB := Lib.hid (ib (pre ++ a.flat) ([t] ++ suf) (at_ - 1))
    have HIA := Lib.hid (ia pre (b.flat ++ [t] ++ suf) (pre.length + a.flat.length - 1))
    have HPB := Lib.hid (show p = (pre ++ a.flat) ++ b.flat ++ ([t] ++ suf) by rw [hp]; simp)
    have HPA := Lib.hid (show p = pre ++ a.flat ++ (b.flat ++ [t] ++ suf) by rw [hp]; simp)
    have hv : valT (.two t a b) = (valT a).bind fun s => (valT b).bind fun u => fit (twoT t s u) := rfl
    have HV := Lib.hid hv
    have p1 : (0 ≤ (at_ : Int)) = True := eq_true (by omega)
    have p2 : ((at_ : Int) < (p.length : Int)) = True := eq_true (by omega)
    have hafl : a.flat.length + b.flat.length ≤ p.length := by rw [hp]; simp; omega
    have hla : (pre ++ a.flat).length = pre.length + a.flat.length := by simp
    clear hC hti hw hpt hp ia ib hv hfl
    have e1 : (at_ : Int) - 1 = ((at_ - 1 : Nat) : Int) := by omega
    go_enter Tryd.func27, Tryd.ntmps27
    go_wp2_with fail
    refine (ht _).mono ?_
    rw [h2]
    rintro e w2 ⟨rfl, hb2⟩
    obtain ⟨k0, k1, k2, f0, f1, f2, hz2, hbw2⟩ := laid3 hb2
    clear hb2 ht x0 x1 x2
    obtain ⟨k, n, c⟩ := t
    simp only at h3 h13 k0 k1 k2
    have HC2 := Lib.hid (Kd.C_below HC.out hbw2)
    clear HC
    go_wp2_with fail
    refine (HIB.out _ hb0 HPB.out (by omega) HC2.out).mono ?_
    rintro e w3 ⟨sb, fb, okb, rfl, hszb, hTb, hb3⟩
    have hb13 := below_then hbw2 (Nat.le_of_lt hz2) hb3
    have k0' := (hb3.cell (p := ⟨w.heap.size, 0, none⟩) hz2).trans k0
    have hz3 : w.heap.size < w3.heap.size := Nat.lt_of_lt_of_le hz2 hb3.size
    have HTB := Lib.hid hTb
    have HC3 := Lib.hid (Kd.C_below HC2.out hb3)
    clear hTb HIB HPB HC2 k0 k1 k2 f0 f1 f2 e1
    cases hxb : valT b with
    | error e =>
      obtain rfl : okb = false := by have := HTB.out; unfold TextIs at this; rw [hxb] at this; exact this
      have HFI : Hid (TextIs (.two ⟨k, n, c⟩ a b) pre.length ⟨#[]⟩ 0 false) := Lib.hid (by
        unfold TextIs; rw [HV.out, hxb]
        cases valT a <;> rfl)
      clear HV HTB hxb
      go_wp2_with fail
      go_ret3
      exact ⟨_, _, _, rfl, by simp [ByteArray.size], HFI.out, hb13⟩
    | ok ub =>
      obtain ⟨rfl, rfl, rfl⟩ : sb = bytesArr ub ∧ fb = (pre ++ a.flat).length ∧ okb = true := by have := HTB.out; unfold TextIs at this; rw [hxb] at this; exact this
      rw [hla]
      clear HTB
      have e2 : (pre.length : Int) + (a.flat.length : Int) - 1 = ((pre.length + a.flat.length - 1 : Nat) : Int) := by omega
      go_wp2_with fail
      refine (HIA.out _ ha0 HPA.out (by omega) HC3.out).mono ?_
      rintro e w4 ⟨sa, fa, oka, rfl, hsza, hTa, hb4⟩
      have hb14 := below_then hb13 hb13.size hb4
      have k0'' := (hb4.cell (p := ⟨w.heap.size, 0, none⟩) hz3).trans k0'
      have HTA := Lib.hid hTa
      clear hTa HIA HPA HC3 e2 k0' hb3
      go_wp2_with fail
      refine (PAll.spinetref02_Sign.calls k _ _ (sign_f k)).mono ?_
      rintro e w5 ⟨rfl, ⟨n5, rfl⟩⟩
      have hb15 := below_drewN' hb14 n5
      have hkl : (kText k).length ≤ 20 := kText_len k
      have zk : (bytesArr (kText k)).size = (kText k).length := by simp [bytesArr, ByteArray.size]
      have zs : (bytesArr (sgn k)).size ≤ 22 := by
        have : (bytesArr (sgn k)).size = (sgn k).length := by simp [bytesArr, ByteArray.size]
        rw [this]; unfold sgn; split <;> simp <;> omega
      have s5 : (9223372036854775807 < 1 + (bytesArr (kText k)).size) = False := eq_false (by omega)
      have s6 : (9223372036854775807 < 1 + (bytesArr (kText k)).size + 1) = False := eq_false (by omega)
      have s1 : (9223372036854775807 < 1 + sa.size) = False := eq_false (by omega)
      have s2 : (9223372036854775807 < 1 + sa.size + (bytesArr (sgn k)).size) = False := eq_false (by omega)
      have s3 : (9223372036854775807 < 1 + sa.size + (bytesArr (sgn k)).size + (bytesArr ub).size) = False := eq_false (by omega)
      have s4 : (9223372036854775807 < 1 + sa.size + (bytesArr (sgn k)).size + (bytesArr ub).size + 1) = False := eq_false (by omega)
      have HF : Hid (((⟨#[40]⟩ : ByteArray) ++ sa ++ bytesArr (sgn k) ++ bytesArr ub ++ (⟨#[41]⟩ : ByteArray)).size = sa.size + (bytesArr (sgn k)).size + (bytesArr ub).size + 2) := Lib.hid (by
        rw [ByteArray.size_append, ByteArray.size_append, ByteArray.size_append, ByteArray.size_append]; show 1 + sa.size + _ + _ + 1 = _; omega)
      have HSZ : Hid (((⟨#[40]⟩ : ByteArray) ++ sa ++ bytesArr (sgn k) ++ bytesArr ub ++ (⟨#[41]⟩ : ByteArray)).size ≤ 30 * (a.flat ++ b.flat ++ [(⟨k, n, c⟩ : T)]).length) := Lib.hid (by rw [HF.out]; simp; omega)
      have HSG : Hid (¬ 12 ≤ k → bytesArr (kText k) = bytesArr (sgn k)) := Lib.hid (fun h => by unfold sgn; rw [if_neg h])
      have HSG2 : Hid (12 ≤ k → (⟨#[32]⟩ : ByteArray) ++ bytesArr (kText k) ++ (⟨#[32]⟩ : ByteArray) = bytesArr (sgn k)) := Lib.hid (fun h => by unfold sgn; rw [if_pos h]; apply ByteArray.ext; simp [bytesArr])
      have HFI : Hid (TextIs (.two ⟨k, n, c⟩ a b) pre.length ((⟨#[40]⟩ : ByteArray) ++ sa ++ bytesArr (sgn k) ++ bytesArr ub ++ (⟨#[41]⟩ : ByteArray)) fa (oka && decide (1 + (sa.size : Int) + ((bytesArr (sgn k)).size : Int) + ((bytesArr ub).size : Int) + 1 ≤ 200))) := Lib.hid (by
        have := HTA.out
        unfold TextIs at this ⊢
        rw [HV.out]
        cases hxa : valT a with
        | error e =>
          rw [hxa] at this
          have this : oka = false := this
          subst this
          rfl
        | ok ua =>
          rw [hxa] at this
          obtain ⟨rfl, rfl, rfl⟩ : sa = bytesArr ua ∧ fa = pre.length ∧ oka = true := this
          have hcat : (⟨#[40]⟩ : ByteArray) ++ bytesArr ua ++ bytesArr (sgn k) ++ bytesArr ub ++ (⟨#[41]⟩ : ByteArray) = bytesArr (twoT ⟨k, n, c⟩ ua ub) := by
            apply ByteArray.ext
            simp [bytesArr, twoT]
          have hz : (bytesArr (twoT ⟨k, n, c⟩ ua ub)).size = (twoT ⟨k, n, c⟩ ua ub).length := by simp [bytesArr, ByteArray.size]
          have hz2 : 1 + ((bytesArr ua).size : Int) + ((bytesArr (sgn k)).size : Int) + ((bytesArr ub).size : Int) + 1 = (twoT ⟨k, n, c⟩ ua ub).length := by
            have := HF.out
            rw [hcat, hz] at this
            omega
          rw [hcat, hz2, hxb]
          show (match fit (twoT ⟨k, n, c⟩ ua ub) with | .ok s' => _ | .error _ => _)
          unfold fit
          by_cases h : 200 < (twoT ⟨k, n, c⟩ ua ub).length
          · rw [if_pos h]
            show (true && decide _) = false
            rw [Bool.true_and]; exact decide_eq_false (by omega)
          · rw [if_neg h]
            exact ⟨rfl, rfl, by rw [Bool.true_and]; exact decide_eq_true (by omega)⟩)
      clear HTA HF HV hxb zk zs hkl
      by_cases h12 : 12 ≤ k
      · have e12 : (k ≥ 12) = True := eq_true h12
        have hsg := HSG2.out h12
        clear HSG HSG2 h12
        generalize sgn k = sg at *
        generalize kText k = kt at *
        cases oka with
        | true =>
          go_wp2_with fail
          go_ret3
          have hfi := HFI.out
          simp only [Bool.true_and] at hfi
          exact ⟨_, _, _, rfl, HSZ.out, hfi, hb15⟩
        | false =>
          go_wp2_with fail
          go_ret3
          have hfi := HFI.out
          simp only [Bool.false_and] at hfi
          exact ⟨_, _, _, rfl, HSZ.out, hfi, hb15⟩
      · have e12 : (k ≥ 12) = False := eq_false h12
        have hsg := HSG.out h12
        clear HSG HSG2 h12 s5 s6
        rw [hsg]
        clear hsg
        generalize sgn k = sg at *
        cases oka with
        | true =>
          go_wp2_with fail
          go_ret3
          have hfi := HFI.out
          simp only [Bool.true_and] at hfi
          exact ⟨_, _, _, rfl, HSZ.out, hfi, hb15⟩
        | false =>
          go_wp2_with fail
          go_ret3
          have hfi := HFI.out
          simp only [Bool.false_and] at hfi
          exact ⟨_, _, _, rfl, HSZ.out, hfi, hb15⟩
end Go.Proofs.YtldcplgfkcionaaDoor
