/- The law ActParts. -/
import Derived.Test.YtldcplgfkcionaaDoorActup
import Derived.Test.YtldcplgfkcionaaDoorActsame
import Derived.Test.YtldcplgfkcionaaDoorActArg
import Derived.Test.YtldcplgfkcionaaDoorExprArg
set_option linter.unusedVariables false
set_option linter.unusedSimpArgs false
namespace Go.Proofs.YtldcplgfkcionaaDoor
open Go.RowKit Go.Proofs.YtldcplgfkcionaaDoorW.PrintWords
open PX (T V)
/-! ### plain: actions in two parts -/
theorem one_pre (e : List Int) (o : List Ou) (i : List Int) (o' : List Ou) (i' : List Int) (a : Ac) :
    (oneA ⟨e, o ++ o', i ++ i'⟩ a).2 = (oneA ⟨e, o', i'⟩ a).2 ∧ (oneA ⟨e, o ++ o', i ++ i'⟩ a).1 = ⟨(oneA ⟨e, o', i'⟩ a).1.env, o ++ (oneA ⟨e, o', i'⟩ a).1.out, i ++ (oneA ⟨e, o', i'⟩ a).1.inn⟩ := by
  unfold oneA
  simp only
  repeat' split
  all_goals simp
theorem do_pre (l : List Ac) : ∀ (e : List Int) (o : List Ou) (i : List Int) (o' : List Ou) (i' : List Int),
    doA ⟨e, o ++ o', i ++ i'⟩ l = ⟨(doA ⟨e, o', i'⟩ l).env, o ++ (doA ⟨e, o', i'⟩ l).out, i ++ (doA ⟨e, o', i'⟩ l).inn⟩ := by
  induction l with
  | nil => intro e o i o' i'; rfl
  | cons a l ih =>
    intro e o i o' i'
    obtain ⟨h1, h2⟩ := one_pre e o i o' i' a
    simp only [doA]
    rw [h1, h2]
    split
    · exact ih _ _ _ _ _
    · simp
theorem do_two (l1 l2 : List Ac) : ∀ s, 1001 ∉ (doA s l1).inn → doA s (l1 ++ l2) = doA (doA s l1) l2 := by
  induction l1 with
  | nil => intro s _; rfl
  | cons a l ih =>
    intro s h
    simp only [doA, List.cons_append] at h ⊢
    split
    · rename_i hc; rw [if_pos hc] at h; exact ih _ h
    · rename_i hc; rw [if_neg hc] at h; simp at h
/-- Actions in two parts. -/
theorem do_parts (l : List Ac) (n : Nat) (env : List Int) (h : 1001 ∉ (doA ⟨env, [], []⟩ (l.take n)).inn) :
    (doA ⟨env, [], []⟩ l).env = (doA ⟨(doA ⟨env, [], []⟩ (l.take n)).env, [], []⟩ (l.drop n)).env ∧
    (doA ⟨env, [], []⟩ l).out = (doA ⟨env, [], []⟩ (l.take n)).out ++ (doA ⟨(doA ⟨env, [], []⟩ (l.take n)).env, [], []⟩ (l.drop n)).out ∧
    (doA ⟨env, [], []⟩ l).inn = (doA ⟨env, [], []⟩ (l.take n)).inn ++ (doA ⟨(doA ⟨env, [], []⟩ (l.take n)).env, [], []⟩ (l.drop n)).inn := by
  have h1 := do_two (l.take n) (l.drop n) ⟨env, [], []⟩ h
  rw [List.take_append_drop] at h1
  rw [h1]
  have h2 := do_pre (l.drop n) (doA ⟨env, [], []⟩ (l.take n)).env (doA ⟨env, [], []⟩ (l.take n)).out (doA ⟨env, [], []⟩ (l.take n)).inn [] []
  rw [List.append_nil, List.append_nil] at h2
  rw [show (⟨(doA ⟨env, [], []⟩ (l.take n)).env, (doA ⟨env, [], []⟩ (l.take n)).out, (doA ⟨env, [], []⟩ (l.take n)).inn⟩ : Ds) = doA ⟨env, [], []⟩ (l.take n) from rfl] at h2
  rw [h2]
  exact ⟨rfl, rfl, rfl⟩
theorem one_env (s : Ds) (a : Ac) : (oneA s a).1.env.length = s.env.length := by
  unfold oneA
  repeat' split
  all_goals simp
theorem do_len (l : List Ac) : ∀ s : Ds, (doA s l).env.length = s.env.length ∧ (doA s l).out.length ≤ s.out.length + l.length ∧ (doA s l).inn.length ≤ s.inn.length + l.length + 1 := by
  induction l with
  | nil => intro s; simp [doA]
  | cons a l ih =>
    intro s
    have h1 := one_env s a
    have h2 := one_len s a
    have h3 := ih (oneA s a).1
    simp only [doA]
    split
    · simp only [List.length_cons]; omega
    · simp only [List.length_cons, List.length_append, List.length_nil]; omega
/-- append(v, ys...) behind a guard that lets it on. -/
theorem rows_on {α : Type} {P : Program} {ops : Array Oper} {rest : List Oper} {o : Oper} {a : Act} {Q : Exit → Act → World → Prop} (d : Kd α) {W : World} (base : Nat) (hw : Region.wanted o (yielded ops a.tmps) = true) (s x : Operand) (t e : TypeId) (z : Value) (bytes : Nat)
    (ho : o.op = .call { callee := .builtin .append, args := #[s, x], argTypes := #[t, t] })
    (ht : P.underlying t = some (.slice e)) (hinfo : (P.info? e).map (fun i => (i.zero, i.size, i.bytes)) = some (some z, d.sz, bytes)) (hz : z.cells.size = d.sz) (hs0 : 0 < d.sz) (hb0 : 0 < bytes)
    (v : Value) (xs ys : List α) (A : Option Addr) (m c : Nat) (hs : a.eval s = v) (hx : a.eval x = .slice A m c)
    (HO : d.R e W base (fun _ => True) v xs) (HR : d.C W A m ys) (hKM : ∀ x cs, d.K W x cs → d.M W base (fun _ => False) x cs)
    (hbase : base ≤ W.heap.size) (hl : (xs.length + m) * bytes ≤ 140737488355328)
    (h : ∀ v1 w1, d.R e w1 base (fun _ => True) v1 (xs ++ ys) → Below base W w1 → wpList P ops Q rest (a.put o.dst v1) w1) :
    wpList P ops Q (o :: rest) a W :=
  wpList_step fun K hK => Kd.R_append_rows_step (Rr := d.K W) (Kc := K) d base hw s x t e z bytes ho ht hinfo hz hs0 hb0 v xs ys A m c (fun _ => True) (fun _ => False) hs hx HO HR hKM (fun _ h => h.elim) (fun _ _ => trivial) (Below.refl _ _) hbase hl
    (fun v1 w1 h1 h2 _ _ => hK _ _ (h v1 w1 h1 h2))
theorem lit_R {α : Type} (d : Kd α) (e : Nat) (W : World) (base : Nat) (hb : base ≤ W.heap.size) : d.R e (W.alloc (.cells #[] e)) base (fun _ => True) (.slice (some ⟨W.heap.size, 0, none⟩) 0 0) [] :=
  ⟨fun _ _ => trivial, [], by simpa using World.ownsRow_lit (base := base) (e := e) (size := d.sz) W #[] 0 hb (by simp) (by simp), ⟨by simp, fun j p hj => by simp at hj⟩⟩
theorem outs_anyn (A B : Option Addr) (c d m k : Nat) (l l' : List Ou) (he : l = l') (hm : l.length = m) (hk : l.length = k) (hl : l.length ≤ 1000000) (w : World) (h1 : Kd.C PAll.k112 w A l.length l) (hc : l.length ≤ c) (h2 : Kd.C PAll.k112 w B l'.length l') (hd : l'.length ≤ d) :
    Calls Tryd.prog 39 #[.slice A m c, .slice B k d] w fun e w' => e = .returned (.bool true) ∧ Below w.heap.size w w' := by
  subst he; subst hm; subst hk
  exact outs_any A B c d l hl w h1 hc h2 hd
theorem ints_anyn (A B : Option Addr) (c d m k : Nat) (l l' : List Int) (he : l = l') (hm : l.length = m) (hk : l.length = k) (hl : l.length ≤ 1000000) (w : World) (h1 : Kd.C (Kd.int .i64) w A l.length l) (hc : l.length ≤ c) (h2 : Kd.C (Kd.int .i64) w B l'.length l') (hd : l'.length ≤ d) :
    Calls Tryd.prog 40 #[.slice A m c, .slice B k d] w fun e w' => e = .returned (.bool true) ∧ Below w.heap.size w w' := by
  subst he; subst hm; subst hk
  exact ints_any A B c d l hl w h1 hc h2 hd
theorem nums_anyn (A B : Option Addr) (c d m k : Nat) (l l' : List Int) (he : l = l') (hm : l.length = m) (hk : l.length = k) (hl : l.length ≤ 1000000) (w : World) (h1 : NumsC w A l.length l) (hc : l.length ≤ c) (h2 : NumsC w B l'.length l') (hd : l'.length ≤ d) :
    Calls Tryd.prog 38 #[.slice A m c, .slice B k d] w fun e w' => e = .returned (.bool true) ∧ Below w.heap.size w w' := by
  subst he; subst hm; subst hk
  exact nums_any A B c d l hl w h1 hc h2 hd
theorem do_anyn (A : Option Addr) (c m : Nat) (l : List Ac) (hm : l.length = m) (E : Option Addr) (cap k : Nat) (env : List Int) (hk : env.length = k) (w : World) (hw : Laid w) (hA : ActsC w A l.length l) (hcA : l.length ≤ c) (hC : NumsC w E env.length env) (hc : env.length ≤ cap) (hl : l.length ≤ 1000) (hle : env.length ≤ 1000000) (ht : ∀ a ∈ l, a.f3.size ≤ 281474976710656) :
    Calls Tryd.prog 37 #[.slice A m c, .slice E k cap] w fun e w' => ∃ ve vo vi, e = .returned (.tuple #[ve, vo, vi]) ∧ EnvR w' w.heap.size ve (doA ⟨env, [], []⟩ l).env ∧ OutR w' w.heap.size vo (doA ⟨env, [], []⟩ l).out ∧ InnR w' w.heap.size vi (doA ⟨env, [], []⟩ l).inn ∧ Below w.heap.size w w' := by
  subst hm hk
  exact do_any A c l E cap env w hw hA hcA hC hc hl hle ht
set_option maxHeartbeats 16000000 in
set_option maxRecDepth 100000 in
theorem ActParts_walk (w : World) (hw : Laid w) (v0 : Value) (x0 : List (Int × Int × Int × ByteArray × Unit)) (v1 : Value) (x1 : List Int) (v2 : Value) (n : Int) (h0 : RAct.slice.ok (fun b => b < w.heap.size) w [v0] x0) (h1 : (Rep.int .i64).slice.ok (fun b => b < w.heap.size) w [v1] x1) (h2 : (Rep.int .i64).ok (fun b => b < w.heap.size) w [v2] n) :
    Calls Tryd.prog 12 #[v0, v1, v2] w fun e w' => e = .returned (.bool true) ∧ Below w.heap.size w w' := by
  obtain ⟨A, ca, l, rfl, hca, hA⟩ := actArg h0
  obtain ⟨E, ecap, rfl, hec, hE, _⟩ := numArg h1
  obtain ⟨h2, hn⟩ := h2
  obtain rfl : v2 = .int .i64 n := by simpa using h2
  have hn := bounds_i64 hn
  clear h0 h1 h2
  have HA := Lib.hid hA
  have HE := Lib.hid hE
  clear hA hE
  go_enter Tryd.func12, Tryd.ntmps12
  go_wp2_with fail
  refine (up11 _ hw).mono ?_
  rintro e w1 ⟨rfl, hb1⟩
  go_wp2_with fail
  refine (few_any A ca l _ (Kd.C_below HA.out hb1) hca).mono ?_
  rintro e w2 ⟨rfl, hb2⟩
  have hb12 := below_then hb1 hb1.size hb2
  have HB2 := Lib.hid hb12
  clear hb1 hb2 hb12
  by_cases hbad : fewA l = false ∨ 40 < x1.length ∨ n < 0 ∨ (l.length : Int) < n
  · have hor : fewA l = false ∨ (fewA l = true ∧ decide ((x1.length : Int) > 40) = true) ∨ (fewA l = true ∧ decide ((x1.length : Int) > 40) = false ∧ decide (n < 0) = true) ∨ (fewA l = true ∧ decide ((x1.length : Int) > 40) = false ∧ decide (n < 0) = false ∧ decide (n > (l.length : Int)) = true) := by
      cases hf : fewA l with
      | false => exact .inl rfl
      | true =>
        by_cases h2 : 40 < x1.length
        · exact .inr (.inl ⟨rfl, decide_eq_true (by omega)⟩)
        · by_cases h3 : n < 0
          · exact .inr (.inr (.inl ⟨rfl, decide_eq_false (by omega), decide_eq_true h3⟩))
          · have h4 : (l.length : Int) < n := by
              rcases hbad with h | h | h | h
              · rw [hf] at h; cases h
              · exact absurd h h2
              · exact absurd h h3
              · exact h
            exact .inr (.inr (.inr ⟨rfl, decide_eq_false (by omega), decide_eq_false h3, decide_eq_true h4⟩))
    clear hbad
    rcases hor with q1 | ⟨q1, q2⟩ | ⟨q1, q2, q3⟩ | ⟨q1, q2, q3, q4⟩
    all_goals
      simp only [q1]
      go_wp2_with fail
      go_ret
      exact ⟨rfl, HB2.out⟩
  have hfe : fewA l = true := by cases hf : fewA l with
    | true => rfl
    | false => exact absurd (.inl hf) hbad
  have q2 : decide ((x1.length : Int) > 40) = false := decide_eq_false (by omega)
  have q3 : decide (n < 0) = false := decide_eq_false (by omega)
  have q4 : decide (n > (l.length : Int)) = false := decide_eq_false (by omega)
  have hl : l.length ≤ 40 ∧ ∀ a ∈ l, a.f3.size ≤ 281474976710656 := by
    unfold fewA at hfe
    simp only [Bool.and_eq_true, List.all_eq_true, decide_eq_true_eq] at hfe
    exact ⟨hfe.2, fun a ha => by have := hfe.1 a ha; omega⟩
  have HL := Lib.hid hl
  obtain ⟨j, rfl, hj⟩ : ∃ j : Nat, n = (j : Int) ∧ j ≤ l.length := ⟨n.toNat, by omega, by omega⟩
  have hx1 : x1.length ≤ 40 := by omega
  clear hl hbad
  simp only [hfe]
  go_wp2_with (at_builtin; refine Kd.R_append_rows (Kd.int .i64) (Rr := (Kd.int .i64).K w2) (w0 := w2) w2.heap.size rfl (.tmp 41) (.tmp 42) 52 2 (.int .i64 0) 8 rfl Tryd.underlying52 (by kernel_rfl) rfl (by decide) (by omega) (.slice (some ⟨w2.heap.size, 0, none⟩) 0 0) [] x1 E x1.length ecap (fun _ => True) (fun _ => False) rfl rfl ?aA ?aB (fun _ _ h => h) (fun _ h => h.elim) (fun _ _ => trivial) ?aC ?aD ?aE ?_)
  case aA => exact Kd.R_of_own (enc := Value.int .i64) (h1 := fun _ => rfl) (own_lit_of (enc := Value.int .i64) w2 w2.heap.size 2 [] (Nat.le_refl _) (by simp)) (fun _ _ => trivial)
  case aB => exact Kd.C_alloc (Kd.C_below HE.out HB2.out) _
  case aC => exact (Below.refl _ w2).alloc (Nat.le_refl _) _
  case aD => simp
  case aE => simp; omega
  intro vo w3 hO hb3 _ _
  have hO : EnvR w3 w2.heap.size vo x1 := hO
  have hb23 := below_then HB2.out HB2.out.size hb3
  have HB3 := Lib.hid hb23
  obtain ⟨O, oc, rfl, hoc, hOC⟩ := Kd.R_reads hO
  have HO := Lib.hid hOC
  clear hb3 hb23 hO hOC
  obtain ⟨inf, hinf, hsz⟩ := Option.map_eq_some_iff.1 (show (Tryd.prog.info? 105).map (·.size) = some 4 by kernel_rfl)
  have kto := cut_to (P := Tryd.prog) 62 105 .i64 Tryd.underlying62 hinf A l.length ca (j : Int) (by omega) (by omega) hca
  have kfr := cut_from (P := Tryd.prog) 62 105 .i64 Tryd.underlying62 hinf 4 hsz A l.length ca (j : Int) (by omega) (by omega)
  rw [Int.toNat_natCast] at kto kfr
  have hdr : ∀ W, ActsC W A l.length l → ActsC W (if ca = j then A else A.map (·.add (j * 4))) (l.drop j).length (l.drop j) := fun W h => Kd.C_drop h hj hca
  generalize (if ca = j then A else A.map (·.add (j * 4))) = A2 at kfr hdr
  have HDR := Lib.hid hdr
  clear hsz hinf hdr
  go_wp2_with fail
  refine (do_any A ca l O oc x1 _ (hw.below HB3.out) (Kd.C_below HA.out HB3.out) hca HO.out hoc (by have := HL.out.1; omega) (by omega) HL.out.2).mono ?_
  have hxl := (do_len l ⟨x1, [], []⟩)
  obtain ⟨hx1l, hx2l, hx3l⟩ := hxl
  have HP := Lib.hid (do_parts l j x1)
  generalize doA ⟨x1, [], []⟩ l = r at hx1l hx2l hx3l HP ⊢
  simp only [List.length_nil] at hx1l hx2l hx3l
  rintro e w4 ⟨vx, vu, vi, rfl, hx, hu, hi, hb4⟩
  have HB4 := Lib.hid (below_then HB3.out HB3.out.size hb4)
  have HO4 := Lib.hid (Kd.C_below HO.out hb4)
  obtain ⟨X, xc, rfl, hxc, hX⟩ := Kd.R_reads hx
  obtain ⟨U, uc, rfl, huc, hU⟩ := Kd.R_reads hu
  obtain ⟨I, ic, rfl, hic, hI⟩ := Kd.R_reads hi
  have HX := Lib.hid hX
  have HU := Lib.hid hU
  have HI := Lib.hid hI
  clear hx hu hi hb4 hX hU hI
  have q5 : ((r.env.length : Int) == (x1.length : Int)) = true := by rw [hx1l]; simp
  go_wp2_with fail
  refine (nums_any O E oc ecap x1 (by omega) _ HO4.out hoc (Kd.C_below HE.out HB4.out) hec).mono ?_
  rintro e w5 ⟨rfl, hb5⟩
  have HB5 := Lib.hid (below_then HB4.out HB4.out.size hb5)
  have HX5 := Lib.hid (Kd.C_below HX.out hb5)
  have HU5 := Lib.hid (Kd.C_below HU.out hb5)
  have HI5 := Lib.hid (Kd.C_below HI.out hb5)
  clear hb5 HX HU HI HO4 HO
  go_wp2_with fail
  have hjl : (l.take j).length = j := by rw [List.length_take]; omega
  refine (do_anyn A ca j (l.take j) hjl E ecap x1.length x1 rfl _ (hw.below HB5.out) (Kd.C_take (Kd.C_below HA.out HB5.out) hj) (by omega) (Kd.C_below HE.out HB5.out) hec (by have := HL.out.1; omega) (by omega) (fun a ha => HL.out.2 a (List.mem_of_mem_take ha))).mono ?_
  have hxl2 := (do_len (l.take j) ⟨x1, [], []⟩)
  obtain ⟨hy1l, hy2l, hy3l⟩ := hxl2
  generalize doA ⟨x1, [], []⟩ (l.take j) = ra at hy1l hy2l hy3l HP ⊢
  simp only [List.length_nil, hjl] at hy1l hy2l hy3l
  have hbl : ra.inn.length ≤ 1000 ∧ ra.out.length ≤ 1000 ∧ ra.env.length ≤ 1000 := by have := HL.out.1; omega
  rintro e w6 ⟨va, vb, vc, rfl, hx, hu, hi, hb6⟩
  have HB6 := Lib.hid (below_then HB5.out HB5.out.size hb6)
  have HX6 := Lib.hid (Kd.C_below HX5.out hb6)
  have HU6 := Lib.hid (Kd.C_below HU5.out hb6)
  have HI6 := Lib.hid (Kd.C_below HI5.out hb6)
  obtain ⟨a1, a1c, rfl, ha1, hA1⟩ := Kd.R_reads hx
  obtain ⟨b1, b1c, rfl, hb1, hB1⟩ := Kd.R_reads hu
  obtain ⟨c1, c1c, rfl, hc1, hC1⟩ := Kd.R_reads hi
  have HA1 := Lib.hid hA1
  have HB1 := Lib.hid hB1
  have HC1 := Lib.hid hC1
  clear hx hu hi hb6 hA1 hB1 hC1 HX5 HU5 HI5
  go_wp2_with fail
  go_loopw [16] (fun i wr => ∃ q : Nat, i = .int .i64 q ∧ q ≤ ra.inn.length ∧ wr = w6 ∧ Hid (∀ p, p < q → ra.inn[p]? ≠ some 1001)) (fun i _ => ra.inn.length - (intOf i).toNat)
  case atStart => exact ⟨0, rfl, Nat.zero_le _, rfl, Lib.hid (fun p hp => by omega)⟩
  case round =>
    obtain ⟨q, rfl, hq, rfl, HQ⟩ := hrel
    by_cases hlt : q < ra.inn.length
    · have p1 : ((q : Int) < (ra.inn.length : Int)) = True := eq_true (by omega)
      obtain ⟨ad, rfl, k0⟩ := nums_at HC1.out q hlt
      by_cases hk : ra.inn[q] = 1001
      · have k1 : (ra.inn[q] == (1001 : Int)) = true := by simp [hk]
        generalize ra.inn[q] = z at k0 k1
        go_wp2_with fail
        go_ret
        exact ⟨rfl, HB6.out⟩
      · have k1 : (ra.inn[q] == (1001 : Int)) = false := by simp [hk]
        have HK := Lib.hid hk
        have HQ2 : Hid (∀ p, p < q + 1 → ra.inn[p]? ≠ some 1001) := Lib.hid (by
          intro p hp
          by_cases h : p < q
          · exact HQ.out p h
          · obtain rfl : p = q := by omega
            rw [List.getElem?_eq_getElem hlt]
            intro h
            injection h with h
            exact HK.out h)
        clear hk HK
        generalize ra.inn[q] = z at k0 k1
        go_wp2_with fail
        go_roundw
        case rel => exact ⟨q + 1, by go_num, by omega, by trivial, HQ2⟩
        case measure => simp [intOf]; omega
    · obtain rfl : q = ra.inn.length := by omega
      have hno : 1001 ∉ ra.inn := by
        intro h
        obtain ⟨p, hp, he⟩ := List.mem_iff_getElem.1 h
        exact HQ.out p hp (by rw [List.getElem?_eq_getElem hp, he])
      obtain ⟨g1, g2, g3⟩ := HP.out hno
      have HG := Lib.hid (And.intro g1 (And.intro g2 g3))
      clear g1 g2 g3 hno HQ HP
      have hdl : (l.drop j).length = l.length - j := by rw [List.length_drop]
      go_wp2_with fail
      refine (do_anyn A2 (ca - j) (l.length - j) (l.drop j) hdl a1 a1c x1.length ra.env hy1l _ (hw.below HB6.out) (HDR.out _ (Kd.C_below HA.out HB6.out)) (by omega) HA1.out ha1 (by have := HL.out.1; omega) (by omega) (fun a ha => HL.out.2 a (List.mem_of_mem_drop ha))).mono ?_
      have hxl3 := (do_len (l.drop j) ⟨ra.env, [], []⟩)
      obtain ⟨hz1l, hz2l, hz3l⟩ := hxl3
      generalize doA ⟨ra.env, [], []⟩ (l.drop j) = rd at hz1l hz2l hz3l HG ⊢
      simp only [List.length_nil, hdl] at hz1l hz2l hz3l
      have hbl2 : rd.inn.length ≤ 1000 ∧ rd.out.length ≤ 1000 ∧ rd.env.length ≤ 1000 := by have := HL.out.1; omega
      rintro e w7 ⟨vd, ve, vf, rfl, hx, hu, hi, hb7⟩
      have HB7 := Lib.hid (below_then HB6.out HB6.out.size hb7)
      have HX7 := Lib.hid (Kd.C_below HX6.out hb7)
      have HU7 := Lib.hid (Kd.C_below HU6.out hb7)
      have HI7 := Lib.hid (Kd.C_below HI6.out hb7)
      have HB17 := Lib.hid (Kd.C_below HB1.out hb7)
      have HC17 := Lib.hid (Kd.C_below HC1.out hb7)
      obtain ⟨d1, d1c, rfl, hd1, hD1⟩ := Kd.R_reads hx
      obtain ⟨e1, e1c, rfl, he1, hE1⟩ := Kd.R_reads hu
      obtain ⟨f1, f1c, rfl, hf1, hF1⟩ := Kd.R_reads hi
      have HD1 := Lib.hid hD1
      have HE1 := Lib.hid hE1
      have HF1 := Lib.hid hF1
      clear hx hu hi hb7 hD1 hE1 hF1 HX6 HU6 HI6 HB1 HC1
      go_wp2_with fail
      refine (nums_anyn X d1 xc d1c _ _ r.env rd.env HG.out.1 (by omega) (by have := congrArg List.length HG.out.1; omega) (by omega) _ HX7.out hxc HD1.out hd1).mono ?_
      rintro e w8 ⟨rfl, hb8⟩
      have HB8 := Lib.hid (below_then HB7.out HB7.out.size hb8)
      have HU8 := Lib.hid (Kd.C_below HU7.out hb8)
      have HI8 := Lib.hid (Kd.C_below HI7.out hb8)
      have HB18 := Lib.hid (Kd.C_below HB17.out hb8)
      have HC18 := Lib.hid (Kd.C_below HC17.out hb8)
      have HE8 := Lib.hid (Kd.C_below HE1.out hb8)
      have HF8 := Lib.hid (Kd.C_below HF1.out hb8)
      clear hb8 HX7 HU7 HI7 HB17 HC17 HD1 HE1 HF1
      go_wp2_with (at_builtin; refine rows_on PAll.k112 w8.heap.size (by rfl) (.tmp 100) (.tmp 101) 64 112 (.agg #[(.int .i64 0), (.int .i64 0), (.int .i64 0), (.int .i64 0)]) 32 rfl Tryd.underlying64 (by kernel_rfl) rfl (by decide) (by omega) _ [] ra.out b1 ra.out.length b1c rfl rfl ?bA ?bB ?bC ?bD ?bE ?_)
      case bA => exact lit_R _ _ _ _ (Nat.le_refl _)
      case bB => exact Kd.C_alloc HB18.out _
      case bC => intro x cs h; rw [PAll.k112_open h]; exact PAll.k112_mkM _ _ _ x
      case bD => simp
      case bE => simp; omega
      intro v1 w9 hR1 hb9
      have H89 : Hid (Below w8.heap.size w8 w9) := Lib.hid (((Below.refl _ w8).alloc (Nat.le_refl _) _).trans hb9)
      have HR1 : Hid (OutR w9 w8.heap.size v1 ra.out) := Lib.hid hR1
      have HE9 := Lib.hid (Kd.C_below HE8.out H89.out)
      obtain ⟨G1, g1c, rfl⟩ := Kd.R_slice hR1
      clear hR1 hb9 HB18
      go_wp2_with (at_builtin; refine rows_on PAll.k112 w8.heap.size (by rfl) (.tmp 102) (.tmp 103) 64 112 (.agg #[(.int .i64 0), (.int .i64 0), (.int .i64 0), (.int .i64 0)]) 32 rfl Tryd.underlying64 (by kernel_rfl) rfl (by decide) (by omega) _ ra.out rd.out e1 rd.out.length e1c rfl rfl HR1.out HE9.out (fun x cs h => by rw [PAll.k112_open h]; exact PAll.k112_mkM _ _ _ x) H89.out.size (by omega) ?_)
      intro v2 w10 hR2 hb10
      have h810 := H89.out.trans hb10
      have HB10 := Lib.hid (below_then HB8.out HB8.out.size h810)
      have HU10 := Lib.hid (Kd.C_below HU8.out h810)
      have HI10 := Lib.hid (Kd.C_below HI8.out h810)
      have HC10 := Lib.hid (Kd.C_below HC18.out h810)
      have HF10 := Lib.hid (Kd.C_below HF8.out h810)
      obtain ⟨G2, g2c, rfl, hg2, hG2⟩ := Kd.R_reads hR2
      have HG2 := Lib.hid hG2
      have hlo : r.out.length = ra.out.length + rd.out.length := by rw [HG.out.2.1, List.length_append]
      have hli : r.inn.length = ra.inn.length + rd.inn.length := by rw [HG.out.2.2, List.length_append]
      clear hR2 hb10 h810 H89 HR1 HE9 HU8 HI8 HC18 HF8 HE8 hG2
      go_wp2_with fail
      refine (outs_anyn U G2 uc g2c _ _ r.out (ra.out ++ rd.out) HG.out.2.1 (by first | rfl | omega) (by first | omega | (simp; omega)) (by omega) _ HU10.out huc HG2.out hg2).mono ?_
      rintro e w11 ⟨rfl, hb11⟩
      have HB11 := Lib.hid (below_then HB10.out HB10.out.size hb11)
      have HI11 := Lib.hid (Kd.C_below HI10.out hb11)
      have HC11 := Lib.hid (Kd.C_below HC10.out hb11)
      have HF11 := Lib.hid (Kd.C_below HF10.out hb11)
      clear hb11 HU10 HI10 HC10 HF10 HG2 hg2
      go_wp2_with (at_builtin; refine rows_on (Kd.int .i64) w11.heap.size (by rfl) (.tmp 109) (.tmp 110) 65 3 (.int .i64 0) 8 rfl Tryd.underlying65 (by kernel_rfl) rfl (by decide) (by omega) _ [] ra.inn c1 ra.inn.length c1c rfl rfl ?cA ?cB (fun _ _ h => h) ?cD ?cE ?_)
      case cA => exact lit_R _ _ _ _ (Nat.le_refl _)
      case cB => exact Kd.C_alloc HC11.out _
      case cD => simp
      case cE => simp; omega
      intro v3 w12 hR3 hb12
      have H112 : Hid (Below w11.heap.size w11 w12) := Lib.hid (((Below.refl _ w11).alloc (Nat.le_refl _) _).trans hb12)
      have HR3 : Hid (InnR w12 w11.heap.size v3 ra.inn) := Lib.hid hR3
      have HF12 := Lib.hid (Kd.C_below HF11.out H112.out)
      obtain ⟨G3, g3c, rfl⟩ := Kd.R_slice hR3
      clear hR3 hb12
      go_wp2_with (at_builtin; refine rows_on (Kd.int .i64) w11.heap.size (by rfl) (.tmp 111) (.tmp 112) 65 3 (.int .i64 0) 8 rfl Tryd.underlying65 (by kernel_rfl) rfl (by decide) (by omega) _ ra.inn rd.inn f1 rd.inn.length f1c rfl rfl HR3.out HF12.out (fun _ _ h => h) H112.out.size (by omega) ?_)
      intro v4 w13 hR4 hb13
      have h1113 := H112.out.trans hb13
      have HB13 := Lib.hid (below_then HB11.out HB11.out.size h1113)
      have HI13 := Lib.hid (Kd.C_below HI11.out h1113)
      obtain ⟨G4, g4c, rfl, hg4, hG4⟩ := Kd.R_reads hR4
      have HG4 := Lib.hid hG4
      clear hR4 hb13 h1113 hG4 HR3 HF12 H112 HI11 HC11 HF11
      go_wp2_with fail
      refine (ints_anyn I G4 ic g4c _ _ r.inn (ra.inn ++ rd.inn) HG.out.2.2 (by first | rfl | omega) (by first | omega | (simp; omega)) (by omega) _ HI13.out hic HG4.out hg4).mono ?_
      rintro e w14 ⟨rfl, hb14⟩
      have HB14 := Lib.hid (below_then HB13.out HB13.out.size hb14)
      clear hb14
      go_wp2_with fail
      go_ret
      exact ⟨rfl, HB14.out⟩
end Go.Proofs.YtldcplgfkcionaaDoor
