/- The law ExprBoth. -/
import Derived.Test.YtldcplgfkcionaaDoorExprof
import Derived.Test.YtldcplgfkcionaaDoorExprArg
import Derived.Test.YtldcplgfkcionaaDoorParseCat2
set_option linter.unusedVariables false
set_option linter.unusedSimpArgs false
namespace Go.Proofs.YtldcplgfkcionaaDoor
open Go.RowKit Go.Proofs.YtldcplgfkcionaaDoorW.PrintWords
open PX (T V Tr takes may mayGo tree_of value_tree val)
theorem run_cat (look : Int → Option Int) (pa pb : List T) (x y : V) (op : Int) (hop : op = 3 ∨ op = 8) (ha : runR look false pa = .ok x) (hb : runR look false pb = .ok y) (hx : x.1 = 1) (hy : y.1 = 1) (hl : pa.length + pb.length ≤ 99) :
    runR look false (pa ++ pb ++ [⟨op, 0, 0⟩]) = .ok (if op = 3 then (1, wrap64 (x.2 + y.2)) else (2, if x.2 < y.2 then 1 else 0)) := by
  have hma : may pa = true := by
    cases h : may pa with
    | true => rfl
    | false => unfold runR at ha; rw [if_neg (by simp [h])] at ha; cases ha
  have hmb : may pb = true := by
    cases h : may pb with
    | true => rfl
    | false => unfold runR at hb; rw [if_neg (by simp [h])] at hb; cases hb
  obtain ⟨X, hX, rfl⟩ := tree_of (show mayGo pa 0 = some 1 by unfold may at hma; simp at hma; exact hma.2)
  obtain ⟨Y, hY, rfl⟩ := tree_of (show mayGo pb 0 = some 1 by unfold may at hmb; simp at hmb; exact hmb.2)
  have ea : valE look false X = .ok x := by
    rw [← ha]; unfold runR; rw [if_pos hma]; exact (value_tree _ _ _ X hX).symm
  have eb : valE look false Y = .ok y := by
    rw [← hb]; unfold runR; rw [if_pos hmb]; exact (value_tree _ _ _ Y hY).symm
  have ht : takes (⟨op, 0, 0⟩ : T) = 2 := by rcases hop with rfl | rfl <;> rfl
  have hwf : (Tr.two ⟨op, 0, 0⟩ X Y).wf := ⟨ht, hX, hY⟩
  have hfl : X.flat ++ Y.flat ++ [(⟨op, 0, 0⟩ : T)] = (Tr.two ⟨op, 0, 0⟩ X Y).flat := rfl
  have hm : may (Tr.two ⟨op, 0, 0⟩ X Y).flat = true := by
    have h1 := PX.mayGo_tree (Tr.two ⟨op, 0, 0⟩ X Y) hwf 0 (by omega) []
    rw [List.append_nil] at h1
    have h2 : (Tr.two ⟨op, 0, 0⟩ X Y).flat.length ≤ 100 := by rw [← hfl]; simp; omega
    unfold may
    rw [h1]
    simp [mayGo]
    omega
  rw [hfl]
  unfold runR
  rw [if_pos hm]
  have hv : valueE look false (Tr.two ⟨op, 0, 0⟩ X Y).flat = valE look false (Tr.two ⟨op, 0, 0⟩ X Y) := value_tree _ _ _ _ hwf
  rw [hv]
  show ((valE look false X).bind fun v => (valE look false Y).bind fun u => twoE false ⟨op, 0, 0⟩ v u) = _
  rw [ea, eb]
  show twoE false ⟨op, 0, 0⟩ x y = _
  obtain ⟨xk, xn⟩ := x
  obtain ⟨yk, yn⟩ := y
  obtain rfl : xk = 1 := hx
  obtain rfl : yk = 1 := hy
  rcases hop with rfl | rfl
  · rfl
  · by_cases h : xn < yn <;> simp [twoE, bothE, numE, zeroE, truthV, h]
theorem eqVal2 (w : World) (a b c d : Int) : (binOp .eql 54 (.agg #[.int .i64 a, .int .i64 b]) (.agg #[.int .i64 c, .int .i64 d])).run Tryd.prog w = .ok (.bool (a == c && b == d)) w := eqVal w (a, b) (c, d)
theorem cat_bytes (a b : ByteArray) (c : UInt8) : ((⟨#[40]⟩ : ByteArray) ++ a ++ (⟨#[41, c, 40]⟩ : ByteArray) ++ b ++ (⟨#[41]⟩ : ByteArray)).data.toList = 40 :: (a.data.toList ++ 41 :: c :: 40 :: (b.data.toList ++ [41])) := by
  simp
/-- What comes of the two, whatever they are. -/
theorem both_cases (a b : List UInt8) (env : List Int) (ha : a.length ≤ 90) (hb : b.length ≤ 90) : ∃ ra rb rs rt, Parsed a ra ∧ Parsed b rb ∧ Parsed (40 :: (a ++ 41 :: 43 :: 40 :: (b ++ [41]))) rs ∧ Parsed (40 :: (a ++ 41 :: 60 :: 40 :: (b ++ [41]))) rt ∧
    ((ofR ra env).2 ≠ .none ∨ (ofR rb env).2 ≠ .none ∨ (ofR ra env).1.1 ≠ 1 ∨ (ofR rb env).1.1 ≠ 1 ∨ 99 < ra.1.length + rb.1.length ∨
      (ra.2 = .none ∧ rb.2 = .none ∧ (ofR ra env).2 = .none ∧ (ofR rb env).2 = .none ∧ (ofR ra env).1.1 = 1 ∧ (ofR rb env).1.1 = 1 ∧ ofR rs env = ((1, wrap64 ((ofR ra env).1.2 + (ofR rb env).1.2)), .none) ∧ ofR rt env = ((2, if (ofR ra env).1.2 < (ofR rb env).1.2 then 1 else 0), .none))) := by
  obtain ⟨ra, hra⟩ := parsed_ex a
  obtain ⟨rb, hrb⟩ := parsed_ex b
  obtain ⟨rs, hrs⟩ := parsed_ex (40 :: (a ++ 41 :: 43 :: 40 :: (b ++ [41])))
  obtain ⟨rt, hrt⟩ := parsed_ex (40 :: (a ++ 41 :: 60 :: 40 :: (b ++ [41])))
  by_cases h1 : (ofR ra env).2 ≠ .none
  · exact ⟨ra, rb, rs, rt, hra, hrb, hrs, hrt, .inl h1⟩
  by_cases h2 : (ofR rb env).2 ≠ .none
  · exact ⟨ra, rb, rs, rt, hra, hrb, hrs, hrt, .inr (.inl h2)⟩
  by_cases h3 : (ofR ra env).1.1 ≠ 1
  · exact ⟨ra, rb, rs, rt, hra, hrb, hrs, hrt, .inr (.inr (.inl h3))⟩
  by_cases h4 : (ofR rb env).1.1 ≠ 1
  · exact ⟨ra, rb, rs, rt, hra, hrb, hrs, hrt, .inr (.inr (.inr (.inl h4)))⟩
  by_cases h5 : 99 < ra.1.length + rb.1.length
  · exact ⟨ra, rb, rs, rt, hra, hrb, hrs, hrt, .inr (.inr (.inr (.inr (.inl h5))))⟩
  have h1 := Classical.not_not.1 h1
  have h2 := Classical.not_not.1 h2
  have h3 := Classical.not_not.1 h3
  have h4 := Classical.not_not.1 h4
  have inv : ∀ r : List T × Er, (ofR r env).2 = .none → r.2 = .none ∧ runR (lookV false 0 env) false r.1 = .ok (ofR r env).1 := by
    rintro ⟨p, e⟩ h
    cases e with
    | none =>
      refine ⟨rfl, ?_⟩
      unfold ofR at h ⊢
      simp only at h ⊢
      cases hv : runR (lookV false 0 env) false p with
      | ok v => rfl
      | error c => rw [hv] at h; cases h
    | code c => cases h
    | spot a c => cases h
  obtain ⟨ea, va⟩ := inv ra h1
  obtain ⟨eb, vb⟩ := inv rb h2
  obtain ⟨pa, era⟩ := ra
  obtain ⟨pb, erb⟩ := rb
  obtain rfl : era = .none := ea
  obtain rfl : erb = .none := eb
  have c3 := cat_parsed a b 43 3 (.inl ⟨rfl, rfl⟩) ha hb hra hrb (by simp at h5; omega)
  have c8 := cat_parsed a b 60 8 (.inr ⟨rfl, rfl⟩) ha hb hra hrb (by simp at h5; omega)
  have v3 := run_cat (lookV false 0 env) pa pb _ _ 3 (.inl rfl) va vb h3 h4 (by simp at h5; omega)
  have v8 := run_cat (lookV false 0 env) pa pb _ _ 8 (.inr rfl) va vb h3 h4 (by simp at h5; omega)
  refine ⟨_, _, _, _, hra, hrb, c3, c8, .inr (.inr (.inr (.inr (.inr ⟨rfl, rfl, h1, h2, h3, h4, ?_, ?_⟩))))⟩
  · unfold ofR; simp only; rw [v3]; rfl
  · unfold ofR; simp only; rw [v8]; rfl
theorem of_keep {w w' : World} {g : Nat} {x y : Int} (h : w.heap[g]? = some (.cells #[.int .i64 x, .int .i64 y] 54 (0, 0))) (hb : Below w.heap.size w w') : w'.heap[g]? = some (.cells #[.int .i64 x, .int .i64 y] 54 (0, 0)) :=
  (hb.block g (lt_of_block h)).trans h
theorem parsed_len (s : List UInt8) (r : List T × Er) (h : Parsed s r) : r.1.length ≤ 100 := by
  unfold Parsed at h
  cases hx : (lexed s).2 with
  | none =>
    rw [hx] at h
    obtain ⟨R, hR, rfl⟩ := h
    unfold parsedOf
    split
    · simp
    · split
      · simp
      · simp; omega
  | code c => rw [hx] at h; subst h; simp
  | spot a c => rw [hx] at h; subst h; simp
theorem erv_nil {B : Nat} {w : World} {v : Value} {e : Er} (h : ErV B w v e) (he : e = .none) : v = .nilIface := by subst he; exact h
theorem erv_some {B : Nat} {w : World} {v : Value} {e : Er} (h : ErV B w v e) (he : e ≠ .none) : (∃ c, v = .iface 28 (.int .i64 c)) ∨ (∃ g, v = .iface 74 (.pointer (some ⟨g, 0, none⟩))) := by
  cases e with
  | none => exact absurd rfl he
  | code c => exact .inl ⟨c, h⟩
  | spot a c => obtain ⟨g, h1, _⟩ := h; exact .inr ⟨g, h1⟩
theorem ofR_none {r : List T × Er} {env : List Int} (h : (ofR r env).2 = .none) : r.2 = .none := by
  obtain ⟨p, e⟩ := r
  cases e with
  | none => rfl
  | code c => cases h
  | spot a c => cases h
set_option maxHeartbeats 16000000 in
set_option maxRecDepth 100000 in
theorem ExprBoth_walk (w : World) (hw : Laid w) (a b : ByteArray) (v2 : Value) (x2 : List Int) (hsa : a.size ≤ 140737488355328) (hsb : b.size ≤ 140737488355328) (h2 : (Rep.int .i64).slice.ok (fun b => b < w.heap.size) w [v2] x2) :
    Calls Tryd.prog 11 #[.string a, .string b, v2] w fun e w' => e = .returned (.bool true) ∧ Below w.heap.size w w' := by
  obtain ⟨E, ecap, rfl, hec, hE, hen⟩ := numArg h2
  clear h2
  have HE := Lib.hid hE
  clear hE
  have d1 : ∀ b : Bool, decide ((a.size : Int) > 90) = b → True := fun _ _ => trivial
  clear d1
  by_cases h90 : 90 < a.size ∨ 90 < b.size ∨ 100 < x2.length
  · have hor : (decide ((a.size : Int) > 90) = true) ∨ (decide ((a.size : Int) > 90) = false ∧ decide ((b.size : Int) > 90) = true) ∨ (decide ((a.size : Int) > 90) = false ∧ decide ((b.size : Int) > 90) = false ∧ decide ((x2.length : Int) > 100) = true) := by
      by_cases h1 : 90 < a.size
      · exact .inl (decide_eq_true (by omega))
      · have e1 : decide ((a.size : Int) > 90) = false := decide_eq_false (by omega)
        by_cases h2 : 90 < b.size
        · exact .inr (.inl ⟨e1, decide_eq_true (by omega)⟩)
        · exact .inr (.inr ⟨e1, decide_eq_false (by omega), decide_eq_true (by omega)⟩)
    clear h90
    rcases hor with q1 | ⟨q1, q2⟩ | ⟨q1, q2, q3⟩
    all_goals
      go_enter Tryd.func11, Tryd.ntmps11
      go_wp2_with fail
      refine (up04 _ hw).mono ?_
      rintro e w1 ⟨rfl, hb1⟩
      go_wp2_with fail
      go_ret
      exact ⟨rfl, hb1⟩
  have q1 : decide ((a.size : Int) > 90) = false := decide_eq_false (by omega)
  have q2 : decide ((b.size : Int) > 90) = false := decide_eq_false (by omega)
  have q3 : decide ((x2.length : Int) > 100) = false := decide_eq_false (by omega)
  have hal : a.data.toList.length ≤ 90 := by simp; omega
  have hbl : b.data.toList.length ≤ 90 := by simp; omega
  obtain ⟨ra, rb, rs, rt, hra, hrb, hrs, hrt, hcase⟩ := both_cases a.data.toList b.data.toList x2 hal hbl
  rw [← cat_bytes] at hrs hrt
  have HRA := Lib.hid hra
  have HRB := Lib.hid hrb
  have HRS := Lib.hid hrs
  have HRT := Lib.hid hrt
  have HCS := Lib.hid hcase
  clear hra hrb hrs hrt hcase hal hbl
  have s1 : (9223372036854775807 < 1 + a.size) = False := eq_false (by omega)
  have s2 : (9223372036854775807 < 1 + a.size + 3) = False := eq_false (by omega)
  have s3 : (9223372036854775807 < 1 + a.size + 3 + b.size) = False := eq_false (by omega)
  have s4 : (9223372036854775807 < 1 + a.size + 3 + b.size + 1) = False := eq_false (by omega)
  have z3 : ((⟨#[40]⟩ : ByteArray) ++ a ++ (⟨#[41, 43, 40]⟩ : ByteArray) ++ b ++ (⟨#[41]⟩ : ByteArray)).size ≤ 281474976710656 := by
    rw [ByteArray.size_append, ByteArray.size_append, ByteArray.size_append, ByteArray.size_append]; show 1 + a.size + 3 + b.size + 1 ≤ _; omega
  have z8 : ((⟨#[40]⟩ : ByteArray) ++ a ++ (⟨#[41, 60, 40]⟩ : ByteArray) ++ b ++ (⟨#[41]⟩ : ByteArray)).size ≤ 281474976710656 := by
    rw [ByteArray.size_append, ByteArray.size_append, ByteArray.size_append, ByteArray.size_append]; show 1 + a.size + 3 + b.size + 1 ≤ _; omega
  have Z3 := Lib.hid z3
  have Z8 := Lib.hid z8
  clear z3 z8
  have kv := eqVal2
  go_enter Tryd.func11, Tryd.ntmps11
  go_wp2_with fail
  refine (up04 _ hw).mono ?_
  rintro e w1 ⟨rfl, hb1⟩
  go_wp2_with fail
  refine (of_any a (by omega) E ecap x2 _ (hw.below hb1) (Kd.C_below HE.out hb1) ra HRA.out).mono ?_
  rintro e w2 ⟨eva, rfl, hea, hb2⟩
  have hbw2 := below_then hb1 hb1.size hb2
  have hbx := hbw2.alloc hbw2.size (.cells #[.int .i64 (ofR ra x2).1.1, .int .i64 (ofR ra x2).1.2] 54)
  have HX2 := Lib.hid (blk_new w2 (.cells #[.int .i64 (ofR ra x2).1.1, .int .i64 (ofR ra x2).1.2] 54))
  simp only [agV]
  go_wp2_with fail
  refine (of_any b (by omega) E ecap x2 _ (hw.below hbx) (Kd.C_below HE.out hbx) rb HRB.out).mono ?_
  rintro e w3 ⟨evb, rfl, heb, hb3⟩
  have hbw3 := below_then hbx hbx.size hb3
  have HX3 := Lib.hid (blk_alloc (.cells #[.int .i64 (ofR rb x2).1.1, .int .i64 (ofR rb x2).1.2] 54) (of_keep HX2.out hb3))
  have HY3 := Lib.hid (blk_new w3 (.cells #[.int .i64 (ofR rb x2).1.1, .int .i64 (ofR rb x2).1.2] 54))
  have hby := hbw3.alloc hbw3.size (.cells #[.int .i64 (ofR rb x2).1.1, .int .i64 (ofR rb x2).1.2] 54)
  clear hb2 hb3 hbx HX2
  simp only [agV]
  go_wp2_with fail
  refine (of_any _ Z3.out E ecap x2 _ (hw.below hby) (Kd.C_below HE.out hby) rs HRS.out).mono ?_
  rintro e w4 ⟨evs, rfl, hes, hb4⟩
  have hbw4 := below_then hby hby.size hb4
  have HX4 := Lib.hid (blk_alloc (.cells #[.int .i64 (ofR rs x2).1.1, .int .i64 (ofR rs x2).1.2] 54) (of_keep HX3.out hb4))
  have HY4 := Lib.hid (blk_alloc (.cells #[.int .i64 (ofR rs x2).1.1, .int .i64 (ofR rs x2).1.2] 54) (of_keep HY3.out hb4))
  have HS4 := Lib.hid (blk_new w4 (.cells #[.int .i64 (ofR rs x2).1.1, .int .i64 (ofR rs x2).1.2] 54))
  have hbs := hbw4.alloc hbw4.size (.cells #[.int .i64 (ofR rs x2).1.1, .int .i64 (ofR rs x2).1.2] 54)
  clear hb4 hby HX3 HY3
  simp only [agV]
  go_wp2_with fail
  refine (of_any _ Z8.out E ecap x2 _ (hw.below hbs) (Kd.C_below HE.out hbs) rt HRT.out).mono ?_
  rintro e w5 ⟨evt, rfl, het, hb5⟩
  have hbw5 := below_then hbs hbs.size hb5
  have HX5 := Lib.hid (blk_alloc (.cells #[.int .i64 (ofR rt x2).1.1, .int .i64 (ofR rt x2).1.2] 54) (of_keep HX4.out hb5))
  have HY5 := Lib.hid (blk_alloc (.cells #[.int .i64 (ofR rt x2).1.1, .int .i64 (ofR rt x2).1.2] 54) (of_keep HY4.out hb5))
  have HS5 := Lib.hid (blk_alloc (.cells #[.int .i64 (ofR rt x2).1.1, .int .i64 (ofR rt x2).1.2] 54) (of_keep HS4.out hb5))
  have HT5 := Lib.hid (blk_new w5 (.cells #[.int .i64 (ofR rt x2).1.1, .int .i64 (ofR rt x2).1.2] 54))
  have hbt := hbw5.alloc hbw5.size (.cells #[.int .i64 (ofR rt x2).1.1, .int .i64 (ofR rt x2).1.2] 54)
  clear hb5 hbs HX4 HY4 HS4
  simp only [agV]
  go_wp2_with fail
  refine (parse_any a (by omega) _ (hw.below hbt) ra HRA.out).mono ?_
  rintro e w6 ⟨vp, evp, rfl, hp6, hep, hb6⟩
  obtain ⟨Ap, cp, rfl⟩ := Kd.R_slice hp6
  have hbw6 := below_then hbt hbt.size hb6
  have HX6 := Lib.hid (of_keep HX5.out hb6)
  have HY6 := Lib.hid (of_keep HY5.out hb6)
  have HS6 := Lib.hid (of_keep HS5.out hb6)
  have HT6 := Lib.hid (of_keep HT5.out hb6)
  clear hb6 hbt HX5 HY5 HS5 HT5 hp6
  go_wp2_with fail
  refine (parse_any b (by omega) _ (hw.below hbw6) rb HRB.out).mono ?_
  rintro e w7 ⟨vq, evq, rfl, hq7, heq, hb7⟩
  obtain ⟨Aq, cq, rfl⟩ := Kd.R_slice hq7
  have hbw7 := below_then hbw6 hbw6.size hb7
  have hx := of_keep HX6.out hb7
  have hy := of_keep HY6.out hb7
  have hs := of_keep HS6.out hb7
  have ht := of_keep HT6.out hb7
  obtain ⟨x0, x1, y0, y1⟩ : _ ∧ _ ∧ _ ∧ _ := ⟨blk_cell hx 0, blk_cell hx 1, blk_cell hy 0, blk_cell hy 1⟩
  obtain ⟨c0, c1, t0, t1⟩ : _ ∧ _ ∧ _ ∧ _ := ⟨blk_cell hs 0, blk_cell hs 1, blk_cell ht 0, blk_cell ht 1⟩
  clear hb7 HX6 HY6 HS6 HT6 hq7 hx hy hs ht
  by_cases hA : (ofR ra x2).2 = .none
  case neg =>
    rcases erv_some hea hA with ⟨c, rfl⟩ | ⟨g, rfl⟩
    all_goals
      go_wp2_with fail
      go_ret
      exact ⟨rfl, hbw7⟩
  obtain rfl : eva = .nilIface := erv_nil hea hA
  by_cases hB : (ofR rb x2).2 = .none
  case neg =>
    rcases erv_some heb hB with ⟨c, rfl⟩ | ⟨g, rfl⟩
    all_goals
      go_wp2_with fail
      go_ret
      exact ⟨rfl, hbw7⟩
  obtain rfl : evb = .nilIface := erv_nil heb hB
  obtain rfl : evp = .nilIface := erv_nil hep (ofR_none hA)
  obtain rfl : evq = .nilIface := erv_nil heq (ofR_none hB)
  generalize hvx : (ofR ra x2).1 = vx at *
  generalize hvy : (ofR rb x2).1 = vy at *
  obtain ⟨xk, xn⟩ := vx
  obtain ⟨yk, yn⟩ := vy
  simp only at x0 x1 y0 y1
  by_cases hk : xk = 1
  case neg =>
    have k1 : (xk == 1) = false := by simp [hk]
    go_wp2_with fail
    go_ret
    exact ⟨rfl, hbw7⟩
  subst hk
  by_cases hk : yk = 1
  case neg =>
    have k1 : (yk == 1) = false := by simp [hk]
    go_wp2_with fail
    go_ret
    exact ⟨rfl, hbw7⟩
  subst hk
  have s5 : ra.1.length ≤ 100 ∧ rb.1.length ≤ 100 := ⟨parsed_len _ _ HRA.out, parsed_len _ _ HRB.out⟩
  by_cases hl : 99 < ra.1.length + rb.1.length
  · have k1 : decide ((ra.1.length : Int) + (rb.1.length : Int) > 99) = true := decide_eq_true (by omega)
    go_wp2_with fail
    go_ret
    exact ⟨rfl, hbw7⟩
  have k1 : decide ((ra.1.length : Int) + (rb.1.length : Int) > 99) = false := decide_eq_false (by omega)
  rcases HCS.out with h | h | h | h | h | ⟨_, _, _, _, _, _, eS, eT⟩
  · exact absurd hA h
  · exact absurd hB h
  · exact absurd rfl h
  · exact absurd rfl h
  · exact absurd h hl
  rw [eS] at hes c0 c1
  rw [eT] at het t0 t1
  obtain rfl : evs = .nilIface := hes
  obtain rfl : evt = .nilIface := het
  clear HCS eS eT
  by_cases hlt : xn < yn
  · have k2 : decide (xn < yn) = true := decide_eq_true hlt
    rw [if_pos hlt] at t0 t1
    go_wp2_with fail
    go_ret
    exact ⟨rfl, hbw7⟩
  · have k2 : decide (xn < yn) = false := decide_eq_false hlt
    rw [if_neg hlt] at t0 t1
    go_wp2_with fail
    go_ret
    exact ⟨rfl, hbw7⟩
end Go.Proofs.YtldcplgfkcionaaDoor
