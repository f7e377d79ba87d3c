/- What the lexer's Text does. -/
import Derived.Test.YtldcplgfkcionaaDoorLexOne
set_option linter.unusedVariables false
set_option linter.unusedSimpArgs false
namespace Go.Proofs.YtldcplgfkcionaaDoor
open Go.RowKit PX Go.Proofs.YtldcplgfkcionaaDoorW.PrintWords
theorem dec_len (k : Nat) : ∀ u : Nat, u < 10 ^ (k + 1) → (Lib.decDigits u).length ≤ k + 1 := by
  induction k with
  | zero =>
    intro u h
    rw [Lib.decDigits]
    rw [dif_pos (by simpa using h)]
    simp
  | succ k ih =>
    intro u h
    rw [Lib.decDigits]
    split
    · simp
    · rw [List.length_append]
      have := ih (u / 10) (by rw [Nat.pow_succ] at h; omega)
      simp; omega
theorem itoa_len (n : Int) (h0 : -9223372036854775808 ≤ n) (h1 : n ≤ 9223372036854775807) : (Lib.itoa n).length ≤ 20 := by
  unfold Lib.itoa
  split
  · have := dec_len 18 n.natAbs (by show n.natAbs < 10000000000000000000; omega)
    simp; omega
  · have := dec_len 18 n.toNat (by show n.toNat < 10000000000000000000; omega)
    omega
theorem kText_len (k : Int) : (kText k).length ≤ 20 := by
  unfold kText
  cases h : allL.find? (fun x => x.f1 == k) with
  | none => simp
  | some x =>
    have hm := List.mem_of_find?_eq_some h
    simp only [Option.map_some, Option.getD_some]
    have : ∀ x ∈ allL, x.f0.data.toList.length ≤ 20 := by
      intro x hx
      simp [allL, signL, wordL] at hx
      rcases hx with rfl | rfl | rfl | rfl | rfl | rfl | rfl | rfl | rfl | rfl | rfl | rfl | rfl | rfl | rfl | rfl <;> simp
    exact this x hm
theorem oneOf_len (t : T) (h0 : -9223372036854775808 ≤ t.f1) (h1 : t.f1 ≤ 9223372036854775807) : (oneOf t).length ≤ 20 := by
  unfold oneOf
  split
  · exact itoa_len _ h0 h1
  · split
    · simp
    · split
      · simp
      · exact kText_len _
/-- The text of tokens, or what is amiss. -/
def textOf (l : List T) : List UInt8 × Er := if ∀ t ∈ l, oneOf t ≠ [] then (Lib.join (l.map oneOf) [32], .none) else ([], .code 1)
/-- Numbers as int64 has them. -/
def Wide (l : List T) : Prop := ∀ t ∈ l, -9223372036854775808 ≤ t.f1 ∧ t.f1 ≤ 9223372036854775807
theorem join_len (l : List (List UInt8)) (h : ∀ x ∈ l, x.length ≤ 20) : (Lib.join l [32]).length ≤ 21 * l.length := by
  unfold Lib.join
  induction l with
  | nil => simp
  | cons a l ih =>
    cases l with
    | nil => have := h a (by simp); simp; omega
    | cons b l =>
      have h1 := h a (by simp)
      have h2 := ih (fun x hx => h x (by simp [hx]))
      rw [List.intercalate_cons_cons]
      simp at h2 ⊢
      omega
theorem str_info : (Tryd.prog.info? 9).map (fun i => (i.zero, i.size, i.bytes)) = some (some (.string ⟨#[]⟩), 1, 16) := by kernel_rfl
abbrev Strs (w : World) (B : Nat) (v : Value) (l : List ByteArray) : Prop := Kd.R Kd.string 9 w B (fun _ => True) v l
section
variable {P : Program} {ops : Array Oper} {rest : List Oper} {o : Oper} {a : Act} {Q : Exit → Act → World → Prop}
/-- append(l, s), the string having just been laid. -/
theorem str_append {W : World} (hgd : o.guard = none) (s x : Operand)
    (ho : o.op = .call { callee := .builtin .append, args := #[s, x], argTypes := #[83, 83] })
    (B : Nat) (v : Value) (xs : List ByteArray) (y : ByteArray) (hs : a.eval s = v) (N : Nat) (hx : a.eval x = .slice (some ⟨N, 0, none⟩) 1 1) (hN : N = W.heap.size)
    (HO : Strs W B v xs) (hB : B ≤ W.heap.size) (hl : xs.length < 8000000000000)
    (h : ∀ v1 w1, Strs w1 B v1 (xs ++ [y]) → W.grownBy w1 v.ownBlock → wpList Tryd.prog ops Q rest (a.put o.dst v1) w1) :
    wpList Tryd.prog ops Q (o :: rest) a (W.alloc (.cells #[.string y] 9)) := by
  subst hN
  refine Kd.R_append Kd.string (w0 := W) B hgd s x 83 9 (.string ⟨#[]⟩) 16 ho Tryd.underlying83 str_info rfl (by decide) (by omega) v xs y [.string y]
    (fun _ => True) (fun _ => False) hs hx rfl (fun _ hk => hk.elim) (fun _ _ => trivial) HO (Below.refl _ _) hB (by omega) ?_
  intro v1 w1 h1 _ h3 _
  exact h v1 w1 h1 h3
end
theorem strs_cells {w : World} {B : Nat} {v : Value} {xs : List ByteArray} (h : Strs w B v xs) (hn : 0 < xs.length) :
    ∃ g cap, v = .slice (some ⟨g, 0, none⟩) xs.length cap ∧ xs.length ≤ cap ∧ g < w.heap.size ∧ ∀ (j : Nat) x, xs[j]? = some x → w.cell? ⟨g, 0 + j, none⟩ = some (.string x) := by
  obtain ⟨inner, ho⟩ := Kd.R_own h
  obtain ⟨g, cap, rfl, _, hg, hc, _, _, _⟩ := own_shape ho hn
  obtain ⟨A, c, hA, _, hC⟩ := Kd.R_reads h
  injection hA with hA _ _
  subst hA
  refine ⟨g, cap, rfl, hc, hg, fun j x hj => ?_⟩
  obtain ⟨ad, he, hcell⟩ := hC.2.2 hn
  injection he with he
  subst he
  obtain ⟨cs, h1, h2, h3⟩ := hcell j x hj
  obtain rfl : cs = [.string x] := h2
  have := h3 0 (.string x) rfl
  rw [add_at] at this
  simpa [Kd.string, Kd.scalar] using this
theorem join_any (g cp n : Nat) (xs : List ByteArray) (hn : xs.length = n) (w : World) (hcells : ∀ (j : Nat) x, xs[j]? = some x → w.cell? ⟨g, 0 + j, none⟩ = some (.string x)) (hg : g < w.heap.size) (hN : n ≤ 140737488355328) (hcap : n ≤ cp)
    (hlen : (Lib.join (xs.map (·.data.toList)) [32]).length ≤ 140737488355328) :
    Calls Tryd.prog 47 #[.slice (some ⟨g, 0, none⟩) n cp, .string ⟨#[32]⟩] w fun e w' => e = .returned (.string ⟨(Lib.join (xs.map (·.data.toList)) [32]).toArray⟩) ∧ Below w.heap.size w w' := by
  subst hn
  exact Tryd.strings_Join g 0 cp xs ⟨#[32]⟩ w hcells hg hN hcap hlen
def bytesArr (l : List UInt8) : ByteArray := ⟨l.toArray⟩
set_option maxHeartbeats 4000000 in
set_option maxRecDepth 100000 in
theorem text_any (A : Option Addr) (cap : Nat) (l : List T) (w : World) (hl : l.length ≤ 1000000) (hc : l.length ≤ cap) (hC : ToksC w A l.length l) (hwd : Wide l) (hw : Laid w) :
    Calls Tryd.prog 18 #[.slice A l.length cap] w fun e w' => ∃ ev, e = .returned (.tuple #[.string ⟨(textOf l).1.toArray⟩, ev]) ∧ ErV w.heap.size w' ev (textOf l).2 ∧ Below w.heap.size w w' := by
  have HC := Lib.hid hC
  have HW := Lib.hid hwd
  clear hC hwd
  go_enter Tryd.func18, Tryd.ntmps18
  go_wp2_with fail
  go_loopw [4, 10] (fun v i wr => ∃ q : Nat, q ≤ l.length ∧ i = .int .i64 q ∧ Hid (∀ t ∈ l.take q, oneOf t ≠ []) ∧ Hid (Kd.R Kd.string 9 wr w.heap.size (fun _ => True) v ((l.take q).map fun t => bytesArr (oneOf t))) ∧ Below w.heap.size w wr) (fun _ i _ => l.length - (intOf i).toNat)
  case atStart => exact ⟨0, by omega, rfl, Lib.hid (by simp), Lib.hid (Kd.R_nil _ _ _ _ _), Below.refl _ _⟩
  case round =>
    obtain ⟨q, hq, rfl, H, HR, hb⟩ := hrel
    by_cases hlt : q < l.length
    · have hC := Kd.C_below HC.out hb
      obtain ⟨ad, hA, x0, x1, x2⟩ := PAll.at_T40 hC q (by omega) (by omega)
      subst hA
      simp only [Int.toNat_natCast] at x0 x1 x2
      have hti : PAll.rd_T40 l q = l[q] := by simp [PAll.rd_T40, List.getD_eq_getElem?_getD, List.getElem?_eq_getElem hlt]
      rw [hti] at x0 x1 x2
      obtain ⟨g1, g2⟩ := HW.out l[q] (List.getElem_mem hlt)
      have htk : l.take (q + 1) = l.take q ++ [l[q]] := by rw [List.take_succ_eq_append_getElem hlt]
      have HTK := Lib.hid htk
      have hlen1 := oneOf_len l[q] g1 g2
      generalize htq : l[q] = tq at *
      have HTQ := Lib.hid htq
      clear hti htk hC htq
      obtain ⟨k, n, c⟩ := tq
      simp only at x0 x1 x2 g1 g2
      go_wp2_with fail
      refine (one_any k n c g1 g2 _ (hw.below (hb.alloc hb.size _))).mono ?_
      cases hone : oneOf ⟨k, n, c⟩ with
      | nil =>
        rintro e w2 ⟨rfl, hb2⟩
        have hx : textOf l = ([], .code 1) := by
          unfold textOf
          rw [if_neg (fun h => h ⟨k, n, c⟩ (by rw [← HTQ.out]; exact List.getElem_mem hlt) hone)]
        have HX := Lib.hid hx
        clear hx
        go_wp2_with fail
        go_ret2
        refine ⟨_, by rw [HX.out]; rfl, by rw [HX.out]; rfl, below_then (hb.alloc hb.size _) (by have := hb.size; simp; omega) hb2⟩
      | cons z zs =>
        rintro e w2 ⟨rfl, hb2⟩
        have hb3 := below_then (hb.alloc hb.size _) (by have := hb.size; simp; omega) hb2
        have HR2 := Lib.hid (Kd.R_below (Kd.R_alloc HR.out (.cells #[.int .i64 k, .int .i64 n, .int .i64 c] 40)) hb2)
        have HONE := Lib.hid hone
        clear hone
        have hne : (⟨(z :: zs).toArray⟩ : ByteArray).toList.isEmpty = false := by rw [ByteArray.toList_eq]; rfl
        generalize hzs : (⟨(z :: zs).toArray⟩ : ByteArray) = za at *
        have HZS := Lib.hid hzs
        clear hzs
        go_wp2_with (at_builtin; refine str_append rfl (.tmp 19) (.tmp 21) rfl w.heap.size _ _ za rfl _ rfl ?aN HR2.out ?aB ?aL ?_)
        case aN => rfl
        case aB => exact hb3.size
        case aL => simp; omega
        intro v1 w4 hR4 hg4
        have hb4 : Below w.heap.size w w4 := hb3.grown hg4 hb3.size (fun j hj => Kd.R_base HR2.out j hj)
        have HR4 := Lib.hid hR4
        clear hR4 hg4
        go_wp2_with fail
        go_roundw
        case rel =>
          refine ⟨q + 1, by omega, by go_num, Lib.hid (fun t ht => ?_), Lib.hid ?_, hb4⟩
          · rw [HTK.out] at ht
            rcases List.mem_append.1 ht with ht | ht
            · exact H.out t ht
            · obtain rfl : t = ⟨k, n, c⟩ := by simpa using ht
              rw [HONE.out]; simp
          · rw [HTK.out, List.map_append, List.map_cons, List.map_nil, bytesArr, HONE.out, HZS.out, List.map_take]
            exact HR4.out
        case measure => simp [intOf]; omega
    · obtain rfl : q = l.length := by omega
      have htl : l.take l.length = l := List.take_length
      have hx : textOf l = (Lib.join (l.map oneOf) [32], .none) := by
        unfold textOf
        rw [if_pos (by have := H.out; rw [htl] at this; exact this)]
      have HX := Lib.hid hx
      have hR := HR.out
      rw [htl] at hR
      have hj := join_len (l.map oneOf) (by
        intro x hx
        obtain ⟨t, ht, rfl⟩ := List.mem_map.1 hx
        obtain ⟨g1, g2⟩ := HW.out t ht
        exact oneOf_len t g1 g2)
      have hm : (l.map fun t => bytesArr (oneOf t)).map (fun x => x.data.toList) = l.map oneOf := by
        rw [List.map_map]; rfl
      have HJ := Lib.hid hj
      have HM := Lib.hid hm
      clear htl hx hj hm
      by_cases h0 : l.length = 0
      · have hv : ∃ A c, u4 = .slice A 0 c := by
          obtain ⟨A, c, h, _, _⟩ := Kd.R_reads hR
          exact ⟨A, c, by rw [h]; simp [h0]⟩
        obtain ⟨A0, c0, rfl⟩ := hv
        have hl0 : l = [] := List.length_eq_zero_iff.1 h0
        have HL0 := Lib.hid hl0
        clear hR hl0 h0
        go_wp2_with fail
        refine (Tryd.strings_Join_none A0 c0 ⟨#[32]⟩ _).mono ?_
        rintro e w2 ⟨rfl, rfl⟩
        go_wp2_with fail
        go_ret2
        refine ⟨_, by rw [HX.out, HL0.out]; rfl, by rw [HX.out]; rfl, hb⟩
      · obtain ⟨g, cp, rfl, hcp, hg, hcell⟩ := strs_cells hR (by simp; omega)
        have HCELL := Lib.hid hcell
        clear hR hcell
        go_wp2_with fail
        have hcp2 : l.length ≤ cp := by simpa using hcp
        refine (join_any g cp l.length (l.map fun t => bytesArr (oneOf t)) (by simp) _ HCELL.out hg (by omega) hcp2 (by
          rw [HM.out]; have := HJ.out; rw [List.length_map] at this; omega)).mono ?_
        rw [HM.out]
        rintro e w2 ⟨rfl, hb2⟩
        go_wp2_with fail
        go_ret2
        refine ⟨_, by rw [HX.out]; rfl, by rw [HX.out]; rfl, below_then hb hb.size hb2⟩
end Go.Proofs.YtldcplgfkcionaaDoor
