/- Two texts in brackets, with a sign between: what the parser makes of them. Nothing of the walk. -/
import Derived.Test.YtldcplgfkcionaaDoorParseCat
set_option linter.unusedVariables false
set_option linter.unusedSimpArgs false
namespace Go.Proofs.YtldcplgfkcionaaDoor
open PX
theorem parsed_inv {s : List UInt8} {p : List T} (hs : s.length ≤ 200) (h : Parsed s (p, .none)) : ∃ l R, lexAt s 0 = (l, none) ∧ Pr l false 1 st0 R ∧ R.bad = false ∧ R.at_ = l.length ∧ R.out = p := by
  have hx : lexed s = match (lexAt s 0).2 with
      | none => ((lexAt s 0).1, .none)
      | some a => ([], .spot a 2) := by rw [lexed, if_neg (by omega)]; rfl
  unfold Parsed at h
  cases hl : lexAt s 0 with
  | mk l o =>
    rw [hl] at hx
    cases o with
    | some a =>
      have hx' : lexed s = ([], .spot a 2) := hx
      rw [hx'] at h
      cases h
    | none =>
      have hx' : lexed s = (l, .none) := hx
      rw [hx'] at h
      obtain ⟨R, hR, he⟩ := h
      have hle := hR.le (by omega) (Nat.zero_le _)
      refine ⟨l, R, rfl, hR, ?_⟩
      have he' : (p, Er.none) = parsedOf l s.length R := he
      unfold parsedOf at he'
      split at he'
      · cases (Prod.mk.inj he').2
      · rename_i hc
        split at he'
        · cases (Prod.mk.inj he').2
        · refine ⟨?_, ?_, (Prod.mk.inj he').1.symm⟩
          · cases hb : R.bad with
            | false => rfl
            | true => exact absurd (.inl hb) hc
          · have : ¬ R.at_ < l.length := fun h => hc (.inr h)
            have h2 : R.at_ ≤ l.length := hle.2.1
            omega
theorem first_sign (c : UInt8) (k : Int) (hd : isDigit c = false) (hl : isLetter c = false) (d : UInt8) (r : List UInt8) (h61 : d = 61 → c ≠ 60 ∧ c ≠ 61 ∧ c ≠ 33) (hk : signOf.oneSign c = k) (h0 : k ≠ 0) : first (c :: d :: r) = some (k, 0, 1) := by
  have hs : signOf (c :: d :: r) = (k, 1) := by
    simp only [signOf]
    rw [if_neg (fun h => (h61 h.1).1 h.2), if_neg (fun h => (h61 h.1).2.1 h.2), if_neg (fun h => (h61 h.1).2.2 h.2), hk, if_neg h0]
  simp [first, hd, hl, hs]
theorem first_close1 : first [41] = some (18, 0, 1) := by rfl
/-- The tokens of two texts in brackets, and a sign between. -/
def catL (la lb : List T) (na nb : Nat) (op : Int) : List T :=
  ⟨17, 0, 0⟩ :: (shiftL 1 la ++ ⟨18, 0, ((1 + na : Nat) : Int)⟩ :: ⟨op, 0, ((1 + na + 1 : Nat) : Int)⟩ :: ⟨17, 0, ((1 + na + 1 + 1 : Nat) : Int)⟩ :: (shiftL ((1 + na + 1 + 1 + 1 : Nat) : Int) lb ++ [⟨18, 0, ((1 + na + 1 + 1 + 1 + nb : Nat) : Int)⟩]))
theorem lex_cat (a b : List UInt8) (c : UInt8) (op : Int) (hop : c = 43 ∧ op = 3 ∨ c = 60 ∧ op = 8) {la lb : List T} (ha : lexAt a 0 = (la, none)) (hb : lexAt b 0 = (lb, none)) :
    lexAt (40 :: (a ++ 41 :: c :: 40 :: (b ++ [41]))) 0 = (catL la lb a.length b.length op, none) := by
  have h40 : ∀ r, r ≠ [] → first (40 :: r) = some (17, 0, 1) := by
    intro r hr
    cases r with
    | nil => exact absurd rfl hr
    | cons d r => exact first_sign 40 17 (by decide) (by decide) d r (fun _ => by decide) rfl (by decide)
  have hb2 := lexAt_close b.length b [] 0 (1 + a.length + 1 + 1 + 1) lb (Nat.le_refl _) hb
  have hz : lexAt [41] (1 + a.length + 1 + 1 + 1 + b.length) = ([⟨18, 0, ((1 + a.length + 1 + 1 + 1 + b.length : Nat) : Int)⟩], none) := by
    rw [lexAt_tok (by decide) first_close1]
    simp [lexAt_nil]
  rw [hz] at hb2
  have h1 : lexAt (40 :: (b ++ [41])) (1 + a.length + 1 + 1) = (⟨17, 0, ((1 + a.length + 1 + 1 : Nat) : Int)⟩ :: (shiftL ((1 + a.length + 1 + 1 + 1 : Nat) : Int) lb ++ [⟨18, 0, ((1 + a.length + 1 + 1 + 1 + b.length : Nat) : Int)⟩]), none) := by
    rw [lexAt_tok (by decide) (h40 _ (by simp))]
    rw [show (40 :: (b ++ [41])).drop 1 = b ++ [41] from rfl, hb2]
    simp
  have hop1 : ∀ (r : List UInt8) (q : Nat), lexAt (c :: 40 :: r) q = (⟨op, 0, (q : Int)⟩ :: (lexAt (40 :: r) (q + 1)).1, (lexAt (40 :: r) (q + 1)).2) := by
    intro r q
    rcases hop with ⟨rfl, rfl⟩ | ⟨rfl, rfl⟩
    · rw [lexAt_tok (by decide) (first_sign 43 3 (by decide) (by decide) 40 r (fun h => absurd h (by decide)) rfl (by decide))]; rfl
    · rw [lexAt_tok (by decide) (first_sign 60 8 (by decide) (by decide) 40 r (fun h => absurd h (by decide)) rfl (by decide))]; rfl
  have h41 : lexAt (41 :: c :: 40 :: (b ++ [41])) (1 + a.length) = (⟨18, 0, ((1 + a.length : Nat) : Int)⟩ :: ⟨op, 0, ((1 + a.length + 1 : Nat) : Int)⟩ :: ⟨17, 0, ((1 + a.length + 1 + 1 : Nat) : Int)⟩ :: (shiftL ((1 + a.length + 1 + 1 + 1 : Nat) : Int) lb ++ [⟨18, 0, ((1 + a.length + 1 + 1 + 1 + b.length : Nat) : Int)⟩]), none) := by
    rw [lexAt_tok (by decide) (first_sign 41 18 (by decide) (by decide) c _ (fun _ => by decide) rfl (by decide))]
    rw [show (41 :: c :: 40 :: (b ++ [41])).drop 1 = c :: 40 :: (b ++ [41]) from rfl, hop1, h1]
  have ha2 := lexAt_close a.length a (c :: 40 :: (b ++ [41])) 0 1 la (Nat.le_refl _) ha
  rw [h41] at ha2
  rw [lexAt_tok (by decide) (h40 _ (by simp))]
  rw [show (40 :: (a ++ 41 :: c :: 40 :: (b ++ [41]))).drop 1 = a ++ 41 :: c :: 40 :: (b ++ [41]) from rfl, show 0 + 1 = 1 from rfl, ha2]
  rfl
/-- The postfix of two texts in brackets, and a sign between. -/
theorem cat_parsed (a b : List UInt8) (c : UInt8) (op : Int) (hop : c = 43 ∧ op = 3 ∨ c = 60 ∧ op = 8) {pa pb : List T} (ha : a.length ≤ 90) (hb : b.length ≤ 90) (hA : Parsed a (pa, .none)) (hB : Parsed b (pb, .none)) (hl : pa.length + pb.length ≤ 99) :
    Parsed (40 :: (a ++ 41 :: c :: 40 :: (b ++ [41]))) (pa ++ pb ++ [⟨op, 0, 0⟩], .none) := by
  obtain ⟨la, Ra, hla, hRa, ba, aa, rfl⟩ := parsed_inv (by omega) hA
  obtain ⟨lb, Rb, hlb, hRb, bb, ab, rfl⟩ := parsed_inv (by omega) hB
  have hlex := lex_cat a b c op hop hla hlb
  generalize hL : catL la lb a.length b.length op = L at hlex
  have hlen : L.length = la.length + lb.length + 5 := by rw [← hL]; simp [catL, shiftL]; omega
  have hs : (40 :: (a ++ 41 :: c :: 40 :: (b ++ [41]))).length ≤ 200 := by simp; omega
  have E1 : Emb la L 1 := by
    refine ⟨fun i h => ⟨⟨la[i].f0, la[i].f1, la[i].f2 + 1⟩, ?_, rfl, rfl⟩, ⟨⟨18, 0, ((1 + a.length : Nat) : Int)⟩, ?_, rfl⟩⟩
    · rw [← hL, catL, Nat.add_comm 1 i, List.getElem?_cons_succ, List.getElem?_append_left (by simp [shiftL]; omega)]
      simp [shiftL, List.getElem?_eq_getElem h]
    · rw [← hL, catL, Nat.add_comm 1 la.length, List.getElem?_cons_succ, List.getElem?_append_right (by simp [shiftL])]
      simp [shiftL]
  have hop2 : ∃ y, L[la.length + 2]? = some y ∧ y.f0 = op := by
    refine ⟨⟨op, 0, ((1 + a.length + 1 : Nat) : Int)⟩, ?_, rfl⟩
    rw [← hL, catL, List.getElem?_cons_succ, List.getElem?_append_right (by simp [shiftL])]
    simp [shiftL]
  have h17 : ∃ y, L[la.length + 3]? = some y ∧ y.f0 = 17 := by
    refine ⟨⟨17, 0, ((1 + a.length + 1 + 1 : Nat) : Int)⟩, ?_, rfl⟩
    rw [← hL, catL, List.getElem?_cons_succ, List.getElem?_append_right (by simp [shiftL])]
    simp [shiftL]
  have E2 : Emb lb L (la.length + 3 + 1) := by
    have key : ∀ i, L[la.length + 3 + 1 + i]? = (shiftL ((1 + a.length + 1 + 1 + 1 : Nat) : Int) lb ++ [⟨18, 0, ((1 + a.length + 1 + 1 + 1 + b.length : Nat) : Int)⟩])[i]? := by
      intro i
      rw [← hL, catL, show la.length + 3 + 1 + i = (la.length + (3 + i)) + 1 by omega, List.getElem?_cons_succ, List.getElem?_append_right (by simp [shiftL])]
      rw [show la.length + (3 + i) - (shiftL 1 la).length = i + 1 + 1 + 1 by simp [shiftL]; omega]
      simp only [List.getElem?_cons_succ]
    refine ⟨fun i h => ⟨⟨lb[i].f0, lb[i].f1, lb[i].f2 + ((1 + a.length + 1 + 1 + 1 : Nat) : Int)⟩, ?_, rfl, rfl⟩, ⟨⟨18, 0, ((1 + a.length + 1 + 1 + 1 + b.length : Nat) : Int)⟩, ?_, rfl⟩⟩
    · rw [key, List.getElem?_append_left (by simp [shiftL]; omega)]
      simp [shiftL, List.getElem?_eq_getElem h]
    · rw [key, List.getElem?_append_right (by simp [shiftL])]
      simp [shiftL]
  have B1 := bracket E1 [] rfl ⟨⟨17, 0, 0⟩, by rw [← hL]; rfl, rfl⟩ hRa ba aa
  have B2 := bracket E2 Ra.out rfl h17 hRb bb ab
  rw [Nat.zero_add, List.nil_append] at B1
  have see0 : St.see L st0 = 17 := by
    unfold St.see
    rw [if_neg (by intro h; rcases h with h | h; (· cases h); (· have h2 : L.length ≤ 0 := h; omega)), ← hL]
    rfl
  have seeS1 : St.see L ⟨la.length + 2, Ra.out, false⟩ = op := by
    obtain ⟨y, h1, h2⟩ := hop2
    unfold St.see
    rw [if_neg (by simp; omega)]
    show ((L[la.length + 2]?).getD ⟨0, 0, 0⟩).f0 = op
    rw [h1]; exact h2
  have e3 : la.length + 3 + lb.length + 2 = L.length := by omega
  rw [e3] at B2
  have seeE : ∀ o, St.see L ⟨L.length, o, false⟩ = 0 := fun o => by unfold St.see; rw [if_pos (.inr (Nat.le_refl _))]
  have lv0 : level 0 = 0 := rfl
  have P5a : Pr L false 5 st0 ⟨la.length + 2, Ra.out, false⟩ := .row (by omega) B1 (.stop (by rw [seeS1]; rcases hop with ⟨_, rfl⟩ | ⟨_, rfl⟩ <;> decide))
  have P5b : Pr L false 5 ⟨la.length + 3, Ra.out, false⟩ ⟨L.length, Ra.out ++ Rb.out, false⟩ := .row (by omega) B2 (.stop (by rw [seeE]; decide))
  have fin : ∀ {S : St}, Pr L false 3 st0 S → S.at_ = L.length → S.bad = false → S.out = Ra.out ++ Rb.out ++ [⟨op, 0, 0⟩] → Parsed (40 :: (a ++ 41 :: c :: 40 :: (b ++ [41]))) (Ra.out ++ Rb.out ++ [⟨op, 0, 0⟩], .none) := by
    intro S h3 hat hbd hout
    have hsee : S.see L = 0 := by unfold St.see; rw [if_pos (.inr (by omega))]
    have h1 : Pr L false 1 st0 S := .row (by omega) (.row (by omega) h3 (.stop (by rw [hsee]; decide))) (.stop (by rw [hsee]; decide))
    have hx : lexed (40 :: (a ++ 41 :: c :: 40 :: (b ++ [41]))) = (L, .none) := by rw [lexed, if_neg (by omega), hlex]
    unfold Parsed
    rw [hx]
    refine ⟨S, h1, ?_⟩
    unfold parsedOf
    rw [if_neg (by rw [hbd]; simp; omega), if_neg (by rw [hout]; simp; omega), hout]
  rcases hop with ⟨_, rfl⟩ | ⟨_, rfl⟩
  · have h4 : Pr L false 4 st0 ((⟨L.length, Ra.out ++ Rb.out, false⟩ : St).put 3 0) :=
      .row (by omega) P5a (.more (by rw [seeS1]; rfl) P5b (by rw [seeS1]; exact .stop (by show level (St.see L ⟨L.length, _, false⟩) ≠ 4; rw [seeE]; decide)))
    exact fin (.sum (by rw [see0]; decide) h4 (by show level (St.see L ⟨L.length, _, false⟩) ≠ 3; rw [seeE]; decide)) rfl rfl rfl
  · have h4 : Pr L false 4 st0 ⟨la.length + 2, Ra.out, false⟩ := .row (by omega) P5a (.stop (by rw [seeS1]; decide))
    have h4b : Pr L false 4 ⟨la.length + 3, Ra.out, false⟩ ⟨L.length, Ra.out ++ Rb.out, false⟩ := .row (by omega) P5b (.stop (by rw [seeE]; decide))
    have h3 := Pr.cmp (by rw [see0]; decide) h4 (by rw [seeS1]; rfl) h4b
    rw [seeS1] at h3
    exact fin h3 rfl rfl rfl
end Go.Proofs.YtldcplgfkcionaaDoor
