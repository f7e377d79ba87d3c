/- A slice of the call's own that may begin in the middle of its row: what an append to it makes, and a cut. -/
import Derived.Test.YtacjfoghjbhmkaaBase
import Derived.Deep.AppendSrc
import Derived.Deep.Upon
namespace Go.Proofs.Ytacjfoghjbhmkaa
open Go.RowKit
/-- v is a slice of n elements, xs its cells; it lies somewhere in a row from block B on. -/
def Win (w : World) (B : Nat) (e : TypeId) (size : Nat) (v : Value) (n : Nat) (xs : List Value) : Prop :=
  xs.length = n * size ∧ ((v = .slice none 0 0 ∧ n = 0) ∨ ∃ g off cap cur, v = .slice (some ⟨g, off, none⟩) n cap ∧ B ≤ g ∧ w.heap[g]? = some (.cells cur e (0, 0)) ∧ n ≤ cap ∧ cap ≤ maxLen ∧ off + cap * size ≤ cur.size ∧ (cur.toList.drop off).take (n * size) = xs)
theorem win_of_own {w : World} {B : Nat} {e : TypeId} {size n : Nat} {v : Value} {xs : List Value} (h : w.ownsRow B e size v n xs) : Win w B e size v n xs := by
  obtain ⟨hl, h | ⟨g, cap, cur, rfl, h1, h2, h3, h4, h5, h6⟩⟩ := h
  · exact ⟨hl, .inl h⟩
  · exact ⟨hl, .inr ⟨g, 0, cap, cur, rfl, h1, h2, h3, h4, by omega, by simpa using h6⟩⟩
theorem win_nil (w : World) (B : Nat) (e : TypeId) (size : Nat) : Win w B e size (.slice none 0 0) 0 [] := ⟨by simp, .inl ⟨rfl, rfl⟩⟩
theorem win_slice {w : World} {B : Nat} {e : TypeId} {size n : Nat} {v : Value} {xs : List Value} (h : Win w B e size v n xs) : ∃ A cap, v = .slice A n cap := by
  obtain ⟨_, ⟨rfl, rfl⟩ | ⟨g, off, cap, cur, rfl, _⟩⟩ := h
  · exact ⟨_, _, rfl⟩
  · exact ⟨_, _, rfl⟩
theorem win_shape {w : World} {B : Nat} {e : TypeId} {size n : Nat} {v : Value} {xs : List Value} (h : Win w B e size v n xs) (hn : 0 < n) :
    ∃ g off cap, v = .slice (some ⟨g, off, none⟩) n cap ∧ B ≤ g ∧ g < w.heap.size ∧ n ≤ cap ∧ cap ≤ maxLen ∧ (∀ j u, xs[j]? = some u → w.cell? ⟨g, off + j, none⟩ = some u) ∧ ∀ j, w.frozen? ⟨g, j, none⟩ = false := by
  obtain ⟨hl, ⟨rfl, rfl⟩ | ⟨g, off, cap, cur, rfl, hB, hg, hc, hm, hs, ht⟩⟩ := h
  · omega
  refine ⟨g, off, cap, rfl, hB, lt_of_block hg, hc, hm, fun j u hj => ?_, fun j => blk_free hg j⟩
  rw [blk_cell hg, ← Array.getElem?_toList]
  rw [← ht, List.getElem?_take] at hj
  split at hj
  · rwa [List.getElem?_drop] at hj
  · cases hj
theorem win_lt {w : World} {B : Nat} {e : TypeId} {size n : Nat} {v : Value} {xs : List Value} (h : Win w B e size v n xs) (k : Nat) (hk : v.ownBlock = some k) : B ≤ k ∧ k < w.heap.size := by
  obtain ⟨hl, ⟨rfl, rfl⟩ | ⟨g, off, cap, cur, rfl, hB, hg, _⟩⟩ := h
  · simp [Value.ownBlock] at hk
  · obtain rfl : g = k := by simpa [Value.ownBlock] using hk
    exact ⟨hB, lt_of_block hg⟩
theorem win_chg {w w' : World} {B : Nat} {e : TypeId} {size n : Nat} {v : Value} {xs : List Value} {S : Nat → Prop} (h : Win w B e size v n xs) (hc : Chg S w w') (hs : ∀ k, v.ownBlock = some k → ¬ S k) : Win w' B e size v n xs := by
  obtain ⟨hl, h | ⟨g, off, cap, cur, rfl, hB, hg, r⟩⟩ := h
  · exact ⟨hl, .inl h⟩
  · exact ⟨hl, .inr ⟨g, off, cap, cur, rfl, hB, hc.blk hg (hs g rfl), r⟩⟩
theorem win_ne {w : World} {B : Nat} {e t : TypeId} {size n g : Nat} {v : Value} {xs : List Value} {cs : Array Value} {fr : Nat × Nat} (h : Win w B e size v n xs) (hg : w.heap[g]? = some (.cells cs t fr)) (hne : e ≠ t) : v.ownBlock ≠ some g := by
  obtain ⟨_, ⟨rfl, rfl⟩ | ⟨g', off, cap, cur, rfl, _, hg', _⟩⟩ := h
  · simp [Value.ownBlock]
  · intro he
    obtain rfl : g' = g := by simpa [Value.ownBlock] using he
    rw [hg'] at hg
    injection hg with hg
    injection hg with _ ht
    exact hne ht
theorem win_take {w : World} {B : Nat} {e : TypeId} {size n cap : Nat} {A : Option Addr} {xs : List Value} (h : Win w B e size (.slice A n cap) n xs) (k : Nat) (hk : k ≤ n) : Win w B e size (.slice A k cap) k (xs.take (k * size)) := by
  obtain ⟨hl, ⟨hv, h0⟩ | ⟨g, off, cap', cur, hv, hB, hg, hc, hm, hs, ht⟩⟩ := h
  · injection hv with h1 h2 h3
    subst h1 h3
    obtain rfl : k = 0 := by omega
    exact ⟨by simp, .inl ⟨rfl, rfl⟩⟩
  · injection hv with h1 h2 h3
    subst h1 h3
    have := Nat.mul_le_mul_right size hk
    refine ⟨by rw [List.length_take]; omega, .inr ⟨g, off, cap, cur, rfl, hB, hg, by omega, hm, hs, ?_⟩⟩
    rw [← ht, List.take_take, Nat.min_eq_left this]
theorem win_drop {w : World} {B : Nat} {e : TypeId} {size n cap g off : Nat} {xs : List Value} (h : Win w B e size (.slice (some ⟨g, off, none⟩) n cap) n xs) (k : Nat) (hk : k ≤ n) : Win w B e size (.slice (some ⟨g, off + k * size, none⟩) (n - k) (cap - k)) (n - k) (xs.drop (k * size)) := by
  obtain ⟨hl, ⟨hv, h0⟩ | ⟨g', off', cap', cur, hv, hB, hg, hc, hm, hs, ht⟩⟩ := h
  · cases hv
  · injection hv with h1 h2 h3
    injection h1 with h1
    injection h1 with h1 h4
    subst h1 h3 h4
    have e1 : n * size = k * size + (n - k) * size := by rw [← Nat.add_mul]; congr 1; omega
    have e2 : cap * size = k * size + (cap - k) * size := by rw [← Nat.add_mul]; congr 1; omega
    refine ⟨by rw [List.length_drop]; omega, .inr ⟨g, _, cap - k, cur, rfl, hB, hg, by omega, by omega, by omega, ?_⟩⟩
    rw [← ht, e1, List.drop_take, List.drop_drop]
    congr 1
    omega
theorem win_none {w : World} {B : Nat} {e : TypeId} {size n cap g off : Nat} {xs : List Value} (h : Win w B e size (.slice (some ⟨g, off, none⟩) n cap) n xs) : Win w B e size (.slice (some ⟨g, off, none⟩) 0 0) 0 [] := by
  obtain ⟨hl, ⟨hv, h0⟩ | ⟨g', off', cap', cur, hv, hB, hg, hc, hm, hs, ht⟩⟩ := h
  · cases hv
  · injection hv with h1 h2 h3
    injection h1 with h1
    injection h1 with h1 h4
    subst h1 h3 h4
    exact ⟨by simp, .inr ⟨g, off, 0, cur, rfl, hB, hg, Nat.le_refl _, Nat.zero_le _, by omega, by simp⟩⟩
theorem heap_setCells {g : Nat} {t : TypeId} {fr : Nat × Nat} : ∀ (vs : List Value) (o : Nat) (w : World) (cur : Array Value), w.heap[g]? = some (.cells cur t fr) → o + vs.length ≤ cur.size →
    ∃ cur' : Array Value, (w.setCells g o vs).heap[g]? = some (.cells cur' t fr) ∧ cur'.size = cur.size ∧ cur'.toList = cur.toList.take o ++ vs ++ cur.toList.drop (o + vs.length)
  | [], o, w, cur, h, hl => ⟨cur, h, rfl, by simp⟩
  | v :: r, o, w, cur, h, hl => by
    simp at hl
    obtain ⟨cur', h1, h2, h3⟩ := heap_setCells r (o + 1) (w.setCell ⟨g, o, none⟩ v) (cur.setIfInBounds o v) (blk_set h o v) (by simp; omega)
    refine ⟨cur', h1, by simpa using h2, ?_⟩
    rw [h3, Array.toList_setIfInBounds]
    have hlt : o < cur.toList.length := by simp; omega
    rw [List.take_set, List.drop_set_of_lt (by omega), List.take_succ_eq_append_getElem hlt, List.set_append_right _ _ (by simp; omega)]
    simp [Nat.min_eq_left (show o ≤ cur.size by omega), Nat.add_assoc, Nat.add_comm 1]
theorem chg_setCells {S : Nat → Prop} {a : World} {g : Nat} (hS : g < a.heap.size → S g) : ∀ (vs : List Value) (o : Nat) (b : World), Chg S a b → Chg S a (b.setCells g o vs)
  | [], _, _, h => h
  | v :: r, o, b, h => chg_setCells hS r (o + 1) (b.setCell ⟨g, o, none⟩ v) (h.setCell hS v)
section
variable {P : Program} {ops : Array Oper} {rest : List Oper} {o : Oper} {a : Act} {Q : Exit → Act → World → Prop}
theorem run_win (W : World) (t ty e : TypeId) (z : Value) (size bytes : Nat) (ht : P.underlying t = some (.slice e)) (hinfo : (P.info? e).map (fun i => (i.zero, i.size, i.bytes)) = some (some z, size, bytes)) (hz : z.cells.size = size) (hs0 : 0 < size) (hb0 : 0 < bytes)
    (B : Nat) (v : Value) (n : Nat) (xs ys : List Value) (ad : Addr) (m c : Nat) (hys : ys.length = m * size) (h1 : ∀ u ∈ ys, u.oneCell' = true)
    (hc : ∀ j u, ys[j]? = some u → W.cell? (ad.add j) = some u) (HO : Win W B e size v n xs) (hbase : B ≤ W.heap.size) (hl : (n + m) * bytes ≤ 140737488355328) :
    ∃ v1 w1, (Builtin.append_ #[t, t] ty #[v, .slice (some ad) m c]).run P W = .ok v1 w1 ∧ Win w1 B e size v1 (n + m) (xs ++ ys) ∧ Chg (fun k => v.ownBlock = some k) W w1 ∧ (v1.ownBlock = v.ownBlock ∨ v1.ownBlock = some W.heap.size) := by
  have hlen : n + m ≤ 140737488355328 := Nat.le_trans (Nat.le_mul_of_pos_right _ hb0) hl
  obtain ⟨hxl, ⟨rfl, rfl⟩ | ⟨g, off, cap, cur, rfl, hB, hg, hnc, hcm, hcs, ht2⟩⟩ := HO
  · obtain ⟨i0, hi, hzz⟩ := Option.map_eq_some_iff.1 hinfo
    simp only [Prod.mk.injEq] at hzz
    obtain ⟨hz0, hz1, hz2⟩ := hzz
    obtain rfl : xs = [] := List.eq_nil_of_length_eq_zero (by simpa using hxl)
    obtain ⟨v1, w1, hr, h2, h3, _, h5⟩ := run_append_own_at (P := P) W B t ty e i0 z size bytes ht hi hz0 hz1 hz2 hz hs0 _ 0 [] (World.ownsRow_nil _ _ _ _) ad m c ys hys hc h1 (by unfold maxLen; omega) hl hbase
    exact ⟨v1, w1, hr, win_of_own h2, Chg.of_grown h3 fun k hk _ => hk, h5⟩
  · obtain ⟨i0, hi, hzz⟩ := Option.map_eq_some_iff.1 hinfo
    simp only [Prod.mk.injEq] at hzz
    obtain ⟨hz0, rfl, rfl⟩ := hzz
    have hsrc := Src.ofSlice (P := P) W ht ad m c ys hys hc h1
    have hnm : n * i0.size + m * i0.size = (n + m) * i0.size := (Nat.add_mul _ _ _).symm
    by_cases hroom : n + m ≤ cap
    · have hle : (n + m) * i0.size ≤ cap * i0.size := Nat.mul_le_mul_right _ hroom
      have hr := run_append_room_src (P := P) W t t ty e i0 ht hi g off n cap _ m ys hsrc hroom (fun j hj => by rw [blk_cell hg, Array.getElem?_eq_getElem (by omega)]; rfl) (fun j hj => blk_free hg _)
      obtain ⟨cur', k1, k2, k3⟩ := heap_setCells ys (off + n * i0.size) W cur hg (by omega)
      refine ⟨_, _, hr, ⟨by rw [List.length_append, hxl, hys, hnm], .inr ⟨g, off, cap, cur', rfl, hB, k1, hroom, hcm, by rw [k2]; exact hcs, ?_⟩⟩, chg_setCells (S := fun k => (Value.slice (some ⟨g, off, none⟩) n cap).ownBlock = some k) (fun _ => rfl) _ _ _ (Chg.refl _ _), .inl rfl⟩
      rw [k3, List.append_assoc, List.drop_append_of_le_length (by simp; omega), ← ht2, ← hnm]
      have e1 : (cur.toList.take (off + n * i0.size)).drop off = (cur.toList.drop off).take (n * i0.size) := by rw [List.drop_take]; congr 1; omega
      have e2 : ((cur.toList.drop off).take (n * i0.size)).length = n * i0.size := by rw [ht2]; exact hxl
      rw [e1, ← hys]
      conv => lhs; rw [show n * i0.size + ys.length = ((cur.toList.drop off).take (n * i0.size) ++ ys).length by rw [List.length_append, e2], ← List.append_assoc]
      exact List.take_left
    · have hold : ∀ j u, xs[j]? = some u → W.cell? ((⟨g, off, none⟩ : Addr).add j) = some u := by
        intro j u hj
        rw [add_at, blk_cell hg, ← Array.getElem?_toList]
        rw [← ht2, List.getElem?_take] at hj
        split at hj
        · rwa [List.getElem?_drop] at hj
        · cases hj
      have hr := run_append_grow (P := P) W t ty e i0 z ht hi hz0 ⟨g, off, none⟩ n cap xs hxl hold ad m c ys hys hc (by omega) (by omega) (growslice_fits (by omega) hl)
      have hge := grownCap_ge W (n + m) cap e
      refine ⟨_, _, hr, ⟨by rw [List.length_append, hxl, hys, hnm], .inr ⟨W.heap.size, 0, _, _, rfl, hbase, heap_alloc_new W.drew _, hge, grownCap_le_maxLen W (n + m) cap e (by unfold maxLen; omega), ?_, ?_⟩⟩, ((Chg.refl _ W).drew).alloc _, .inr rfl⟩
      · simp only [Array.size_append, List.size_toArray, size_zeroCells, hz, hxl, hys, ← Nat.add_mul]
        rw [Nat.zero_add]
        exact Nat.le_of_eq (by congr 1; omega)
      · simp only [Array.toList_append, List.append_assoc, List.drop_zero]
        rw [← List.append_assoc, show (n + m) * i0.size = (xs ++ ys).length by rw [List.length_append, hxl, hys, hnm]]
        exact List.take_left
/-- append(s, x...), s a window. -/
theorem win_from {W : World} (hgd : o.guard = none) (s x : Operand) (t e : TypeId) (z : Value) (size bytes : Nat)
    (ho : o.op = .call { callee := .builtin .append, args := #[s, x], argTypes := #[t, t] })
    (ht : P.underlying t = some (.slice e)) (hinfo : (P.info? e).map (fun i => (i.zero, i.size, i.bytes)) = some (some z, size, bytes)) (hz : z.cells.size = size) (hs0 : 0 < size) (hb0 : 0 < bytes)
    (B : Nat) (v : Value) (n : Nat) (xs ys : List Value) (ad : Addr) (m c : Nat) (hs : a.eval s = v) (hx : a.eval x = .slice (some ad) m c) (hys : ys.length = m * size) (h1 : ∀ u ∈ ys, u.oneCell' = true)
    (hc : ∀ j u, ys[j]? = some u → W.cell? (ad.add j) = some u)
    (HO : Win W B e size v n xs) (hbase : B ≤ W.heap.size) (hl : (n + m) * bytes ≤ 140737488355328)
    (h : ∀ v1 w1, Win w1 B e size v1 (n + m) (xs ++ ys) → Chg (fun k => v.ownBlock = some k) W w1 → (v1.ownBlock = v.ownBlock ∨ v1.ownBlock = some W.heap.size) → wpList P ops Q rest (a.put o.dst v1) w1) :
    wpList P ops Q (o :: rest) a W := by
  refine wpList_plain hgd fun K hK => ?_
  obtain ⟨v', w', hr, h2, h3, h5⟩ := run_win (P := P) W t o.type e z size bytes ht hinfo hz hs0 hb0 B v n xs ys ad m c hys h1 hc HO hbase hl
  unfold Oper.wp execOp
  simp only [ho, resolve, invoke, builtin, Sem.run_bind, Sem.run_pure, Result.andThen_ok, List.map_toArray, List.map_cons, List.map_nil, hs, hx, hr]
  exact hK _ _ (h v' w' h2 h3 h5)
theorem win_one {W : World} (hgd : o.guard = none) (s x : Operand) (t e : TypeId) (z : Value) (size bytes : Nat)
    (ho : o.op = .call { callee := .builtin .append, args := #[s, x], argTypes := #[t, t] })
    (ht : P.underlying t = some (.slice e)) (hinfo : (P.info? e).map (fun i => (i.zero, i.size, i.bytes)) = some (some z, size, bytes)) (hz : z.cells.size = size) (hs0 : 0 < size) (hb0 : 0 < bytes)
    (B : Nat) (v : Value) (n : Nat) (xs : List Value) (ys : Array Value) (N : Nat) (hs : a.eval s = v) (hx : a.eval x = .slice (some ⟨N, 0, none⟩) 1 1) (hN : N = W.heap.size) (hys : ys.size = size) (h1 : ∀ u ∈ ys.toList, u.oneCell' = true)
    (HO : Win W B e size v n xs) (hbase : B ≤ W.heap.size) (hl : (n + 1) * bytes ≤ 140737488355328)
    (h : ∀ v1 w1, Win w1 B e size v1 (n + 1) (xs ++ ys.toList) → Chg (fun k => v.ownBlock = some k) W w1 → (v1.ownBlock = v.ownBlock ∨ ∃ b, v1.ownBlock = some b ∧ W.heap.size ≤ b) → wpList P ops Q rest (a.put o.dst v1) w1) :
    wpList P ops Q (o :: rest) a (W.alloc (.cells ys e)) := by
  subst hN
  refine win_from hgd s x t e z size bytes ho ht hinfo hz hs0 hb0 B v n xs ys.toList ⟨W.heap.size, 0, none⟩ 1 1 hs hx (by simp [hys]) h1
    (by simpa using World.news_of_block (cs := ys) (t := e) (fr := (0, 0)) (heap_alloc_new W (.cells ys e))) (win_chg HO ((Chg.refl (fun _ => False) W).alloc _) (fun _ _ h => h)) (by simp; omega) hl ?_
  intro v1 w1 hown hg hat
  refine h v1 w1 hown (((Chg.refl (fun k => v.ownBlock = some k) W).alloc _).trans hg) ?_
  rcases hat with hat | hat
  · exact .inl hat
  · exact .inr ⟨_, hat, by simp⟩
end
end Go.Proofs.Ytacjfoghjbhmkaa
