/- append onto an own row as one step of a region that draws its order. -/
import Derived.Test.YtacjfoghjbhmkaaWin
import Derived.Deep.RegionLawGrows
import Derived.Laws.OwnMore
namespace Go.Proofs.Ytacjfoghjbhmkaa
open Go.RowKit
theorem step_app {P : Program} {ops : Array Oper} {o : Oper} {a : Act} {w : World} {K : Act → World → Prop} {Q : Exit → Act → World → Prop} {E : Prop}
    (hg : o.guard = none) (s x : Operand) (t : TypeId) (hop : o.op = Op.call { callee := Callee.builtin Builtin.append, args := #[s, x], argTypes := #[t, t] })
    (e : TypeId) (z : Value) (size bytes : Nat) (ht : P.underlying t = some (.slice e)) (hinfo : (P.info? e).map (fun i => (i.zero, i.size, i.bytes)) = some (some z, size, bytes)) (hz : z.cells.size = size) (hs0 : 0 < size) (hb0 : 0 < bytes)
    (B : Nat) (v : Value) (n : Nat) (xs : List Value) (hs : a.eval s = v) (ad : Addr) (m c : Nat) (news : List Value) (hx : a.eval x = .slice (some ad) m c) (hn : news.length = m * size)
    (HO : w.ownsRow B e size v n xs) (hc : ∀ j u, news[j]? = some u → w.cell? (ad.add j) = some u) (h1c : ∀ u ∈ news, u.oneCell' = true)
    (hB : B ≤ w.heap.size) (hl : (n + m) * bytes ≤ 140737488355328)
    (hK : ∀ v' w', w'.ownsRow B e size v' (n + m) (xs ++ news) → Chg (fun k => v.ownBlock = some k) w w' → K (a.put o.dst v') w') :
    if Region.wanted o (yielded ops a.tmps) = true then Oper.wp P o a w K Q else E := by
  have hw : Region.wanted o (yielded ops a.tmps) = true := by simp [Region.wanted, hg]
  rw [if_pos hw]
  obtain ⟨i0, hi, hzz⟩ := Option.map_eq_some_iff.1 hinfo
  simp only [Prod.mk.injEq] at hzz
  obtain ⟨hz0, hz1, hz2⟩ := hzz
  have hlen : n + m ≤ 140737488355328 := Nat.le_trans (Nat.le_mul_of_pos_right _ hb0) hl
  obtain ⟨v', w', hrun, r1, r2, _⟩ := run_append_own (P := P) w B t o.type e i0 z size bytes ht hi hz0 hz1 hz2 hz hs0 v n xs HO ad m c news hn hc h1c (by simp only [maxLen]; omega) hl hB
  unfold Oper.wp
  simp [execOp, hop, resolve, invoke, builtin, hs, hx, hrun, Result.andThen]
  exact hK v' w' r1 (Chg.of_grown r2 fun k hk _ => hk)
/-- The same onto a literal without room: a row of its own. -/
theorem step_copy {P : Program} {ops : Array Oper} {o : Oper} {a : Act} {w : World} {K : Act → World → Prop} {Q : Exit → Act → World → Prop} {E : Prop}
    (hg : o.guard = none) (s x : Operand) (t : TypeId) (hop : o.op = Op.call { callee := Callee.builtin Builtin.append, args := #[s, x], argTypes := #[t, t] })
    (e : TypeId) (z : Value) (size bytes : Nat) (ht : P.underlying t = some (.slice e)) (hinfo : (P.info? e).map (fun i => (i.zero, i.size, i.bytes)) = some (some z, size, bytes)) (hz : z.cells.size = size) (hs0 : 0 < size) (hb0 : 0 < bytes)
    (A : Addr) (hs : a.eval s = .slice (some A) 0 0) (ad : Addr) (m c : Nat) (news : List Value) (hx : a.eval x = .slice (some ad) m c) (hm : 0 < m) (hn : news.length = m * size)
    (hc : ∀ j u, news[j]? = some u → w.cell? (ad.add j) = some u) (h1c : ∀ u ∈ news, u.oneCell' = true)
    (hl : m * bytes ≤ 140737488355328)
    (hK : ∀ v' w', w'.ownsRow w.heap.size e size v' m news → Chg (fun _ => False) w w' → K (a.put o.dst v') w') :
    if Region.wanted o (yielded ops a.tmps) = true then Oper.wp P o a w K Q else E := by
  obtain ⟨i0, hi, hzz⟩ := Option.map_eq_some_iff.1 hinfo
  simp only [Prod.mk.injEq] at hzz
  obtain ⟨hz0, hz1, hz2⟩ := hzz
  have hlen : m ≤ 140737488355328 := Nat.le_trans (Nat.le_mul_of_pos_right _ hb0) hl
  refine step_append_grows hg s x t hop e i0 z size bytes ht hi hz0 hz1 hz2 hz hs0 (some A) 0 0 [] hs (by simp) (by simp) (by simp) ad m c news hx hn hc h1c (by omega) (by simp only [maxLen]; omega) (by simpa using hl) ?_
  intro v' w' h1 h2
  exact hK v' w' (by simpa using h1) (Chg.of_grown h2 fun k hk _ => by cases hk)
/-- The same onto the literal's own row without elements, the other slice empty or not. -/
theorem step_lit {P : Program} {ops : Array Oper} {o : Oper} {a : Act} {w : World} {K : Act → World → Prop} {Q : Exit → Act → World → Prop} {E : Prop}
    (hg : o.guard = none) (s x : Operand) (t : TypeId) (hop : o.op = Op.call { callee := Callee.builtin Builtin.append, args := #[s, x], argTypes := #[t, t] })
    (e : TypeId) (z : Value) (size bytes : Nat) (ht : P.underlying t = some (.slice e)) (hinfo : (P.info? e).map (fun i => (i.zero, i.size, i.bytes)) = some (some z, size, bytes)) (hz : z.cells.size = size) (hs0 : 0 < size) (hb0 : 0 < bytes)
    (B N : Nat) (hs : a.eval s = .slice (some ⟨N, 0, none⟩) 0 0) (A : Option Addr) (m c : Nat) (news : List Value) (hx : a.eval x = .slice A m c) (hA : A = none → m = 0 ∧ c = 0) (hn : news.length = m * size)
    (HN : w.heap[N]? = some (.cells #[] e (0, 0))) (hBN : B ≤ N) (hc : ∀ ad, A = some ad → ∀ j u, news[j]? = some u → w.cell? (ad.add j) = some u) (h1c : ∀ u ∈ news, u.oneCell' = true)
    (hl : m * bytes ≤ 140737488355328)
    (hK : ∀ v' w', w'.ownsRow B e size v' m news → Chg (fun k => k = N) w w' → K (a.put o.dst v') w') :
    if Region.wanted o (yielded ops a.tmps) = true then Oper.wp P o a w K Q else E := by
  have hlt := lt_of_block HN
  have HO : w.ownsRow B e size (.slice (some ⟨N, 0, none⟩) 0 0) 0 [] := ⟨by simp, .inr ⟨N, 0, #[], rfl, hBN, HN, Nat.le_refl _, Nat.zero_le _, by simp, by simp⟩⟩
  cases A with
  | some ad =>
    refine step_app hg s x t hop e z size bytes ht hinfo hz hs0 hb0 B _ 0 [] hs ad m c news hx hn HO (hc ad rfl) h1c (by omega) (by simpa using hl) ?_
    intro v' w' h1 h2
    exact hK v' w' (by simpa using h1) (h2.mono fun k _ h => by simp [Value.ownBlock] at h; omega)
  | none =>
    obtain ⟨rfl, rfl⟩ := hA rfl
    obtain rfl : news = [] := List.eq_nil_of_length_eq_zero (by simpa using hn)
    have hw : Region.wanted o (yielded ops a.tmps) = true := by simp [Region.wanted, hg]
    rw [if_pos hw]
    obtain ⟨i0, hi, hzz⟩ := Option.map_eq_some_iff.1 hinfo
    simp only [Prod.mk.injEq] at hzz
    obtain ⟨hz0, hz1, hz2⟩ := hzz
    have hrun := run_append_owned_none (P := P) (w := w) B t o.type e i0 size ht hi _ 0 [] HO
    have k := hK _ w (by simpa using HO) (Chg.refl _ w)
    unfold Oper.wp
    simp [execOp, hop, resolve, invoke, builtin, hs, hx, hrun, Result.andThen]
    exact k
end Go.Proofs.Ytacjfoghjbhmkaa
