/- How a reader of tokens lies in memory, and what a call on it may change. -/
import Derived.Test.YtldcplgfkcionaaDoorTok
import Derived.Test.YtldcplgfkcionaaDoorParsep
set_option linter.unusedVariables false
set_option linter.unusedSimpArgs false
namespace Go.Proofs.YtldcplgfkcionaaDoor
open Go.RowKit PX Go.Proofs.YtldcplgfkcionaaDoorW.PrintWords
/-- The reader at block g (type tb): its tokens (outside), its place, its own row of what it put, and whether something is amiss. -/
structure Rdr (tb g : Nat) (A : Option Addr) (cap : Nat) (l : List T) (B : Nat) (w : World) (s : St) (v : Value) : Prop where
  blk : w.heap[g]? = some (.cells #[.slice A l.length cap, .int .i64 s.at_, v, .bool s.bad] tb (0, 0))
  out : Toks w B v s.out
  row : ToksC w A l.length l
  rowB : ∀ ad, A = some ad → ad.block < B ∧ ad.block ≠ g ∧ ad.block < w.heap.size
  lt : g < B
  le : B ≤ w.heap.size
  cap_ : l.length ≤ cap
/-- What a call on the reader may have changed: its block, and the row of its own. -/
abbrev ChgR (g : Nat) (v : Value) (w w' : World) : Prop := Chg (fun b => b = g ∨ some b = v.ownBlock) w w'
/-- The row's own block stays, or is a new one. -/
def Own (w : World) (v v' : Value) : Prop := v'.ownBlock = v.ownBlock ∨ ∃ b, v'.ownBlock = some b ∧ w.heap.size ≤ b
theorem Own.refl (w : World) (v : Value) : Own w v v := .inl rfl
theorem Own.trans {w w1 : World} {v v1 v2 : Value} (h : Own w v v1) (hs : w.heap.size ≤ w1.heap.size) (k : Own w1 v1 v2) : Own w v v2 := by
  rcases k with k | ⟨b, k, hb⟩
  · rcases h with h | ⟨c, h, hc⟩
    · exact .inl (k.trans h)
    · exact .inr ⟨c, k.trans h, hc⟩
  · exact .inr ⟨b, k, Nat.le_trans hs hb⟩
theorem ChgR.then {g : Nat} {v v1 : Value} {w w1 w2 : World} (h : ChgR g v w w1) (o : Own w v v1) (k : ChgR g v1 w1 w2) : ChgR g v w w2 := by
  refine h.trans' k ?_
  rintro i hi (e | e)
  · exact .inl e
  · rcases o with o | ⟨b, o, hb⟩
    · exact .inr (by rw [e, o])
    · exfalso
      rw [o] at e
      injection e with e
      omega
theorem toksC_same {w w' : World} {A : Option Addr} {n : Nat} {l : List T} (h : ToksC w A n l) (hs : ∀ ad, A = some ad → w'.heap[ad.block]? = w.heap[ad.block]?) : ToksC w' A n l := by
  refine ⟨h.1, h.2.1, fun hn => ?_⟩
  obtain ⟨ad, hA, hc⟩ := h.2.2 hn
  refine ⟨ad, hA, fun j p hj => ?_⟩
  obtain ⟨c, h1, h2, h3⟩ := hc j p hj
  have e := PAll.k40_open h2
  refine ⟨c, h1, by rw [e]; exact PAll.k40_mk w' p, fun i u hi => ?_⟩
  have hcell := h3 i u hi
  have hb : ∀ n, (ad.add n).block = ad.block := fun n => by unfold Addr.add; split <;> rfl
  rw [← hcell]
  exact World.cell?_of_block (by rw [hb]; exact hs ad hA)
theorem toksC_lt {w : World} {A : Option Addr} {n : Nat} {l : List T} (h : ToksC w A n l) (hn : 0 < n) {ad : Addr} (hA : A = some ad) : ad.block < w.heap.size := by
  obtain ⟨ad', hA', hc⟩ := h.2.2 hn
  rw [hA] at hA'
  injection hA' with hA'
  subst hA'
  have hl : 0 < l.length := by have := h.1; omega
  obtain ⟨c, h1, h2, h3⟩ := hc 0 l[0] (List.getElem?_eq_getElem hl)
  have e := PAll.k40_open h2
  have := h3 0 _ (by rw [e]; rfl)
  have hb : ∀ n, (ad.add n).block = ad.block := fun n => by unfold Addr.add; split <;> rfl
  rw [← hb]
  exact World.block_lt_of_cell? _ _ this
theorem tok_types {tb : Nat} (ht : 40 ≠ tb) : ∀ q, q ∈ 40 :: PAll.k40.E → q ≠ tb := by
  intro q hq
  rcases List.mem_cons.1 hq with rfl | hq
  · exact ht
  · have hq' : q ∈ ([] : List Nat) := hq
    cases hq'
section
variable {tb g : Nat} {A : Option Addr} {cap : Nat} {l : List T} {B : Nat} {w w' : World} {s : St} {v : Value}
/-- Other blocks may change. -/
theorem Rdr.other (h : Rdr tb g A cap l B w s v) {S : Nat → Prop} (hc : Chg S w w') (hS : ∀ k, S k → k ≠ g ∧ some k ≠ v.ownBlock ∧ ∀ ad, A = some ad → k ≠ ad.block) : Rdr tb g A cap l B w' s v := by
  refine ⟨hc.blk h.blk (fun e => (hS _ e).1 rfl), ?_, toksC_same h.row (fun ad hA => hc.block _ (h.rowB ad hA).2.2 (fun e => (hS _ e).2.2 ad hA rfl)), fun ad hA => ⟨(h.rowB ad hA).1, (h.rowB ad hA).2.1, Nat.lt_of_lt_of_le (h.rowB ad hA).2.2 hc.size⟩, h.lt, Nat.le_trans h.le hc.size, h.cap_⟩
  exact Kd.R_mono (Kd.R_step (Kd.R_tight rfl h.out) (fun k hk hlt => hc.block k hlt (fun e => (hS k e).2.1 hk))) (fun _ _ => trivial)
/-- One of the reader's own cells is set: its place, or whether something is amiss. -/
theorem Rdr.setAt (h : Rdr tb g A cap l B w s v) (ht : 40 ≠ tb) (n : Nat) : Rdr tb g A cap l B (w.setCell ⟨g, 1, none⟩ (.int .i64 n)) { s with at_ := n } v :=
  ⟨blk_set h.blk 1 _, Kd.R_set h.out h.blk (tok_types ht) 1 _, toksC_same h.row (fun ad hA => Below.heap_setCell _ _ _ _ (h.rowB ad hA).2.1), fun ad hA => ⟨(h.rowB ad hA).1, (h.rowB ad hA).2.1, by simpa [World.setCell] using (h.rowB ad hA).2.2⟩, h.lt, by simpa [World.setCell] using h.le, h.cap_⟩
theorem Rdr.setBad (h : Rdr tb g A cap l B w s v) (ht : 40 ≠ tb) (b : Bool) : Rdr tb g A cap l B (w.setCell ⟨g, 3, none⟩ (.bool b)) { s with bad := b } v :=
  ⟨blk_set h.blk 3 _, Kd.R_set h.out h.blk (tok_types ht) 3 _, toksC_same h.row (fun ad hA => Below.heap_setCell _ _ _ _ (h.rowB ad hA).2.1), fun ad hA => ⟨(h.rowB ad hA).1, (h.rowB ad hA).2.1, by simpa [World.setCell] using (h.rowB ad hA).2.2⟩, h.lt, by simpa [World.setCell] using h.le, h.cap_⟩
theorem chg_setG (v : Value) (w : World) (j : Nat) (u : Value) : ChgR g v w (w.setCell ⟨g, j, none⟩ u) := (Chg.refl _ _).setCell (fun _ => .inl rfl) u
/-- New blocks. -/
theorem Rdr.below (h : Rdr tb g A cap l B w s v) (hb : Below w.heap.size w w') : Rdr tb g A cap l B w' s v :=
  h.other (S := fun _ => False) (Chg.of_below hb) (fun _ e => e.elim)
/-- The row was appended to, and laid again into the reader. -/
theorem Rdr.put (h : Rdr tb g A cap l B w s v) (ht : 40 ≠ tb) {w1 : World} {v1 : Value} {x : T} (hg : w.grownBy w1 v.ownBlock) (hT : Toks w1 B v1 (s.out ++ [x])) :
    Rdr tb g A cap l B (w1.setCell ⟨g, 2, none⟩ v1) { s with out := s.out ++ [x] } v1 := by
  have hne : some g ≠ v.ownBlock := fun e => by have := Kd.R_base h.out g e.symm; have := h.lt; omega
  have hblk : w1.heap[g]? = some (.cells #[.slice A l.length cap, .int .i64 s.at_, v, .bool s.bad] tb (0, 0)) := (hg.block g (lt_of_block h.blk) hne).trans h.blk
  have hrow : ∀ ad, A = some ad → w1.heap[ad.block]? = w.heap[ad.block]? := fun ad hA => hg.block _ (h.rowB ad hA).2.2 (fun e => by have := Kd.R_base h.out _ e.symm; have := (h.rowB ad hA).1; omega)
  refine ⟨blk_set hblk 2 _, Kd.R_set hT hblk (tok_types ht) 2 _, toksC_same (toksC_same h.row hrow) (fun ad hA => Below.heap_setCell _ _ _ _ (h.rowB ad hA).2.1), fun ad hA => ⟨(h.rowB ad hA).1, (h.rowB ad hA).2.1, ?_⟩, h.lt, ?_, h.cap_⟩
  · have := (h.rowB ad hA).2.2; have := hg.size; simp [World.setCell]; omega
  · have := h.le; have := hg.size; simp [World.setCell]; omega
end
end Go.Proofs.YtldcplgfkcionaaDoor
