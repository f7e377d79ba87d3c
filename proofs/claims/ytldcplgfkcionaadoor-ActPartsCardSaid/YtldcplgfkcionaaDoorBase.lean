/- Words and small laws that all proofs of this family use: what a call may change, how Go's data lie in memory, and how a readable argument is opened. Nothing of one function. -/
import Derived.Test.YtldcplgfkcionaaDoorProg
import Derived.WalkKit
import Derived.ProofKit
import Derived.LaidEql
import Derived.WideLaws
import Derived.KernelRfl
import Derived.Lib.Hide
import Derived.OneCell
import Derived.OpenShut
import Derived.Deep.Slices
import Derived.Deep.LoopGhost
import Derived.Deep.Draws
import Derived.ChangeOld
import Derived.Maps.AppendAt
import Derived.Laws.Rows
import Derived.Deep.QuietTactic
import Derived.BigQuiet
import Derived.Outline
import Derived.Deep.AppendLies
set_option linter.unusedVariables false
namespace Go
section
variable {P : Program} (w : World)
theorem run_equalIn_iface_int (d : Nat) {ti tn : TypeId} {ms : Array (String × TypeId)} {i : TypeInfo} {k : IntKind} (a b : Int)
    (hi : P.underlying ti = some (.interface ms)) (hn : P.underlying tn = some (.int k)) (hinfo : P.info? tn = some i) (hcomp : i.comparable = true) :
    (Op.equalIn (d + 2) ti (.iface tn (.int k a)) (.iface tn (.int k b))).run P w = .ok (a == b) w := by
  simp [Op.equalIn, run_underlying hi, run_underlying hn, typeInfo, hinfo, hcomp]
theorem run_eql_iface_int {ti tn : TypeId} {ms : Array (String × TypeId)} {i : TypeInfo} {k : IntKind} (a b : Int)
    (hi : P.underlying ti = some (.interface ms)) (hn : P.underlying tn = some (.int k)) (hinfo : P.info? tn = some i) (hcomp : i.comparable = true) :
    (binOp .eql ti (.iface tn (.int k a)) (.iface tn (.int k b))).run P w = .ok (.bool (a == b)) w := by
  simp only [binOp]
  simp [Op.equal, Op.maxDepth, run_equalIn_iface_int w 9998 a b hi hn hinfo hcomp]
theorem run_neq_iface_int {ti tn : TypeId} {ms : Array (String × TypeId)} {i : TypeInfo} {k : IntKind} (a b : Int)
    (hi : P.underlying ti = some (.interface ms)) (hn : P.underlying tn = some (.int k)) (hinfo : P.info? tn = some i) (hcomp : i.comparable = true) :
    (binOp .neq ti (.iface tn (.int k a)) (.iface tn (.int k b))).run P w = .ok (.bool (!(a == b))) w := by
  simp only [binOp]
  simp [Op.equal, Op.maxDepth, run_equalIn_iface_int w 9998 a b hi hn hinfo hcomp]
theorem run_neq_iface_nil_left {ti : TypeId} {ms : Array (String × TypeId)} (tp : TypeId) (v : Value) (hi : P.underlying ti = some (.interface ms)) :
    (binOp .neq ti .nilIface (.iface tp v)).run P w = .ok (.bool true) w := by
  have h : ∀ d : Nat, (Op.equalIn (d + 1) ti .nilIface (.iface tp v)).run P w = .ok false w := fun d => by simp [Op.equalIn, run_underlying hi]
  simp only [binOp]
  simp [Op.equal, Op.maxDepth, h 9999]
end
end Go
namespace Go.Proofs.YtldcplgfkcionaaDoor
open Go.RowKit

theorem ret_int {k : IntKind} {a b : Int} (h : a = b) : Ending.returned (.int k a) = .returned (.int k b) := by rw [h]
theorem tmod_neg (x n : Int) (h : x ≤ 0) : x.tmod n = -((-x) % n) := by rw [← Int.tmod_eq_emod_of_nonneg (by omega : 0 ≤ -x), Int.neg_tmod, Int.neg_neg]
theorem ret_bool {a b : Bool} (h : a = b) : Ending.returned (.bool a) = .returned (.bool b) := by rw [h]

/-- Of the blocks that were there, those alone that S names may have changed. -/
structure Chg (S : Nat → Prop) (w w' : World) : Prop where
  os : w'.os = w.os
  tape : w'.tape = w.tape
  output : w'.output = w.output
  size : w.heap.size ≤ w'.heap.size
  block : ∀ k, k < w.heap.size → ¬ S k → w'.heap[k]? = w.heap[k]?
namespace Chg
variable {S S' : Nat → Prop} {a b c : World}
theorem refl (S : Nat → Prop) (w : World) : Chg S w w := ⟨rfl, rfl, rfl, Nat.le_refl _, fun _ _ _ => rfl⟩
theorem trans' (h : Chg S a b) (k : Chg S' b c) (hS : ∀ i, i < a.heap.size → S' i → S i) : Chg S a c :=
  ⟨k.os.trans h.os, k.tape.trans h.tape, k.output.trans h.output, Nat.le_trans h.size k.size,
    fun i hi hs => (k.block i (Nat.lt_of_lt_of_le hi h.size) (fun e => hs (hS i hi e))).trans (h.block i hi hs)⟩
theorem trans (h : Chg S a b) (k : Chg S b c) : Chg S a c := h.trans' k fun _ _ h => h
theorem mono (h : Chg S a b) (hS : ∀ i, i < a.heap.size → S i → S' i) : Chg S' a b :=
  ⟨h.os, h.tape, h.output, h.size, fun i hi hs => h.block i hi fun e => hs (hS i hi e)⟩
theorem drew (h : Chg S a b) : Chg S a b.drew := ⟨h.os, h.tape, h.output, h.size, h.block⟩
theorem drewN (h : Chg S a b) (n : Nat) : Chg S a (b.drewN n) := ⟨h.os, h.tape, h.output, h.size, h.block⟩
theorem alloc (h : Chg S a b) (o : Obj) : Chg S a (b.alloc o) :=
  h.trans ⟨rfl, rfl, rfl, by simp, fun k hk _ => Below.heap_alloc _ _ _ hk⟩
theorem setCell (h : Chg S a b) {p : Addr} (hp : p.block < a.heap.size → S p.block) (u : Value) : Chg S a (b.setCell p u) :=
  ⟨h.os, h.tape, h.output, Nat.le_trans h.size (by simp [World.setCell]), fun k hk hs => by
    rw [Below.heap_setCell _ _ _ _ (fun e => by subst e; exact hs (hp hk))]; exact h.block k hk hs⟩
theorem below {B : Nat} (h : Chg S a b) (hB : B ≤ a.heap.size) (hS : ∀ k, k < B → ¬ S k) : Below B a b :=
  ⟨h.os, h.tape, h.output, h.size, fun k hk => h.block k (Nat.lt_of_lt_of_le hk hB) (hS k hk)⟩
theorem of_below (h : Below a.heap.size a b) : Chg S a b := ⟨h.os, h.tape, h.output, h.size, fun k hk _ => h.block k hk⟩
theorem of_grown {row : Option Nat} (h : a.grownBy b row) (hS : ∀ k, row = some k → k < a.heap.size → S k) : Chg S a b :=
  ⟨h.os, h.tape, h.output, h.size, fun k hk hs => h.block k hk fun e => hs (hS k e.symm hk)⟩
theorem blk (h : Chg S a b) {g : Nat} {o : Obj} (hg : a.heap[g]? = some o) (hs : ¬ S g) : b.heap[g]? = some o :=
  (h.block g (lt_of_block hg) hs).trans hg
theorem cell (h : Chg S a b) {p : Addr} (hp : p.block < a.heap.size) (hs : ¬ S p.block) : b.cell? p = a.cell? p := World.cell?_of_block (w := a) (h.block p.block hp hs)
end Chg

theorem blk_drewN {w : World} {g : Nat} {o : Obj} (n : Nat) (h : w.heap[g]? = some o) : (w.drewN n).heap[g]? = some o := h
theorem blk_drew {w : World} {g : Nat} {o : Obj} (h : w.heap[g]? = some o) : w.drew.heap[g]? = some o := h
theorem blk_alloc {w : World} {g : Nat} {o : Obj} (o' : Obj) (h : w.heap[g]? = some o) : (w.alloc o').heap[g]? = some o :=
  (Below.heap_alloc _ _ _ (lt_of_block h)).trans h
theorem blk_new (w : World) (o : Obj) : (w.alloc o).heap[w.heap.size]? = some o := heap_alloc_new w o
theorem blk_far {w : World} {g : Nat} {o : Obj} {p : Addr} (h : w.heap[g]? = some o) (hp : g ≠ p.block) (u : Value) : (w.setCell p u).heap[g]? = some o := (Below.heap_setCell w p u g hp).trans h
theorem blk_set {w : World} {g : Nat} {t : TypeId} {cs : Array Value} {fr : Nat × Nat} (h : w.heap[g]? = some (.cells cs t fr)) (i : Nat) (u : Value) :
    (w.setCell ⟨g, i, none⟩ u).heap[g]? = some (.cells (cs.setIfInBounds i u) t fr) := by
  have hlt := lt_of_block h
  have h' : w.heap[g] = .cells cs t fr := by simpa [Array.getElem?_eq_getElem hlt] using h
  show (w.heap.modify g _)[g]? = _
  rw [Array.getElem?_eq_getElem (by simpa using hlt), Array.getElem_modify_self, h']
  rfl
theorem blk_cell {w : World} {g : Nat} {t : TypeId} {cs : Array Value} {fr : Nat × Nat} (h : w.heap[g]? = some (.cells cs t fr)) (i : Nat) : w.cell? ⟨g, i, none⟩ = cs[i]? := by
  simp [World.cell?, h]
theorem blk_free {w : World} {g : Nat} {t : TypeId} {cs : Array Value} (h : w.heap[g]? = some (.cells cs t (0, 0))) (i : Nat) : w.frozen? ⟨g, i, none⟩ = false := by simp [World.frozen?, h]

/-- How a datum lies in cells. F: the blocks that it may lead to. -/
structure Rep (α : Type) where
  size : Nat
  ok : (Nat → Prop) → World → List Value → α → Prop
  mono : ∀ {F F' : Nat → Prop} {w w' : World} {cs : List Value} {x : α}, (∀ b, F b → F' b) → (∀ b, F b → b < w.heap.size → w'.heap[b]? = w.heap[b]?) → ok F w cs x → ok F' w' cs x

def Rep.unit : Rep Unit := ⟨0, fun _ _ cs _ => cs = [], fun _ _ h => h⟩
def Rep.int (k : IntKind) : Rep Int := ⟨1, fun _ _ cs x => cs = [.int k x] ∧ (Lit.int k x).wf = true, fun _ _ h => h⟩
def Rep.bool : Rep Bool := ⟨1, fun _ _ cs x => cs = [.bool x], fun _ _ h => h⟩
def Rep.str : Rep ByteArray := ⟨1, fun _ _ cs x => cs = [.string x] ∧ x.size ≤ maxLen, fun _ _ h => h⟩
def Rep.pair {α β : Type} (R : Rep α) (S : Rep β) : Rep (α × β) :=
  ⟨R.size + S.size, fun F w cs x => ∃ c d, cs = c ++ d ∧ c.length = R.size ∧ R.ok F w c x.1 ∧ S.ok F w d x.2,
    fun hF hw ⟨c, d, h1, h2, h3, h4⟩ => ⟨c, d, h1, h2, R.mono hF hw h3, S.mono hF hw h4⟩⟩
def Rep.iso {α β : Type} (R : Rep α) (f : β → α) : Rep β := ⟨R.size, fun F w cs x => R.ok F w cs (f x), fun hF hw h => R.mono hF hw h⟩

theorem cell_agree {w w' : World} {b : Nat} (h : b < w.heap.size → w'.heap[b]? = w.heap[b]?) {o : Nat} {v : Value} (hc : w.cell? ⟨b, o, none⟩ = some v) : w'.cell? ⟨b, o, none⟩ = some v := by
  have hlt := World.block_lt_of_cell? w _ hc
  exact (World.cell?_of_block (w := w) (a := ⟨b, o, none⟩) (h hlt)).trans hc

/-- A slice whose elements are so; the address of an empty one is open. -/
def Rep.slice {α : Type} (R : Rep α) : Rep (List α) :=
  ⟨1, fun F w cs xs => (∃ a cap, cs = [.slice a 0 cap] ∧ xs = []) ∨
      ∃ b off cap, cs = [.slice (some ⟨b, off, none⟩) xs.length cap] ∧ F b ∧ b < w.heap.size ∧ xs ≠ [] ∧ xs.length ≤ cap ∧ cap ≤ maxLen ∧
        ∀ i (h : i < xs.length), ∃ c : List Value, c.length = R.size ∧ (∀ j (hj : j < c.length), w.cell? ⟨b, off + i * R.size + j, none⟩ = some c[j]) ∧ R.ok F w c xs[i],
   fun {F F' w w' cs xs} hF hw h => by
    rcases h with h | ⟨b, off, cap, h1, h2, hlt, h3, h4, h5, h6⟩
    · exact .inl h
    · refine .inr ⟨b, off, cap, h1, hF b h2, ?_, h3, h4, h5, fun i hi => ?_⟩
      · have := hw b h2 hlt
        rw [Array.getElem?_eq_getElem hlt] at this
        exact lt_of_block this
      obtain ⟨c, hc, hcell, hok⟩ := h6 i hi
      exact ⟨c, hc, fun j hj => cell_agree (hw b h2) (hcell j hj), R.mono hF hw hok⟩⟩

theorem Rep.keep {α : Type} (R : Rep α) {F : Nat → Prop} {S : Nat → Prop} {w w' : World} {cs : List Value} {x : α} (h : R.ok F w cs x) (hc : Chg S w w') (hS : ∀ b, F b → ¬ S b) : R.ok F w' cs x :=
  R.mono (fun _ h => h) (fun b hb hlt => hc.block b hlt (hS b hb)) h
theorem Rep.keepB {α : Type} (R : Rep α) {F : Nat → Prop} {B : Nat} {w w' : World} {cs : List Value} {x : α} (h : R.ok F w cs x) (hc : Below B w w') (hS : ∀ b, F b → b < B) : R.ok F w' cs x :=
  R.mono (fun _ h => h) (fun b hb _ => hc.block b (hS b hb)) h
theorem Rep.wide {α : Type} (R : Rep α) {F F' : Nat → Prop} {w : World} {cs : List Value} {x : α} (h : R.ok F w cs x) (hF : ∀ b, F b → F' b) : R.ok F' w cs x :=
  R.mono hF (fun _ _ _ => rfl) h

/-- A slice's value, and its elements. -/
theorem Rep.slice_open {α : Type} {R : Rep α} {F : Nat → Prop} {w : World} {v : Value} {xs : List α} (h : R.slice.ok F w [v] xs) :
    ∃ A cap, v = .slice A xs.length cap ∧ (0 < xs.length → ∃ b off, A = some ⟨b, off, none⟩ ∧ F b ∧ b < w.heap.size ∧ xs.length ≤ cap ∧ cap ≤ maxLen ∧
      ∀ i (h : i < xs.length), ∃ c : List Value, c.length = R.size ∧ (∀ j (hj : j < c.length), w.cell? ⟨b, off + i * R.size + j, none⟩ = some c[j]) ∧ R.ok F w c xs[i]) := by
  rcases h with ⟨a, cap, h1, rfl⟩ | ⟨b, off, cap, h1, h2, hlt, h3, h4, h5, h6⟩
  · obtain rfl : v = .slice a 0 cap := by simpa using h1
    exact ⟨a, cap, rfl, fun h => by simp at h⟩
  · obtain rfl : v = .slice (some ⟨b, off, none⟩) xs.length cap := by simpa using h1
    exact ⟨_, cap, rfl, fun h0 => ⟨b, off, rfl, h2, hlt, h4, h5, h6⟩⟩

/-! ### opening what came in -/
/-- Whatever reads as data of type t is so represented. -/
def Reads {α : Type} (P : Program) (t : TypeId) (R : Rep α) : Prop :=
  R.size = P.cellsOf t ∧ ∀ {H : Type} (enc : TypeId × Value → H) (w : World) (fuel : Nat) (cs : List Value) (d : DataW H × List MemPlace),
    DataW.trod enc P w 0 (fun _ => true) true fuel t cs = some d → ∃ x, R.ok (fun b => b < w.heap.size) w cs x ∧ cs.length = R.size

theorem reads_int {P : Program} {t : TypeId} {k : IntKind} (ht : P.underlying t = some (.int k)) (hs : P.cellsOf t = 1) : Reads P t (Rep.int k) := by
  refine ⟨hs.symm, fun enc w fuel cs d h => ?_⟩
  obtain ⟨n, rfl, _, hw⟩ := DataW.trod_int ht h
  exact ⟨n, ⟨rfl, hw⟩, rfl⟩
theorem reads_bool {P : Program} {t : TypeId} (ht : P.underlying t = some .bool) (hs : P.cellsOf t = 1) : Reads P t Rep.bool := by
  refine ⟨hs.symm, fun enc w fuel cs d h => ?_⟩
  obtain ⟨b, rfl, _⟩ := DataW.trod_bool ht h
  exact ⟨b, rfl, rfl⟩
theorem reads_str {P : Program} {t : TypeId} (ht : P.underlying t = some .string) (hs : P.cellsOf t = 1) : Reads P t Rep.str := by
  refine ⟨hs.symm, fun enc w fuel cs d h => ?_⟩
  obtain ⟨b, rfl, _, hw⟩ := DataW.trod_string ht h
  exact ⟨b, ⟨rfl, hw⟩, rfl⟩
/-- The fields fs, from cell o on, read as R says. -/
def FieldsOk {α : Type} (P : Program) (o : Nat) (fs : List Field) (R : Rep α) : Prop :=
  ∀ {H : Type} (enc : TypeId × Value → H) (w : World) (fuel : Nat) (cs : List Value),
    (∀ f, f ∈ fs → ∃ d, DataW.trod enc P w 0 (fun _ => true) true fuel f.type ((cs.drop f.offset).take (P.cellsOf f.type)) = some d) → o + R.size ≤ cs.length →
    ∃ x, R.ok (fun b => b < w.heap.size) w ((cs.drop o).take R.size) x
theorem fields_nil (P : Program) (o : Nat) : FieldsOk P o [] Rep.unit := fun enc w fuel cs _ _ => ⟨(), by simp [Rep.unit]⟩
theorem fields_cons {α β : Type} {P : Program} {o : Nat} {f : Field} {fs : List Field} {R : Rep α} {S : Rep β} (hf : f.offset = o) (hR : Reads P f.type R) (hS : FieldsOk P (o + R.size) fs S) :
    FieldsOk P o (f :: fs) (R.pair S) := by
  intro H enc w fuel cs h hl
  have hl' : o + (R.size + S.size) ≤ cs.length := hl
  obtain ⟨d, hd⟩ := h f (by simp)
  obtain ⟨x, hx, hlen⟩ := hR.2 enc w fuel _ d hd
  obtain ⟨y, hy⟩ := hS enc w fuel cs (fun g hg => h g (by simp [hg])) (by omega)
  rw [hf, ← hR.1] at hx hlen
  refine ⟨(x, y), (cs.drop o).take R.size, (cs.drop (o + R.size)).take S.size, ?_, hlen, hx, hy⟩
  show (cs.drop o).take (R.size + S.size) = _
  rw [List.take_add, List.drop_drop]
theorem reads_struct {α : Type} {P : Program} {t : TypeId} {fs : Array Field} {R : Rep α} (ht : P.underlying t = some (.struct fs)) (hf : FieldsOk P 0 fs.toList R) (hs : R.size = P.cellsOf t) : Reads P t R := by
  refine ⟨hs, fun enc w fuel cs d h => ?_⟩
  obtain ⟨xs, n, rfl, rfl, hl, hxs, hfs⟩ := DataW.trod_struct ht h
  obtain ⟨x, hx⟩ := hf enc w n cs (fun f hfm => by
    obtain ⟨i, hi⟩ := List.mem_iff_getElem?.1 hfm
    have hi' : fs[i]? = some f := by simpa using hi
    have hlt : i < fs.size := (Array.getElem?_eq_some_iff.1 hi').1
    have hlt' : i < xs.length := by omega
    exact ⟨xs[i], (hfs i f hi').trans (List.getElem?_eq_getElem hlt')⟩) (by omega)
  refine ⟨x, ?_, by omega⟩
  rw [List.drop_zero, List.take_of_length_le (by omega)] at hx
  exact hx
theorem choose_list {α : Type} (n : Nat) (p : Nat → α → Prop) (h : ∀ i, i < n → ∃ x, p i x) : ∃ xs : List α, xs.length = n ∧ ∀ i (hi : i < xs.length), p i xs[i] := by
  induction n with
  | zero => exact ⟨[], rfl, fun i hi => by simp at hi⟩
  | succ n ih =>
    obtain ⟨xs, hl, hxs⟩ := ih fun i hi => h i (by omega)
    obtain ⟨x, hx⟩ := h n (by omega)
    refine ⟨xs ++ [x], by simp [hl], fun i hi => ?_⟩
    by_cases hin : i < xs.length
    · rw [List.getElem_append_left hin]; exact hxs i hin
    · have : i = n := by simp at hi; omega
      subst this
      rw [List.getElem_append_right (by omega)]; simpa using hx
theorem spot_of_cell {w : World} {a : Addr} {v : Value} (h : w.cell? a = some v) : a.spot = none := by
  unfold World.cell? at h
  split at h
  · split at h
    · cases h
    · rename_i hs; simpa using hs
  · cases h
theorem add_at (b off n : Nat) : (⟨b, off, none⟩ : Addr).add n = ⟨b, off + n, none⟩ := by
  unfold Addr.add; split <;> simp_all
theorem reads_slice {α : Type} {P : Program} {t e : TypeId} {R : Rep α} (ht : P.underlying t = some (.slice e)) (hs : P.cellsOf t = 1) (he : Reads P e R) (hpos : 0 < R.size) : Reads P t R.slice := by
  refine ⟨hs.symm, fun enc w fuel cs d h => ?_⟩
  rcases DataW.trod_slice ht h with ⟨rfl, _⟩ | ⟨a, len, cap, elems, rest, n, rfl, rfl, _, _, hle, hcap, hlen, hel, _, _⟩
  · exact ⟨[], .inl ⟨none, 0, rfl, rfl⟩, rfl⟩
  · by_cases h0 : len = 0
    · subst h0
      exact ⟨[], .inl ⟨some a, cap, rfl, rfl⟩, rfl⟩
    have key : ∀ i, i < len → ∃ x : α, ∃ c : List Value, c.length = R.size ∧ (∀ j (hj : j < c.length), w.cell? (a.add (i * R.size) |>.add j) = some c[j]) ∧ R.ok (fun b => b < w.heap.size) w c x := by
      intro i hi
      have := hel i hi
      rw [List.getElem?_eq_getElem (by omega)] at this
      obtain ⟨c, hc, hd⟩ := Option.bind_eq_some_iff.1 this
      obtain ⟨x, hx, hl⟩ := he.2 enc w n c _ hd
      obtain ⟨_, hl2, hcell⟩ := World.cells?_some hc
      refine ⟨x, c, hl, fun j hj => ?_, hx⟩
      rw [he.1, hcell j (by omega)]
      exact List.getElem?_eq_getElem hj
    obtain ⟨x0, c0, hc0, hcell0, _⟩ := key 0 (by omega)
    have hsp := hcell0 0 (by omega)
    have hblk := World.block_lt_of_cell? w _ hsp
    have hspot : a.spot = none := by
      have := spot_of_cell hsp
      simpa [Addr.add] using this
    obtain ⟨b, off, spot⟩ := a
    obtain rfl : spot = none := hspot
    simp only [add_at] at key hblk
    obtain ⟨xs, hxl, hxs⟩ := choose_list len _ key
    refine ⟨xs, .inr ⟨b, off, cap, by rw [hxl], hblk, hblk, fun e => by subst e; simp at hxl; omega, by omega, hcap, fun i hi => ?_⟩, rfl⟩
    exact hxs i hi

/-! ### rows that the call made itself -/
theorem own_shape {w : World} {B : Nat} {e : TypeId} {size n : Nat} {v : Value} {xs : List Value} (h : w.ownsRow B e size v n xs) (hn : 0 < n) :
    ∃ g cap, v = .slice (some ⟨g, 0, none⟩) n cap ∧ B ≤ g ∧ g < w.heap.size ∧ n ≤ cap ∧ cap ≤ maxLen ∧ (∀ j u, xs[j]? = some u → w.cell? ⟨g, j, none⟩ = some u) ∧ ∀ j, w.frozen? ⟨g, j, none⟩ = false := by
  obtain ⟨hl, ⟨rfl, rfl⟩ | ⟨g, cap, cur, rfl, hB, hg, hc, hm, hs, ht⟩⟩ := h
  · omega
  refine ⟨g, cap, rfl, hB, lt_of_block hg, hc, hm, fun j u hj => ?_, fun j => blk_free hg j⟩
  rw [blk_cell hg j, ← Array.getElem?_toList]
  have hjl : j < xs.length := (List.getElem?_eq_some_iff.1 hj).1
  rw [← ht] at hj
  rw [List.getElem?_take] at hj
  split at hj
  · exact hj
  · cases hj
theorem own_slice {w : World} {B : Nat} {e : TypeId} {size n : Nat} {v : Value} {xs : List Value} (h : w.ownsRow B e size v n xs) : ∃ A cap, v = .slice A n cap := by
  obtain ⟨_, ⟨rfl, rfl⟩ | ⟨g, cap, cur, rfl, _⟩⟩ := h
  · exact ⟨_, _, rfl⟩
  · exact ⟨_, _, rfl⟩
theorem own_len {w : World} {B : Nat} {e : TypeId} {size n : Nat} {v : Value} {xs : List Value} (h : w.ownsRow B e size v n xs) : xs.length = n * size := h.1
theorem own_lt {w : World} {B : Nat} {e : TypeId} {size n : Nat} {v : Value} {xs : List Value} (h : w.ownsRow B e size v n xs) (k : Nat) (hk : v.ownBlock = some k) : B ≤ k ∧ k < w.heap.size := h.lt k hk
theorem own_chg {w w' : World} {B : Nat} {e : TypeId} {size n : Nat} {v : Value} {xs : List Value} {S : Nat → Prop} (h : w.ownsRow B e size v n xs) (hc : Chg S w w') (hs : ∀ k, v.ownBlock = some k → ¬ S k) : w'.ownsRow B e size v n xs := by
  obtain ⟨hl, ⟨rfl, rfl⟩ | ⟨g, cap, cur, rfl, hB, hg, r⟩⟩ := h
  · exact ⟨hl, .inl ⟨rfl, rfl⟩⟩
  · exact ⟨hl, .inr ⟨g, cap, cur, rfl, hB, hc.blk hg (hs g rfl), r⟩⟩
theorem own_set {w : World} {B : Nat} {e : TypeId} {size n g cap : Nat} {xs : List Value} (h : w.ownsRow B e size (.slice (some ⟨g, 0, none⟩) n cap) n xs) (j : Nat) (hj : j < xs.length) (u : Value) :
    (w.setCell ⟨g, j, none⟩ u).ownsRow B e size (.slice (some ⟨g, 0, none⟩) n cap) n (xs.set j u) := by
  obtain ⟨hl, ⟨hv, _⟩ | ⟨g', cap', cur, hv, hB, hg, hc, hm, hs, ht⟩⟩ := h
  · cases hv
  · injection hv with h1 _ h2
    injection h1 with h1
    injection h1 with h1
    subst h1 h2
    refine ⟨by simpa using hl, .inr ⟨g, cap, cur.setIfInBounds j u, rfl, hB, blk_set hg j u, hc, hm, by simpa using hs, ?_⟩⟩
    rw [Array.toList_setIfInBounds, List.take_set, ht]
theorem own_alloc {w : World} {B : Nat} {e : TypeId} {size n : Nat} {v : Value} {xs : List Value} (h : w.ownsRow B e size v n xs) (o : Obj) : (w.alloc o).ownsRow B e size v n xs := h.alloc o
theorem own_drew {w : World} {B : Nat} {e : TypeId} {size n : Nat} {v : Value} {xs : List Value} (h : w.ownsRow B e size v n xs) : w.drew.ownsRow B e size v n xs := h
theorem own_drewN {w : World} {B : Nat} {e : TypeId} {size n : Nat} {v : Value} {xs : List Value} (h : w.ownsRow B e size v n xs) (k : Nat) : (w.drewN k).ownsRow B e size v n xs := h
theorem own_far {w : World} {B : Nat} {e : TypeId} {size n : Nat} {v : Value} {xs : List Value} (h : w.ownsRow B e size v n xs) {p : Addr} (hp : v.ownBlock ≠ some p.block) (u : Value) : (w.setCell p u).ownsRow B e size v n xs := ownsRow_setCell_other h hp u
theorem own_weaken {w : World} {B B' : Nat} {e : TypeId} {size n : Nat} {v : Value} {xs : List Value} (h : w.ownsRow B e size v n xs) (hB : B' ≤ B) : w.ownsRow B' e size v n xs := by
  obtain ⟨hl, ⟨rfl, rfl⟩ | ⟨g, cap, cur, rfl, hg, r⟩⟩ := h
  · exact ⟨hl, .inl ⟨rfl, rfl⟩⟩
  · exact ⟨hl, .inr ⟨g, cap, cur, rfl, Nat.le_trans hB hg, r⟩⟩
/-- Blocks of other types are other blocks. -/
theorem own_ne {w : World} {B : Nat} {e t : TypeId} {size n g : Nat} {v : Value} {xs : List Value} {cs : Array Value} {fr : Nat × Nat} (h : w.ownsRow B e size v n xs) (hg : w.heap[g]? = some (.cells cs t fr)) (hne : e ≠ t) : v.ownBlock ≠ some g := by
  obtain ⟨_, ⟨rfl, rfl⟩ | ⟨g', cap, cur, rfl, _, hg', _⟩⟩ := h
  · simp [Value.ownBlock]
  · intro he
    obtain rfl : g' = g := by simpa [Value.ownBlock] using he
    rw [hg'] at hg
    injection hg with hg
    injection hg with _ ht
    exact hne ht
theorem own_own_ne {w : World} {B B' : Nat} {e e' : TypeId} {size n size' n' : Nat} {v v' : Value} {xs xs' : List Value} (h : w.ownsRow B e size v n xs) (h' : w.ownsRow B' e' size' v' n' xs') (hne : e ≠ e') (k : Nat) (hk : v.ownBlock = some k) : v'.ownBlock ≠ some k := by
  obtain ⟨_, ⟨rfl, rfl⟩ | ⟨g', cap, cur, rfl, _, hg', _⟩⟩ := h
  · simp [Value.ownBlock] at hk
  · obtain rfl : g' = k := by simpa [Value.ownBlock] using hk
    exact own_ne h' hg' (Ne.symm hne)
theorem blk_ne {w : World} {g g' : Nat} {t t' : TypeId} {cs cs' : Array Value} {fr fr' : Nat × Nat} (h : w.heap[g]? = some (.cells cs t fr)) (h' : w.heap[g']? = some (.cells cs' t' fr')) (hne : t ≠ t') : g ≠ g' := by
  rintro rfl
  rw [h] at h'
  injection h' with h'
  injection h' with _ ht
  exact hne ht
section app
variable {P : Program} {ops : Array Oper} {rest : List Oper} {o : Oper} {a : Act} {Q : Exit → Act → World → Prop}
/-- append(s, x...), s nil or a row of the call's own; the new cells lie at ad. -/
theorem app_from {W : World} (hgd : o.guard = none) (s x : Operand) (t e : TypeId) (z : Value) (size bytes : Nat)
    (ho : o.op = .call { callee := .builtin .append, args := #[s, x], argTypes := #[t, t] })
    (ht : P.underlying t = some (.slice e)) (hinfo : (P.info? e).map (fun i => (i.zero, i.size, i.bytes)) = some (some z, size, bytes)) (hz : z.cells.size = size) (hs0 : 0 < size) (hb0 : 0 < bytes)
    (B : Nat) (v : Value) (n : Nat) (xs ys : List Value) (ad : Addr) (m c : Nat) (hs : a.eval s = v) (hx : a.eval x = .slice (some ad) m c) (hys : ys.length = m * size) (h1 : ∀ u ∈ ys, u.oneCell' = true)
    (hc : ∀ j u, ys[j]? = some u → W.cell? (ad.add j) = some u)
    (HO : W.ownsRow B e size v n xs) (hbase : B ≤ W.heap.size) (hl : (n + m) * bytes ≤ 140737488355328)
    (h : ∀ v1 w1, w1.ownsRow B e size v1 (n + m) (xs ++ ys) → Chg (fun k => v.ownBlock = some k) W w1 → (v1.ownBlock = v.ownBlock ∨ v1.ownBlock = some W.heap.size) → wpList P ops Q rest (a.put o.dst v1) w1) :
    wpList P ops Q (o :: rest) a W := by
  obtain ⟨i0, hi, hzz⟩ := Option.map_eq_some_iff.1 hinfo
  simp only [Prod.mk.injEq] at hzz
  obtain ⟨hz0, hz1, hz2⟩ := hzz
  have hlen : n + m ≤ 140737488355328 := Nat.le_trans (Nat.le_mul_of_pos_right _ hb0) hl
  refine wpList_append_own_at W hgd s x t ho B e i0 z size bytes ht hi hz0 hz1 hz2 hz hs0 v n xs hs HO ad m c ys hx hys hc h1 (by simp only [maxLen]; omega) hl hbase ?_
  intro v1 w1 hown hg _ hat
  exact h v1 w1 hown (Chg.of_grown hg fun k hk _ => hk) hat
/-- append(s, x), the element's cells having just been laid in a block of their own. -/
theorem app_one {W : World} (hgd : o.guard = none) (s x : Operand) (t e : TypeId) (z : Value) (size bytes : Nat)
    (ho : o.op = .call { callee := .builtin .append, args := #[s, x], argTypes := #[t, t] })
    (ht : P.underlying t = some (.slice e)) (hinfo : (P.info? e).map (fun i => (i.zero, i.size, i.bytes)) = some (some z, size, bytes)) (hz : z.cells.size = size) (hs0 : 0 < size) (hb0 : 0 < bytes)
    (B : Nat) (v : Value) (n : Nat) (xs : List Value) (ys : Array Value) (N : Nat) (hs : a.eval s = v) (hx : a.eval x = .slice (some ⟨N, 0, none⟩) 1 1) (hN : N = W.heap.size) (hys : ys.size = size) (h1 : ∀ u ∈ ys.toList, u.oneCell' = true)
    (HO : W.ownsRow B e size v n xs) (hbase : B ≤ W.heap.size) (hl : (n + 1) * bytes ≤ 140737488355328)
    (h : ∀ v1 w1, w1.ownsRow B e size v1 (n + 1) (xs ++ ys.toList) → Chg (fun k => v.ownBlock = some k) W w1 → (v1.ownBlock = v.ownBlock ∨ ∃ b, v1.ownBlock = some b ∧ W.heap.size ≤ b) → wpList P ops Q rest (a.put o.dst v1) w1) :
    wpList P ops Q (o :: rest) a (W.alloc (.cells ys e)) := by
  subst hN
  refine app_from hgd s x t e z size bytes ho ht hinfo hz hs0 hb0 B v n xs ys.toList ⟨W.heap.size, 0, none⟩ 1 1 hs hx (by simp [hys]) h1
    (by simpa using World.news_of_block (cs := ys) (t := e) (fr := (0, 0)) (heap_alloc_new W (.cells ys e))) (HO.alloc _) (by simp; omega) hl ?_
  intro v1 w1 hown hg hat
  refine h v1 w1 hown (((Chg.refl (fun k => v.ownBlock = some k) W).alloc _).trans hg) ?_
  rcases hat with hat | hat
  · exact .inl hat
  · exact .inr ⟨_, hat, by simp⟩
end app
end Go.Proofs.YtldcplgfkcionaaDoor
