/- Texts of this claim, merged (Base, Epl, PX, Evl, Chp, Post, Box2, Tok, Parsep, Takes, Exprp, Exprw, Tail, Exprw2, Err). -/
import Derived.Test.YtemoonhnncopoaaGreatDoorProg
import Derived.WalkKit
import Derived.ProofKit
import Derived.LaidEql
import Derived.WideLaws
import Derived.KernelRfl
import Derived.Lib.Hide
import Derived.OneCell
import Derived.OpenShut
import Derived.Deep.Slices
import Derived.Deep.LoopGhost
import Derived.Deep.Draws
import Derived.ChangeOld
import Derived.Maps.AppendAt
import Derived.Laws.Rows
import Derived.Deep.QuietTactic
import Derived.BigQuiet
import Derived.Outline
import Derived.Deep.AppendLies
import Derived.StillTail
import Derived.Deep.Quiet
import Derived.Test.YtemoonhnncopoaaGreatDoorZEnterReal2
import Derived.Test.YtemoonhnncopoaaGreatDoorZEnterReal4
import Derived.Test.YtemoonhnncopoaaGreatDoorZEnterReal6
import Derived.Test.YtemoonhnncopoaaGreatDoorZEnterReal7
import Derived.Test.YtemoonhnncopoaaGreatDoorZEnterReal9
import Derived.Test.YtemoonhnncopoaaGreatDoorZEnterReal8
import Derived.Test.YtemoonhnncopoaaGreatDoorZEnterReal11
set_option linter.unusedVariables false
set_option linter.unusedSimpArgs false
set_option maxRecDepth 100000
set_option maxHeartbeats 8000000
section
namespace Go
section
variable {P : Program} (w : World)
theorem run_equalIn_iface_int (d : Nat) {ti tn : TypeId} {ms : Array (String × TypeId)} {i : TypeInfo} {k : IntKind} (a b : Int)
  (hi : P.underlying ti = some (.interface ms)) (hn : P.underlying tn = some (.int k)) (hinfo : P.info? tn = some i) (hcomp : i.comparable = true) :
  (Op.equalIn (d + 2) ti (.iface tn (.int k a)) (.iface tn (.int k b))).run P w = .ok (a == b) w := by
 simp [Op.equalIn, run_underlying hi, run_underlying hn, typeInfo, hinfo, hcomp]
theorem run_eql_iface_int {ti tn : TypeId} {ms : Array (String × TypeId)} {i : TypeInfo} {k : IntKind} (a b : Int)
  (hi : P.underlying ti = some (.interface ms)) (hn : P.underlying tn = some (.int k)) (hinfo : P.info? tn = some i) (hcomp : i.comparable = true) :
  (binOp .eql ti (.iface tn (.int k a)) (.iface tn (.int k b))).run P w = .ok (.bool (a == b)) w := by
 simp only [binOp]
 simp [Op.equal, Op.maxDepth, run_equalIn_iface_int w 9998 a b hi hn hinfo hcomp]
theorem run_neq_iface_nil_left {ti : TypeId} {ms : Array (String × TypeId)} (tp : TypeId) (v : Value) (hi : P.underlying ti = some (.interface ms)) :
  (binOp .neq ti .nilIface (.iface tp v)).run P w = .ok (.bool true) w := by
 have h : ∀ d : Nat, (Op.equalIn (d + 1) ti .nilIface (.iface tp v)).run P w = .ok false w := fun d => by simp [Op.equalIn, run_underlying hi]
 simp only [binOp]
 simp [Op.equal, Op.maxDepth, h 9999]
end
end Go
namespace Go.Proofs.YtemoonhnncopoaaGreatDoor
open Go.RowKit
theorem ret_int {k : IntKind} {a b : Int} (h : a = b) : Ending.returned (.int k a) = .returned (.int k b) := by rw [h]
theorem ret_bool {a b : Bool} (h : a = b) : Ending.returned (.bool a) = .returned (.bool b) := by rw [h]
structure Chg (S : Nat → Prop) (w w' : World) : Prop where
 os : w'.os = w.os
 tape : w'.tape = w.tape
 output : w'.output = w.output
 size : w.heap.size ≤ w'.heap.size
 block : ∀ k, k < w.heap.size → ¬ S k → w'.heap[k]? = w.heap[k]?
namespace Chg
variable {S S' : Nat → Prop} {a b c : World}
theorem refl (S : Nat → Prop) (w : World) : Chg S w w := ⟨rfl, rfl, rfl, Nat.le_refl _, fun _ _ _ => rfl⟩
theorem trans' (h : Chg S a b) (k : Chg S' b c) (hS : ∀ i, i < a.heap.size → S' i → S i) : Chg S a c :=
 ⟨k.os.trans h.os, k.tape.trans h.tape, k.output.trans h.output, Nat.le_trans h.size k.size,
  fun i hi hs => (k.block i (Nat.lt_of_lt_of_le hi h.size) (fun e => hs (hS i hi e))).trans (h.block i hi hs)⟩
theorem trans (h : Chg S a b) (k : Chg S b c) : Chg S a c := h.trans' k fun _ _ h => h
theorem drew (h : Chg S a b) : Chg S a b.drew := ⟨h.os, h.tape, h.output, h.size, h.block⟩
theorem drewN (h : Chg S a b) (n : Nat) : Chg S a (b.drewN n) := ⟨h.os, h.tape, h.output, h.size, h.block⟩
theorem alloc (h : Chg S a b) (o : Obj) : Chg S a (b.alloc o) :=
 h.trans ⟨rfl, rfl, rfl, by simp, fun k hk _ => Below.heap_alloc _ _ _ hk⟩
theorem setCell (h : Chg S a b) {p : Addr} (hp : p.block < a.heap.size → S p.block) (u : Value) : Chg S a (b.setCell p u) :=
 ⟨h.os, h.tape, h.output, Nat.le_trans h.size (by simp [World.setCell]), fun k hk hs => by
  rw [Below.heap_setCell _ _ _ _ (fun e => by subst e; exact hs (hp hk))]; exact h.block k hk hs⟩
theorem below {B : Nat} (h : Chg S a b) (hB : B ≤ a.heap.size) (hS : ∀ k, k < B → ¬ S k) : Below B a b :=
 ⟨h.os, h.tape, h.output, h.size, fun k hk => h.block k (Nat.lt_of_lt_of_le hk hB) (hS k hk)⟩
theorem of_below (h : Below a.heap.size a b) : Chg S a b := ⟨h.os, h.tape, h.output, h.size, fun k hk _ => h.block k hk⟩
theorem of_grown {row : Option Nat} (h : a.grownBy b row) (hS : ∀ k, row = some k → k < a.heap.size → S k) : Chg S a b :=
 ⟨h.os, h.tape, h.output, h.size, fun k hk hs => h.block k hk fun e => hs (hS k e.symm hk)⟩
theorem blk (h : Chg S a b) {g : Nat} {o : Obj} (hg : a.heap[g]? = some o) (hs : ¬ S g) : b.heap[g]? = some o :=
 (h.block g (lt_of_block hg) hs).trans hg
theorem cell (h : Chg S a b) {p : Addr} (hp : p.block < a.heap.size) (hs : ¬ S p.block) : b.cell? p = a.cell? p := World.cell?_of_block (w := a) (h.block p.block hp hs)
end Chg
theorem blk_drewN {w : World} {g : Nat} {o : Obj} (n : Nat) (h : w.heap[g]? = some o) : (w.drewN n).heap[g]? = some o := h
theorem blk_alloc {w : World} {g : Nat} {o : Obj} (o' : Obj) (h : w.heap[g]? = some o) : (w.alloc o').heap[g]? = some o :=
 (Below.heap_alloc _ _ _ (lt_of_block h)).trans h
theorem blk_new (w : World) (o : Obj) : (w.alloc o).heap[w.heap.size]? = some o := heap_alloc_new w o
theorem blk_far {w : World} {g : Nat} {o : Obj} {p : Addr} (h : w.heap[g]? = some o) (hp : g ≠ p.block) (u : Value) : (w.setCell p u).heap[g]? = some o := (Below.heap_setCell w p u g hp).trans h
theorem blk_set {w : World} {g : Nat} {t : TypeId} {cs : Array Value} {fr : Nat × Nat} (h : w.heap[g]? = some (.cells cs t fr)) (i : Nat) (u : Value) :
  (w.setCell ⟨g, i, none⟩ u).heap[g]? = some (.cells (cs.setIfInBounds i u) t fr) := by
 have hlt := lt_of_block h
 have h' : w.heap[g] = .cells cs t fr := by simpa [Array.getElem?_eq_getElem hlt] using h
 show (w.heap.modify g _)[g]? = _
 rw [Array.getElem?_eq_getElem (by simpa using hlt), Array.getElem_modify_self, h']
 rfl
theorem blk_cell {w : World} {g : Nat} {t : TypeId} {cs : Array Value} {fr : Nat × Nat} (h : w.heap[g]? = some (.cells cs t fr)) (i : Nat) : w.cell? ⟨g, i, none⟩ = cs[i]? := by
 simp [World.cell?, h]
theorem blk_free {w : World} {g : Nat} {t : TypeId} {cs : Array Value} (h : w.heap[g]? = some (.cells cs t (0, 0))) (i : Nat) : w.frozen? ⟨g, i, none⟩ = false := by simp [World.frozen?, h]
structure Rep (α : Type) where
 size : Nat
 ok : (Nat → Prop) → World → List Value → α → Prop
 mono : ∀ {F F' : Nat → Prop} {w w' : World} {cs : List Value} {x : α}, (∀ b, F b → F' b) → (∀ b, F b → b < w.heap.size → w'.heap[b]? = w.heap[b]?) → ok F w cs x → ok F' w' cs x
def Rep.unit : Rep Unit := ⟨0, fun _ _ cs _ => cs = [], fun _ _ h => h⟩
def Rep.int (k : IntKind) : Rep Int := ⟨1, fun _ _ cs x => cs = [.int k x] ∧ (Lit.int k x).wf = true, fun _ _ h => h⟩
def Rep.bool : Rep Bool := ⟨1, fun _ _ cs x => cs = [.bool x], fun _ _ h => h⟩
def Rep.str : Rep ByteArray := ⟨1, fun _ _ cs x => cs = [.string x] ∧ x.size ≤ maxLen, fun _ _ h => h⟩
def Rep.pair {α β : Type} (R : Rep α) (S : Rep β) : Rep (α × β) :=
 ⟨R.size + S.size, fun F w cs x => ∃ c d, cs = c ++ d ∧ c.length = R.size ∧ R.ok F w c x.1 ∧ S.ok F w d x.2,
  fun hF hw ⟨c, d, h1, h2, h3, h4⟩ => ⟨c, d, h1, h2, R.mono hF hw h3, S.mono hF hw h4⟩⟩
theorem cell_agree {w w' : World} {b : Nat} (h : b < w.heap.size → w'.heap[b]? = w.heap[b]?) {o : Nat} {v : Value} (hc : w.cell? ⟨b, o, none⟩ = some v) : w'.cell? ⟨b, o, none⟩ = some v := by
 have hlt := World.block_lt_of_cell? w _ hc
 exact (World.cell?_of_block (w := w) (a := ⟨b, o, none⟩) (h hlt)).trans hc
def Rep.slice {α : Type} (R : Rep α) : Rep (List α) :=
 ⟨1, fun F w cs xs => (∃ a cap, cs = [.slice a 0 cap] ∧ xs = []) ∨
   ∃ b off cap, cs = [.slice (some ⟨b, off, none⟩) xs.length cap] ∧ F b ∧ b < w.heap.size ∧ xs ≠ [] ∧ xs.length ≤ cap ∧ cap ≤ maxLen ∧
    ∀ i (h : i < xs.length), ∃ c : List Value, c.length = R.size ∧ (∀ j (hj : j < c.length), w.cell? ⟨b, off + i * R.size + j, none⟩ = some c[j]) ∧ R.ok F w c xs[i],
  fun {F F' w w' cs xs} hF hw h => by
  rcases h with h | ⟨b, off, cap, h1, h2, hlt, h3, h4, h5, h6⟩
  ·exact .inl h
  ·refine .inr ⟨b, off, cap, h1, hF b h2, ?_, h3, h4, h5, fun i hi => ?_⟩
   ·have := hw b h2 hlt
    rw [Array.getElem?_eq_getElem hlt] at this
    exact lt_of_block this
   obtain ⟨c, hc, hcell, hok⟩ := h6 i hi
   exact ⟨c, hc, fun j hj => cell_agree (hw b h2) (hcell j hj), R.mono hF hw hok⟩⟩
theorem Rep.slice_open {α : Type} {R : Rep α} {F : Nat → Prop} {w : World} {v : Value} {xs : List α} (h : R.slice.ok F w [v] xs) :
  ∃ A cap, v = .slice A xs.length cap ∧ (0 < xs.length → ∃ b off, A = some ⟨b, off, none⟩ ∧ F b ∧ b < w.heap.size ∧ xs.length ≤ cap ∧ cap ≤ maxLen ∧
   ∀ i (h : i < xs.length), ∃ c : List Value, c.length = R.size ∧ (∀ j (hj : j < c.length), w.cell? ⟨b, off + i * R.size + j, none⟩ = some c[j]) ∧ R.ok F w c xs[i]) := by
 rcases h with ⟨a, cap, h1, rfl⟩ | ⟨b, off, cap, h1, h2, hlt, h3, h4, h5, h6⟩
 ·obtain rfl : v = .slice a 0 cap := by simpa using h1
  exact ⟨a, cap, rfl, fun h => by simp at h⟩
 ·obtain rfl : v = .slice (some ⟨b, off, none⟩) xs.length cap := by simpa using h1
  exact ⟨_, cap, rfl, fun h0 => ⟨b, off, rfl, h2, hlt, h4, h5, h6⟩⟩
def Reads {α : Type} (P : Program) (t : TypeId) (R : Rep α) : Prop :=
 R.size = P.cellsOf t ∧ ∀ {H : Type} (enc : TypeId × Value → H) (w : World) (fuel : Nat) (cs : List Value) (d : DataW H × List MemPlace),
  DataW.trod enc P w 0 (fun _ => true) true fuel t cs = some d → ∃ x, R.ok (fun b => b < w.heap.size) w cs x ∧ cs.length = R.size
theorem reads_int {P : Program} {t : TypeId} {k : IntKind} (ht : P.underlying t = some (.int k)) (hs : P.cellsOf t = 1) : Reads P t (Rep.int k) := by
 refine ⟨hs.symm, fun enc w fuel cs d h => ?_⟩
 obtain ⟨n, rfl, _, hw⟩ := DataW.trod_int ht h
 exact ⟨n, ⟨rfl, hw⟩, rfl⟩
theorem reads_bool {P : Program} {t : TypeId} (ht : P.underlying t = some .bool) (hs : P.cellsOf t = 1) : Reads P t Rep.bool := by
 refine ⟨hs.symm, fun enc w fuel cs d h => ?_⟩
 obtain ⟨b, rfl, _⟩ := DataW.trod_bool ht h
 exact ⟨b, rfl, rfl⟩
theorem reads_str {P : Program} {t : TypeId} (ht : P.underlying t = some .string) (hs : P.cellsOf t = 1) : Reads P t Rep.str := by
 refine ⟨hs.symm, fun enc w fuel cs d h => ?_⟩
 obtain ⟨b, rfl, _, hw⟩ := DataW.trod_string ht h
 exact ⟨b, ⟨rfl, hw⟩, rfl⟩
def FieldsOk {α : Type} (P : Program) (o : Nat) (fs : List Field) (R : Rep α) : Prop :=
 ∀ {H : Type} (enc : TypeId × Value → H) (w : World) (fuel : Nat) (cs : List Value),
  (∀ f, f ∈ fs → ∃ d, DataW.trod enc P w 0 (fun _ => true) true fuel f.type ((cs.drop f.offset).take (P.cellsOf f.type)) = some d) → o + R.size ≤ cs.length →
  ∃ x, R.ok (fun b => b < w.heap.size) w ((cs.drop o).take R.size) x
theorem fields_nil (P : Program) (o : Nat) : FieldsOk P o [] Rep.unit := fun enc w fuel cs _ _ => ⟨(), by simp [Rep.unit]⟩
theorem fields_cons {α β : Type} {P : Program} {o : Nat} {f : Field} {fs : List Field} {R : Rep α} {S : Rep β} (hf : f.offset = o) (hR : Reads P f.type R) (hS : FieldsOk P (o + R.size) fs S) :
  FieldsOk P o (f :: fs) (R.pair S) := by
 intro H enc w fuel cs h hl
 have hl' : o + (R.size + S.size) ≤ cs.length := hl
 obtain ⟨d, hd⟩ := h f (by simp)
 obtain ⟨x, hx, hlen⟩ := hR.2 enc w fuel _ d hd
 obtain ⟨y, hy⟩ := hS enc w fuel cs (fun g hg => h g (by simp [hg])) (by omega)
 rw [hf, ← hR.1] at hx hlen
 refine ⟨(x, y), (cs.drop o).take R.size, (cs.drop (o + R.size)).take S.size, ?_, hlen, hx, hy⟩
 show (cs.drop o).take (R.size + S.size) = _
 rw [List.take_add, List.drop_drop]
theorem reads_struct {α : Type} {P : Program} {t : TypeId} {fs : Array Field} {R : Rep α} (ht : P.underlying t = some (.struct fs)) (hf : FieldsOk P 0 fs.toList R) (hs : R.size = P.cellsOf t) : Reads P t R := by
 refine ⟨hs, fun enc w fuel cs d h => ?_⟩
 obtain ⟨xs, n, rfl, rfl, hl, hxs, hfs⟩ := DataW.trod_struct ht h
 obtain ⟨x, hx⟩ := hf enc w n cs (fun f hfm => by
  obtain ⟨i, hi⟩ := List.mem_iff_getElem?.1 hfm
  have hi' : fs[i]? = some f := by simpa using hi
  have hlt : i < fs.size := (Array.getElem?_eq_some_iff.1 hi').1
  have hlt' : i < xs.length := by omega
  exact ⟨xs[i], (hfs i f hi').trans (List.getElem?_eq_getElem hlt')⟩) (by omega)
 refine ⟨x, ?_, by omega⟩
 rw [List.drop_zero, List.take_of_length_le (by omega)] at hx
 exact hx
theorem choose_list {α : Type} (n : Nat) (p : Nat → α → Prop) (h : ∀ i, i < n → ∃ x, p i x) : ∃ xs : List α, xs.length = n ∧ ∀ i (hi : i < xs.length), p i xs[i] := by
 induction n with
 | zero => exact ⟨[], rfl, fun i hi => by simp at hi⟩
 | succ n ih =>
  obtain ⟨xs, hl, hxs⟩ := ih fun i hi => h i (by omega)
  obtain ⟨x, hx⟩ := h n (by omega)
  refine ⟨xs ++ [x], by simp [hl], fun i hi => ?_⟩
  by_cases hin : i < xs.length
  ·rw [List.getElem_append_left hin]; exact hxs i hin
  ·have : i = n := by simp at hi; omega
   subst this
   rw [List.getElem_append_right (by omega)]; simpa using hx
theorem spot_of_cell {w : World} {a : Addr} {v : Value} (h : w.cell? a = some v) : a.spot = none := by
 unfold World.cell? at h
 split at h
 ·split at h
  ·cases h
  ·rename_i hs; simpa using hs
 ·cases h
theorem add_at (b off n : Nat) : (⟨b, off, none⟩ : Addr).add n = ⟨b, off + n, none⟩ := by
 unfold Addr.add; split <;> simp_all
theorem reads_slice {α : Type} {P : Program} {t e : TypeId} {R : Rep α} (ht : P.underlying t = some (.slice e)) (hs : P.cellsOf t = 1) (he : Reads P e R) (hpos : 0 < R.size) : Reads P t R.slice := by
 refine ⟨hs.symm, fun enc w fuel cs d h => ?_⟩
 rcases DataW.trod_slice ht h with ⟨rfl, _⟩ | ⟨a, len, cap, elems, rest, n, rfl, rfl, _, _, hle, hcap, hlen, hel, _, _⟩
 ·exact ⟨[], .inl ⟨none, 0, rfl, rfl⟩, rfl⟩
 ·by_cases h0 : len = 0
  ·subst h0
   exact ⟨[], .inl ⟨some a, cap, rfl, rfl⟩, rfl⟩
  have key : ∀ i, i < len → ∃ x : α, ∃ c : List Value, c.length = R.size ∧ (∀ j (hj : j < c.length), w.cell? (a.add (i * R.size) |>.add j) = some c[j]) ∧ R.ok (fun b => b < w.heap.size) w c x := by
   intro i hi
   have := hel i hi
   rw [List.getElem?_eq_getElem (by omega)] at this
   obtain ⟨c, hc, hd⟩ := Option.bind_eq_some_iff.1 this
   obtain ⟨x, hx, hl⟩ := he.2 enc w n c _ hd
   obtain ⟨_, hl2, hcell⟩ := World.cells?_some hc
   refine ⟨x, c, hl, fun j hj => ?_, hx⟩
   rw [he.1, hcell j (by omega)]
   exact List.getElem?_eq_getElem hj
  obtain ⟨x0, c0, hc0, hcell0, _⟩ := key 0 (by omega)
  have hsp := hcell0 0 (by omega)
  have hblk := World.block_lt_of_cell? w _ hsp
  have hspot : a.spot = none := by
   have := spot_of_cell hsp
   simpa [Addr.add] using this
  obtain ⟨b, off, spot⟩ := a
  obtain rfl : spot = none := hspot
  simp only [add_at] at key hblk
  obtain ⟨xs, hxl, hxs⟩ := choose_list len _ key
  refine ⟨xs, .inr ⟨b, off, cap, by rw [hxl], hblk, hblk, fun e => by subst e; simp at hxl; omega, by omega, hcap, fun i hi => ?_⟩, rfl⟩
  exact hxs i hi
theorem own_shape {w : World} {B : Nat} {e : TypeId} {size n : Nat} {v : Value} {xs : List Value} (h : w.ownsRow B e size v n xs) (hn : 0 < n) :
  ∃ g cap, v = .slice (some ⟨g, 0, none⟩) n cap ∧ B ≤ g ∧ g < w.heap.size ∧ n ≤ cap ∧ cap ≤ maxLen ∧ (∀ j u, xs[j]? = some u → w.cell? ⟨g, j, none⟩ = some u) ∧ ∀ j, w.frozen? ⟨g, j, none⟩ = false := by
 obtain ⟨hl, ⟨rfl, rfl⟩ | ⟨g, cap, cur, rfl, hB, hg, hc, hm, hs, ht⟩⟩ := h
 ·omega
 refine ⟨g, cap, rfl, hB, lt_of_block hg, hc, hm, fun j u hj => ?_, fun j => blk_free hg j⟩
 rw [blk_cell hg j, ← Array.getElem?_toList]
 have hjl : j < xs.length := (List.getElem?_eq_some_iff.1 hj).1
 rw [← ht] at hj
 rw [List.getElem?_take] at hj
 split at hj
 ·exact hj
 ·cases hj
theorem own_slice {w : World} {B : Nat} {e : TypeId} {size n : Nat} {v : Value} {xs : List Value} (h : w.ownsRow B e size v n xs) : ∃ A cap, v = .slice A n cap := by
 obtain ⟨_, ⟨rfl, rfl⟩ | ⟨g, cap, cur, rfl, _⟩⟩ := h
 ·exact ⟨_, _, rfl⟩
 ·exact ⟨_, _, rfl⟩
theorem own_lt {w : World} {B : Nat} {e : TypeId} {size n : Nat} {v : Value} {xs : List Value} (h : w.ownsRow B e size v n xs) (k : Nat) (hk : v.ownBlock = some k) : B ≤ k ∧ k < w.heap.size := h.lt k hk
theorem own_chg {w w' : World} {B : Nat} {e : TypeId} {size n : Nat} {v : Value} {xs : List Value} {S : Nat → Prop} (h : w.ownsRow B e size v n xs) (hc : Chg S w w') (hs : ∀ k, v.ownBlock = some k → ¬ S k) : w'.ownsRow B e size v n xs := by
 obtain ⟨hl, ⟨rfl, rfl⟩ | ⟨g, cap, cur, rfl, hB, hg, r⟩⟩ := h
 ·exact ⟨hl, .inl ⟨rfl, rfl⟩⟩
 ·exact ⟨hl, .inr ⟨g, cap, cur, rfl, hB, hc.blk hg (hs g rfl), r⟩⟩
theorem own_far {w : World} {B : Nat} {e : TypeId} {size n : Nat} {v : Value} {xs : List Value} (h : w.ownsRow B e size v n xs) {p : Addr} (hp : v.ownBlock ≠ some p.block) (u : Value) : (w.setCell p u).ownsRow B e size v n xs := ownsRow_setCell_other h hp u
theorem blk_ne {w : World} {g g' : Nat} {t t' : TypeId} {cs cs' : Array Value} {fr fr' : Nat × Nat} (h : w.heap[g]? = some (.cells cs t fr)) (h' : w.heap[g']? = some (.cells cs' t' fr')) (hne : t ≠ t') : g ≠ g' := by
 rintro rfl
 rw [h] at h'
 injection h' with h'
 injection h' with _ ht
 exact hne ht
section app
variable {P : Program} {ops : Array Oper} {rest : List Oper} {o : Oper} {a : Act} {Q : Exit → Act → World → Prop}
theorem app_from {W : World} (hgd : o.guard = none) (s x : Operand) (t e : TypeId) (z : Value) (size bytes : Nat)
  (ho : o.op = .call { callee := .builtin .append, args := #[s, x], argTypes := #[t, t] })
  (ht : P.underlying t = some (.slice e)) (hinfo : (P.info? e).map (fun i => (i.zero, i.size, i.bytes)) = some (some z, size, bytes)) (hz : z.cells.size = size) (hs0 : 0 < size) (hb0 : 0 < bytes)
  (B : Nat) (v : Value) (n : Nat) (xs ys : List Value) (ad : Addr) (m c : Nat) (hs : a.eval s = v) (hx : a.eval x = .slice (some ad) m c) (hys : ys.length = m * size) (h1 : ∀ u ∈ ys, u.oneCell' = true)
  (hc : ∀ j u, ys[j]? = some u → W.cell? (ad.add j) = some u)
  (HO : W.ownsRow B e size v n xs) (hbase : B ≤ W.heap.size) (hl : (n + m) * bytes ≤ 140737488355328)
  (h : ∀ v1 w1, w1.ownsRow B e size v1 (n + m) (xs ++ ys) → Chg (fun k => v.ownBlock = some k) W w1 → (v1.ownBlock = v.ownBlock ∨ v1.ownBlock = some W.heap.size) → wpList P ops Q rest (a.put o.dst v1) w1) :
  wpList P ops Q (o :: rest) a W := by
 obtain ⟨i0, hi, hzz⟩ := Option.map_eq_some_iff.1 hinfo
 simp only [Prod.mk.injEq] at hzz
 obtain ⟨hz0, hz1, hz2⟩ := hzz
 have hlen : n + m ≤ 140737488355328 := Nat.le_trans (Nat.le_mul_of_pos_right _ hb0) hl
 refine wpList_append_own_at W hgd s x t ho B e i0 z size bytes ht hi hz0 hz1 hz2 hz hs0 v n xs hs HO ad m c ys hx hys hc h1 (by simp only [maxLen]; omega) hl hbase ?_
 intro v1 w1 hown hg _ hat
 exact h v1 w1 hown (Chg.of_grown hg fun k hk _ => hk) hat
theorem app_one {W : World} (hgd : o.guard = none) (s x : Operand) (t e : TypeId) (z : Value) (size bytes : Nat)
  (ho : o.op = .call { callee := .builtin .append, args := #[s, x], argTypes := #[t, t] })
  (ht : P.underlying t = some (.slice e)) (hinfo : (P.info? e).map (fun i => (i.zero, i.size, i.bytes)) = some (some z, size, bytes)) (hz : z.cells.size = size) (hs0 : 0 < size) (hb0 : 0 < bytes)
  (B : Nat) (v : Value) (n : Nat) (xs : List Value) (ys : Array Value) (N : Nat) (hs : a.eval s = v) (hx : a.eval x = .slice (some ⟨N, 0, none⟩) 1 1) (hN : N = W.heap.size) (hys : ys.size = size) (h1 : ∀ u ∈ ys.toList, u.oneCell' = true)
  (HO : W.ownsRow B e size v n xs) (hbase : B ≤ W.heap.size) (hl : (n + 1) * bytes ≤ 140737488355328)
  (h : ∀ v1 w1, w1.ownsRow B e size v1 (n + 1) (xs ++ ys.toList) → Chg (fun k => v.ownBlock = some k) W w1 → (v1.ownBlock = v.ownBlock ∨ ∃ b, v1.ownBlock = some b ∧ W.heap.size ≤ b) → wpList P ops Q rest (a.put o.dst v1) w1) :
  wpList P ops Q (o :: rest) a (W.alloc (.cells ys e)) := by
 subst hN
 refine app_from hgd s x t e z size bytes ho ht hinfo hz hs0 hb0 B v n xs ys.toList ⟨W.heap.size, 0, none⟩ 1 1 hs hx (by simp [hys]) h1
  (by simpa using World.news_of_block (cs := ys) (t := e) (fr := (0, 0)) (heap_alloc_new W (.cells ys e))) (HO.alloc _) (by simp; omega) hl ?_
 intro v1 w1 hown hg hat
 refine h v1 w1 hown (((Chg.refl (fun k => v.ownBlock = some k) W).alloc _).trans hg) ?_
 rcases hat with hat | hat
 ·exact .inl hat
 ·exact .inr ⟨_, hat, by simp⟩
end app
end Go.Proofs.YtemoonhnncopoaaGreatDoor
end
section
namespace Go.Proofs.YtemoonhnncopoaaGreatDoor.Ent
structure Shp where
 n : Nat
 kind : Int → Int
 par : Int → Int
 ini : Int → Int
 kids : Int → List Int
 bel : Int → Nat
 up : Int → List Int
 stands : Int → List Int
abbrev ES := Nat × Nat
def regE (sh : Shp) (d : ES → Int → ES) (S : ES) (s : Int) : ES := (sh.kids s).foldl (fun S k => if S.1 &&& sh.bel k = 0 then d S k else S) S
def abvL (sh : Shp) (d : ES → Int → ES) (tz : Int) : List Int → ES → ES
 | [], S => S
 | x :: r, S => if x = tz then S else abvL sh d tz r (if sh.kind x = 3 then regE sh d (S.1 ||| 2 ^ x.toNat, S.2) x else (S.1 ||| 2 ^ x.toNat, S.2))
def abvE (sh : Shp) (d : ES → Int → ES) (S : ES) (s tz : Int) : ES := abvL sh d tz (sh.up s) S
def dwnE (sh : Shp) : Nat → ES → Int → ES
 | 0, S, _ => S
 | f + 1, S, s =>
  if S.2 = 0 ∨ (sh.n : Int) ≤ s then S
  else if sh.kind s = 5 ∨ sh.kind s = 6 then
   (sh.stands s).foldl (fun S y => abvE sh (dwnE sh f) S y (sh.par s)) ((sh.stands s).foldl (dwnE sh f) (S.1, S.2 - 1))
  else if sh.kind s = 2 then abvE sh (dwnE sh f) (dwnE sh f (S.1 ||| 2 ^ s.toNat, S.2 - 1) (sh.ini s)) (sh.ini s) s
  else if sh.kind s = 3 then regE sh (dwnE sh f) (S.1 ||| 2 ^ s.toNat, S.2 - 1) s
  else (S.1 ||| 2 ^ s.toNat, S.2 - 1)
def has (S : Nat) (x : Int) : Prop := 0 ≤ x ∧ S.testBit x.toNat = true
def cnt (n : Nat) (S : Nat) : Nat := ((List.range n).filter (fun x => S.testBit x)).length
structure ShOk (sh : Shp) (In : Int → Int → Prop) : Prop where
 few : sh.n ≤ 24
 parent : ∀ s : Int, 0 < s → s < sh.n → 0 ≤ sh.par s ∧ sh.par s < s
 root : sh.par 0 = -1
 kinds : ∀ s : Int, 0 ≤ s → s < sh.n → 1 ≤ sh.kind s ∧ sh.kind s ≤ 6
 inner : ∀ s : Int, 0 < s → s < sh.n → sh.kind (sh.par s) = 2 ∨ sh.kind (sh.par s) = 3
 kid : ∀ s k : Int, k ∈ sh.kids s ↔ 0 < k ∧ k < sh.n ∧ sh.par k = s ∧ sh.kind k < 5
 some : ∀ s : Int, 0 ≤ s → s < sh.n → sh.kind s = 2 ∨ sh.kind s = 3 → ∃ k, k ∈ sh.kids s
 ins : ∀ a b : Int, In a b ↔ 0 < a ∧ a < sh.n ∧ 0 ≤ b ∧ (sh.par a = b ∨ In (sh.par a) b)
 below : ∀ s x : Int, has (sh.bel s) x ↔ In x s ∧ sh.kind x < 5
 ups : ∀ s : Int, 0 ≤ s → s < sh.n → sh.up s = if 0 < s then sh.par s :: sh.up (sh.par s) else []
 init : ∀ s : Int, 0 ≤ s → s < sh.n → sh.kind s = 2 → In (sh.ini s) s ∧ sh.kind (sh.ini s) < 5
 loss : ∃ L : Int → Nat, (∀ c : Int, L c ≤ 32) ∧ ∀ c : Int, 0 < c → c < sh.n → L (sh.par c) + (sh.kids (sh.par c)).length ≤ L c
section
variable {sh : Shp} {In : Int → Int → Prop} (ok : ShOk sh In)
include ok
abbrev at' (In : Int → Int → Prop) (x k : Int) : Prop := x = k ∨ In x k
end
def Cont (In : Int → Int → Prop) (S : Nat) (k : Int) : Prop := ∃ x, has S x ∧ at' In x k
structure Inv (sh : Shp) (In : Int → Int → Prop) (S : Nat) (E : Int → Prop) : Prop where
 sub : ∀ x : Int, has S x → x < sh.n ∧ sh.kind x < 5
 one : ∀ s : Int, 0 ≤ s → s < sh.n → sh.kind s = 2 → ∀ k j : Int, k ∈ sh.kids s → j ∈ sh.kids s → Cont In S k → Cont In S j → k = j
 need2 : ∀ s : Int, has S s → ¬ E s → sh.kind s = 2 → ∃ k, k ∈ sh.kids s ∧ Cont In S k
 need3 : ∀ s : Int, has S s → ¬ E s → sh.kind s = 3 → ∀ k : Int, k ∈ sh.kids s → Cont In S k
def pot (sh : Shp) (S : ES) : Nat := S.2 + 64 * cnt sh.n S.1
structure Dn (sh : Shp) (In : Int → Int → Prop) (E : Int → Prop) (S S' : ES) (s : Int) : Prop where
 inv : Inv sh In S'.1 E
 more : ∀ x : Int, has S.1 x → has S'.1 x
 self : has S'.1 s
 new : ∀ x : Int, has S'.1 x → has S.1 x ∨ x = s ∨ (In x s ∧ has S'.1 (sh.par x))
 left : S'.2 ≤ S.2
 pot : pot sh S ≤ pot sh S' + 1
end Go.Proofs.YtemoonhnncopoaaGreatDoor.Ent
end
section
namespace Go.Proofs.YtemoonhnncopoaaGreatDoor.PX
abbrev T := PAll.S91
abbrev V := Int × Int
end Go.Proofs.YtemoonhnncopoaaGreatDoor.PX
end
section
namespace Go.Proofs.YtemoonhnncopoaaGreatDoor
open Go.RowKit PX Go.Proofs.YtemoonhnncopoaaGreatDoorW.PrintWords
theorem ev_pos {α : Type} {c : Prop} [Decidable c] {g f : Nat → Option α} {r : α} (h : c) (k : Ev g r) : Ev (fun n => if c then g n else f n) r := by
 obtain ⟨K, hK⟩ := k
 exact ⟨K, fun n hn => by simp only [if_pos h]; exact hK n hn⟩
theorem ev_neg {α : Type} {c : Prop} [Decidable c] {g f : Nat → Option α} {r : α} (h : ¬ c) (k : Ev f r) : Ev (fun n => if c then g n else f n) r := by
 obtain ⟨K, hK⟩ := k
 exact ⟨K, fun n hn => by simp only [if_neg h]; exact hK n hn⟩
theorem ev_bind {α β : Type} {g : Option α} {f : Nat → α → Option β} {a : α} {r : β} (h : g = some a) (k : Ev (fun n => f n a) r) : Ev (fun n => g.bind (f n)) r := by
 obtain ⟨K, hK⟩ := k
 exact ⟨K, fun n hn => by rw [h]; exact hK n hn⟩
theorem w64 {x : Int} (h0 : -9223372036854775808 ≤ x) (h1 : x ≤ 9223372036854775807) : wrap64 x = x := by unfold wrap64; omega
end Go.Proofs.YtemoonhnncopoaaGreatDoor
end
section
namespace Go.Proofs.YtemoonhnncopoaaGreatDoor
open Go.RowKit PX Go.Proofs.YtemoonhnncopoaaGreatDoorW.PrintWords
abbrev Sta := PAll.S54
abbrev Tra := PAll.S56
theorem ev_is {α : Type} {g : Nat → Option α} {r r' : α} (h : r' = r) (k : Ev g r) : Ev g r' := h ▸ k
def histP (k : Int) : Bool := k == 5 || k == 6
def inF (st : List Sta) : Nat → Int → Int → Bool
 | 0, _, _ => false
 | f + 1, s, b => if s > b ∧ 0 < s ∧ s < (st.length : Int) then (if (PAll.rd_T54 st s).f1 ≥ s then false else if (PAll.rd_T54 st s).f1 = b then true else inF st f (PAll.rd_T54 st s).f1 b) else false
def inC (st : List Sta) (s b : Int) : Bool := inF st s.toNat s b
theorem inF_two (st : List Sta) (b : Int) (n : Nat) : ∀ (p : Int) (f g : Nat), p.toNat ≤ n → p.toNat ≤ f → p.toNat ≤ g → inF st f p b = inF st g p b := by
 induction n with
 | zero =>
  intro p f g h _ _
  have no : ¬ (p > b ∧ 0 < p ∧ p < (st.length : Int)) := by omega
  cases f <;> cases g <;> simp only [inF, if_neg no]
 | succ n ih =>
  intro p f g h hf hg
  by_cases hc : p > b ∧ 0 < p ∧ p < (st.length : Int)
  ·obtain ⟨f, rfl⟩ : ∃ m, f = m + 1 := ⟨f - 1, by omega⟩
   obtain ⟨g, rfl⟩ : ∃ m, g = m + 1 := ⟨g - 1, by omega⟩
   simp only [inF, if_pos hc]
   by_cases h2 : (PAll.rd_T54 st p).f1 ≥ p
   ·rw [if_pos h2, if_pos h2]
   ·rw [if_neg h2, if_neg h2, ih (PAll.rd_T54 st p).f1 f g (by omega) (by omega) (by omega)]
  ·cases f <;> cases g <;> simp only [inF, if_neg hc]
theorem inC_eq (st : List Sta) (s b : Int) : inC st s b = if s > b ∧ 0 < s ∧ s < (st.length : Int) then (if (PAll.rd_T54 st s).f1 ≥ s then false else if (PAll.rd_T54 st s).f1 = b then true else inC st (PAll.rd_T54 st s).f1 b) else false := by
 unfold inC
 by_cases hc : s > b ∧ 0 < s ∧ s < (st.length : Int)
 ·obtain ⟨m, hm⟩ : ∃ m, s.toNat = m + 1 := ⟨s.toNat - 1, by omega⟩
  rw [hm]
  simp only [inF, if_pos hc]
  by_cases h2 : (PAll.rd_T54 st s).f1 ≥ s
  ·rw [if_pos h2, if_pos h2]
  ·rw [if_neg h2, if_neg h2, inF_two st b m (PAll.rd_T54 st s).f1 m (PAll.rd_T54 st s).f1.toNat (by omega) (by omega) (Nat.le_refl _)]
 ·rw [if_neg hc]
  cases s.toNat <;> simp only [inF, if_neg hc]
theorem inC_lt {st : List Sta} {s b : Int} (h : inC st s b = true) : b < s ∧ 0 < s ∧ s < (st.length : Int) := by
 rw [inC_eq] at h
 split at h
 ·omega
 ·cases h
theorem in_l0 (st : List Sta) (tr : List Tra) (v b : Int) (n : Nat) : ∀ s : Int, s.toNat ≤ n → Ev (fun k => PAll.chart_checker_in.l0 k s b v st tr) (inC st s b) := by
 induction n with
 | zero =>
  intro s h
  rw [inC_eq, if_neg (by omega)]
  refine Ev.step (fun k => rfl) ?_
  simp only [PAll.chart_checker_in.l0]
  by_cases h1 : s > b
  ·refine ev_pos h1 (ev_neg (by omega) (Ev.step (fun k => rfl) ?_))
   simp only [PAll.chart_checker_in.j1]
   exact ev_neg (by simp) (Ev.now _)
  ·refine ev_neg h1 (Ev.step (fun k => rfl) ?_)
   simp only [PAll.chart_checker_in.j1]
   exact ev_neg (by simp) (Ev.now _)
 | succ n ih =>
  intro s h
  rw [inC_eq]
  refine Ev.step (fun k => rfl) ?_
  simp only [PAll.chart_checker_in.l0]
  by_cases hc : s > b ∧ 0 < s ∧ s < (st.length : Int)
  ·rw [if_pos hc]
   refine ev_pos (by omega) (ev_pos (by omega) (Ev.step (fun k => rfl) ?_))
   simp only [PAll.chart_checker_in.j1]
   refine ev_pos (decide_eq_true hc.2.2) (ev_pos (by omega) (ev_pos (by omega) ?_))
   by_cases h2 : (PAll.rd_T54 st s).f1 ≥ s
   ·rw [if_pos h2]; exact ev_pos h2 (Ev.now _)
   ·rw [if_neg h2]
    refine ev_neg h2 ?_
    by_cases h3 : (PAll.rd_T54 st s).f1 = b
    ·rw [if_pos h3]; exact ev_pos h3 (Ev.now _)
    ·rw [if_neg h3]; exact ev_neg h3 (ih _ (by omega))
  ·rw [if_neg hc]
   have stop : ∀ x : Bool, x = false → Ev (fun k => PAll.chart_checker_in.j1 k s b x v st tr) false := by
    intro x hx
    subst hx
    refine Ev.step (fun k => rfl) ?_
    simp only [PAll.chart_checker_in.j1]
    exact ev_neg (by simp) (Ev.now _)
   by_cases h1 : s > b
   ·refine ev_pos h1 ?_
    by_cases h2 : s > 0
    ·exact ev_pos h2 (stop _ (decide_eq_false (by omega)))
    ·exact ev_neg h2 (stop _ rfl)
   ·exact ev_neg h1 (stop _ rfl)
theorem in_ev (st : List Sta) (tr : List Tra) (v s b : Int) : Ev (fun k => PAll.chart_checker_in.f k v st tr s b) (inC st s b) := in_l0 st tr v b s.toNat s (Nat.le_refl _)
theorem hist_f (k : Int) : PAll.chart_history.f k = some (histP k) := by
 unfold PAll.chart_history.f histP
 by_cases h : k = 5
 ·subst h; rfl
 ·rw [if_neg h]; simp [h]
def parP (st : List Sta) (i : Int) : Int :=
 if i = 0 then (if (PAll.rd_T54 st i).f1 = -1 then 0 else 1)
 else if (PAll.rd_T54 st i).f1 < 0 then 1
 else if (PAll.rd_T54 st i).f1 ≠ i - 1 ∧ inC st (i - 1) (PAll.rd_T54 st i).f1 = false then 1
 else if (PAll.rd_T54 st (PAll.rd_T54 st i).f1).f0 = 2 then (if (PAll.rd_T54 st i).f1 = 0 ∧ histP (PAll.rd_T54 st i).f0 = true then 10 else 0)
 else if (PAll.rd_T54 st (PAll.rd_T54 st i).f1).f0 = 3 then (if (PAll.rd_T54 st i).f0 = 4 then 10 else if (PAll.rd_T54 st i).f1 = 0 ∧ histP (PAll.rd_T54 st i).f0 = true then 10 else 0)
 else 10
theorem par_ev (st : List Sta) (tr : List Tra) (v i : Int) (h0 : 0 ≤ i) (h1 : i < (st.length : Int)) (hb : (st.length : Int) ≤ 9223372036854775807) : Ev (fun k => PAll.chart_checker_parent.f k v st tr i) (parP st i) := by
 have tail : 0 ≤ (PAll.rd_T54 st i).f1 → (PAll.rd_T54 st i).f1 < (st.length : Int) → Ev (fun k => PAll.chart_checker_parent.j0 k false v st tr (PAll.rd_T54 st i).f0 (PAll.rd_T54 st i).f1 (PAll.rd_T54 st i).f2 (PAll.rd_T54 st i).f3 (PAll.rd_T54 st i).f4)
   (if (PAll.rd_T54 st (PAll.rd_T54 st i).f1).f0 = 2 then (if (PAll.rd_T54 st i).f1 = 0 ∧ histP (PAll.rd_T54 st i).f0 = true then 10 else 0)
    else if (PAll.rd_T54 st (PAll.rd_T54 st i).f1).f0 = 3 then (if (PAll.rd_T54 st i).f0 = 4 then 10 else if (PAll.rd_T54 st i).f1 = 0 ∧ histP (PAll.rd_T54 st i).f0 = true then 10 else 0)
    else 10) := by
  intro p0 p1
  refine Ev.step (fun k => rfl) ?_
  simp only [PAll.chart_checker_parent.j0]
  refine ev_neg (by simp) (ev_pos p0 (ev_pos p1 ?_))
  have last : Ev (fun k => if (PAll.rd_T54 st i).f1 = 0 then ((PAll.chart_history.f (PAll.rd_T54 st i).f0).bind fun t => (if t = true then (some 10) else (some 0))) else (some 0)) (if (PAll.rd_T54 st i).f1 = 0 ∧ histP (PAll.rd_T54 st i).f0 = true then (10 : Int) else 0) := by
   by_cases hz : (PAll.rd_T54 st i).f1 = 0
   ·refine ev_pos hz ?_
    rw [hist_f]
    simp only [Option.bind_some]
    cases hh : histP (PAll.rd_T54 st i).f0
    ·have e : (if (PAll.rd_T54 st i).f1 = 0 ∧ false = true then (10 : Int) else 0) = 0 := if_neg (by simp)
     rw [e]; exact ev_neg (by simp) (Ev.now _)
    ·have e : (if (PAll.rd_T54 st i).f1 = 0 ∧ true = true then (10 : Int) else 0) = 10 := if_pos ⟨hz, rfl⟩
     rw [e]; exact ev_pos rfl (Ev.now _)
   ·have e : (if (PAll.rd_T54 st i).f1 = 0 ∧ histP (PAll.rd_T54 st i).f0 = true then (10 : Int) else 0) = 0 := if_neg (fun h => hz h.1)
    rw [e]; exact ev_neg hz (Ev.now _)
  by_cases k2 : (PAll.rd_T54 st (PAll.rd_T54 st i).f1).f0 = 2
  ·exact ev_is (if_pos k2) (ev_pos k2 last)
  ·refine ev_is (if_neg k2) ?_
   refine ev_neg k2 ?_
   by_cases k3 : (PAll.rd_T54 st (PAll.rd_T54 st i).f1).f0 = 3
   ·refine ev_is (if_pos k3) ?_
    refine ev_pos k3 ?_
    by_cases k4 : (PAll.rd_T54 st i).f0 = 4
    ·exact ev_is (if_pos k4) (ev_pos k4 (Ev.now _))
    ·exact ev_is (if_neg k4) (ev_neg k4 last)
   ·exact ev_is (if_neg k3) (ev_neg k3 (Ev.now _))
 have bad : Ev (fun k => PAll.chart_checker_parent.j0 k true v st tr (PAll.rd_T54 st i).f0 (PAll.rd_T54 st i).f1 (PAll.rd_T54 st i).f2 (PAll.rd_T54 st i).f3 (PAll.rd_T54 st i).f4) 1 := by
  refine Ev.step (fun k => rfl) ?_
  simp only [PAll.chart_checker_parent.j0]
  exact ev_pos trivial (Ev.now _)
 have hw : wrap64 (i - 1) = i - 1 := w64 (by omega) (by omega)
 unfold PAll.chart_checker_parent.f parP
 rw [hw]
 refine ev_pos h0 (ev_pos h1 ?_)
 by_cases hz : i = 0
 ·refine ev_is (if_pos hz) ?_
  refine ev_pos hz ?_
  by_cases hp : (PAll.rd_T54 st i).f1 = -1
  ·exact ev_is (if_pos hp) (ev_pos hp (Ev.now _))
  ·exact ev_is (if_neg hp) (ev_neg hp (Ev.now _))
 ·refine ev_is (if_neg hz) ?_
  refine ev_neg hz ?_
  by_cases hn : (PAll.rd_T54 st i).f1 < 0
  ·exact ev_is (if_pos hn) (ev_pos hn bad)
  ·refine ev_is (if_neg hn) ?_
   refine ev_neg hn ?_
   by_cases he : (PAll.rd_T54 st i).f1 = i - 1
   ·refine ev_is (if_neg (fun h => h.1 he)) ?_
    exact ev_pos he (tail (by omega) (by omega))
   ·refine ev_neg he (Ev.bind (in_ev st tr v (i - 1) (PAll.rd_T54 st i).f1) ?_)
    cases hi : inC st (i - 1) (PAll.rd_T54 st i).f1 with
    | false => exact ev_is (if_pos ⟨he, rfl⟩) (bad)
    | true =>
     refine ev_is (if_neg (fun h => by cases h.2)) ?_
     have := inC_lt hi
     exact tail (by omega) (by omega)
def iniP (st : List Sta) (i : Int) : Bool :=
 if (PAll.rd_T54 st i).f0 ≠ 2 ∧ histP (PAll.rd_T54 st i).f0 = false then ((PAll.rd_T54 st i).f2.length : Int) == 0
 else if ((PAll.rd_T54 st i).f2.length : Int) ≠ 1 then false
 else if ¬ (0 ≤ rd (PAll.rd_T54 st i).f2 0 ∧ rd (PAll.rd_T54 st i).f2 0 < (st.length : Int)) then false
 else if histP (PAll.rd_T54 st (rd (PAll.rd_T54 st i).f2 0)).f0 = true then false
 else if (PAll.rd_T54 st i).f0 = 2 then inC st (rd (PAll.rd_T54 st i).f2 0) i
 else if (PAll.rd_T54 st i).f0 = 5 then (PAll.rd_T54 st (rd (PAll.rd_T54 st i).f2 0)).f1 == (PAll.rd_T54 st i).f1
 else inC st (rd (PAll.rd_T54 st i).f2 0) (PAll.rd_T54 st i).f1
theorem there_f (st : List Sta) (tr : List Tra) (v s : Int) : PAll.chart_checker_there.f v st tr s = some (decide (0 ≤ s ∧ s < (st.length : Int))) := by
 unfold PAll.chart_checker_there.f
 by_cases h : s ≥ 0
 ·rw [if_pos h]; congr 1; by_cases h2 : s < (st.length : Int) <;> simp [h2] <;> omega
 ·rw [if_neg h]; congr 1; simp; omega
theorem ini_ev (st : List Sta) (tr : List Tra) (v i : Int) (h0 : 0 ≤ i) (h1 : i < (st.length : Int)) : Ev (fun k => PAll.chart_checker_initial.f k v st tr i) (iniP st i) := by
 have bad : Ev (fun k => PAll.chart_checker_initial.j1 k i true v st tr (PAll.rd_T54 st i).f0 (PAll.rd_T54 st i).f1 (PAll.rd_T54 st i).f2 (PAll.rd_T54 st i).f3 (PAll.rd_T54 st i).f4) false := by
  refine Ev.step (fun k => rfl) ?_
  simp only [PAll.chart_checker_initial.j1]
  exact ev_pos trivial (Ev.now _)
 have go : Ev (fun k => PAll.chart_checker_initial.j0 k i false v st tr (PAll.rd_T54 st i).f0 (PAll.rd_T54 st i).f1 (PAll.rd_T54 st i).f2 (PAll.rd_T54 st i).f3 (PAll.rd_T54 st i).f4)
   (if ((PAll.rd_T54 st i).f2.length : Int) ≠ 1 then false
    else if ¬ (0 ≤ rd (PAll.rd_T54 st i).f2 0 ∧ rd (PAll.rd_T54 st i).f2 0 < (st.length : Int)) then false
    else if histP (PAll.rd_T54 st (rd (PAll.rd_T54 st i).f2 0)).f0 = true then false
    else if (PAll.rd_T54 st i).f0 = 2 then inC st (rd (PAll.rd_T54 st i).f2 0) i
    else if (PAll.rd_T54 st i).f0 = 5 then (PAll.rd_T54 st (rd (PAll.rd_T54 st i).f2 0)).f1 == (PAll.rd_T54 st i).f1
    else inC st (rd (PAll.rd_T54 st i).f2 0) (PAll.rd_T54 st i).f1) := by
  refine Ev.step (fun k => rfl) ?_
  simp only [PAll.chart_checker_initial.j0]
  refine ev_neg (by simp) ?_
  by_cases hl : ((PAll.rd_T54 st i).f2.length : Int) = 1
  ·refine ev_is (if_neg (fun h => h hl)) ?_
   refine ev_pos hl (ev_pos (by omega) ?_)
   rw [there_f]
   simp only [Option.bind_some]
   by_cases ht : 0 ≤ rd (PAll.rd_T54 st i).f2 0 ∧ rd (PAll.rd_T54 st i).f2 0 < (st.length : Int)
   ·refine ev_is (if_neg (fun h => h ht)) ?_
    refine ev_pos (decide_eq_true ht) (ev_pos ht.1 (ev_pos ht.2 ?_))
    rw [hist_f]
    simp only [Option.bind_some]
    cases hh : histP (PAll.rd_T54 st (rd (PAll.rd_T54 st i).f2 0)).f0 with
    | true => exact ev_is (if_pos rfl) (bad)
    | false =>
     refine ev_is (if_neg (by simp)) ?_
     refine Ev.step (fun k => rfl) ?_
     simp only [PAll.chart_checker_initial.j1]
     refine ev_neg (by simp) (ev_pos (by omega) ?_)
     by_cases k2 : (PAll.rd_T54 st i).f0 = 2
     ·refine ev_is (if_pos k2) ?_
      refine ev_pos k2 (Ev.bind (in_ev st tr v _ _) (Ev.now _))
     ·refine ev_is (if_neg k2) ?_
      refine ev_neg k2 ?_
      by_cases k5 : (PAll.rd_T54 st i).f0 = 5
      ·refine ev_is (if_pos k5) ?_
       exact ev_pos k5 (ev_pos ht.1 (ev_pos ht.2 (Ev.now _)))
      ·refine ev_is (if_neg k5) ?_
       exact ev_neg k5 (Ev.bind (in_ev st tr v _ _) (Ev.now _))
   ·refine ev_is (if_pos ht) ?_
    exact ev_neg (by simpa using ht) bad
  ·refine ev_is (if_pos hl) ?_
   exact ev_neg hl bad
 unfold PAll.chart_checker_initial.f iniP
 refine ev_pos h0 (ev_pos h1 ?_)
 by_cases k2 : (PAll.rd_T54 st i).f0 = 2
 ·refine ev_is (if_neg (fun h => h.1 k2)) ?_
  exact ev_pos k2 go
 ·refine ev_neg k2 ?_
  rw [hist_f]
  simp only [Option.bind_some]
  cases hh : histP (PAll.rd_T54 st i).f0 with
  | true => exact ev_is (if_neg (fun h => by cases h.2)) (go)
  | false =>
   refine ev_is (if_pos ⟨k2, rfl⟩) ?_
   refine Ev.step (fun k => rfl) ?_
   simp only [PAll.chart_checker_initial.j0]
   exact ev_pos (by simp) (Ev.now _)
def Ahead (st : List Sta) : Prop := ∀ i : Int, 0 ≤ i → i < (st.length : Int) → (PAll.rd_T54 st i).f1 < i ∧ (0 < i → 0 ≤ (PAll.rd_T54 st i).f1) ∧ (i = 0 → histP (PAll.rd_T54 st i).f0 = false)
def ownP (st : List Sta) (s : Int) : Int := if histP (PAll.rd_T54 st s).f0 = true then (PAll.rd_T54 st s).f1 else s
theorem own_f (st : List Sta) (tr : List Tra) (v s : Int) (h0 : 0 ≤ s) (h1 : s < (st.length : Int)) : PAll.chart_checker_own.f v st tr s = some (ownP st s) := by
 unfold PAll.chart_checker_own.f ownP
 rw [if_pos h0, if_pos h1, hist_f]
 simp only [Option.bind_some]
 cases histP (PAll.rd_T54 st s).f0 <;> rfl
theorem own_in {st : List Sta} (ha : Ahead st) {s : Int} (h0 : 0 ≤ s) (h1 : s < (st.length : Int)) : 0 ≤ ownP st s ∧ ownP st s < (st.length : Int) := by
 obtain ⟨a1, a2, a3⟩ := ha s h0 h1
 unfold ownP
 split
 ·rename_i h
  by_cases hz : s = 0
  ·rw [a3 hz] at h; cases h
  ·have := a2 (by omega); omega
 ·omega
def innF (st : List Sta) : Nat → Int → Int → Int
 | 0, _, _ => -1
 | f + 1, s, b => if s ≥ 0 then (if inC st b s = true then s else innF st f (PAll.rd_T54 st s).f1 b) else -1
def innP (st : List Sta) (a b : Int) : Int := innF st (st.length + 1) (PAll.rd_T54 st a).f1 b
theorem inn_l0 {st : List Sta} (ha : Ahead st) (tr : List Tra) (v b : Int) (f : Nat) : ∀ s : Int, s < f → s < (st.length : Int) → Ev (fun k => PAll.chart_checker_innermost.l0 k b s v st tr) (innF st f s b) ∧ innF st f s b < (st.length : Int) := by
 induction f with
 | zero =>
  intro s h1 h2
  refine ⟨Ev.step (fun k => rfl) ?_, by simp only [innF]; omega⟩
  simp only [PAll.chart_checker_innermost.l0, innF]
  exact ev_neg (by omega) (Ev.now _)
 | succ f ih =>
  intro s h1 h2
  by_cases h0 : s ≥ 0
  ·obtain ⟨a1, _, _⟩ := ha s h0 h2
   obtain ⟨i1, i2⟩ := ih (PAll.rd_T54 st s).f1 (by omega) (by omega)
   cases hi : inC st b s with
   | true =>
    simp only [innF]
    rw [if_pos h0, if_pos hi]
    refine ⟨Ev.step (fun k => rfl) ?_, h2⟩
    simp only [PAll.chart_checker_innermost.l0]
    refine ev_pos h0 (Ev.bind (in_ev st tr v b s) ?_)
    rw [hi]
    exact ev_pos rfl (Ev.now _)
   | false =>
    simp only [innF]
    rw [if_pos h0, if_neg (by rw [hi]; simp)]
    refine ⟨Ev.step (fun k => rfl) ?_, i2⟩
    simp only [PAll.chart_checker_innermost.l0]
    refine ev_pos h0 (Ev.bind (in_ev st tr v b s) ?_)
    rw [hi]
    exact ev_neg (by simp) (ev_pos h0 (ev_pos h2 i1))
  ·simp only [innF]
   rw [if_neg h0]
   refine ⟨Ev.step (fun k => rfl) ?_, by omega⟩
   simp only [PAll.chart_checker_innermost.l0]
   exact ev_neg h0 (Ev.now _)
theorem inn_ev {st : List Sta} (ha : Ahead st) (tr : List Tra) (v a b : Int) (h0 : 0 ≤ a) (h1 : a < (st.length : Int)) : Ev (fun k => PAll.chart_checker_innermost.f k v st tr a b) (innP st a b) ∧ innP st a b < (st.length : Int) := by
 obtain ⟨a1, _, _⟩ := ha a h0 h1
 obtain ⟨i1, i2⟩ := inn_l0 ha tr v b (st.length + 1) (PAll.rd_T54 st a).f1 (by omega) (by omega)
 refine ⟨?_, i2⟩
 unfold PAll.chart_checker_innermost.f
 exact ev_pos h0 (ev_pos h1 i1)
def pairP (st : List Sta) (a b0 : Int) : Bool :=
 decide (a ≠ ownP st b0) && !inC st a (ownP st b0) && !inC st (ownP st b0) a && decide (0 ≤ innP st a (ownP st b0)) && decide ((PAll.rd_T54 st (innP st a (ownP st b0))).f0 = 3)
def tgtF (st : List Sta) : List Int → List Int → Bool
 | _, [] => true
 | pre, a :: suf => if a = 0 ∨ ¬ (0 ≤ a ∧ a < (st.length : Int)) then false else if pre.all (pairP st (ownP st a)) = true then tgtF st (pre ++ [a]) suf else false
def tgtP (st : List Sta) (l : List Int) : Bool := if (l.length : Int) > 3 then false else tgtF st [] l
def kidsF (s : Int) : List Sta → Int → List Int
 | [], _ => []
 | x :: l, i => if x.f1 = s ∧ histP x.f0 = false then i :: kidsF s l (i + 1) else kidsF s l (i + 1)
def kidsP (st : List Sta) (s : Int) : List Int := kidsF s st 0
theorem kids_l0 (st : List Sta) (s : Int) (hn : st.length ≤ 1000000) : ∀ (suf pre : List Sta) (acc : List Int), st = pre ++ suf → acc.length ≤ pre.length →
  Ev (fun k => PAll.chart_Kids.l0 k s acc st (st.length : Int) (pre.length : Int)) (acc ++ kidsF s suf (pre.length : Int)) := by
 intro suf
 induction suf with
 | nil =>
  intro pre acc h _
  refine Ev.step (fun k => rfl) ?_
  simp only [PAll.chart_Kids.l0, kidsF, List.append_nil]
  exact ev_neg (by rw [h]; simp) (Ev.now _)
 | cons x suf ih =>
  intro pre acc h ha
  have hlen : st.length = pre.length + (suf.length + 1) := by rw [h]; simp
  have hrd : PAll.rd_T54 st (pre.length : Int) = x := by
   simp [PAll.rd_T54, List.getD_eq_getElem?_getD, h]
  have hw : wrap64 ((pre.length : Int) + 1) = ((pre ++ [x]).length : Int) := by rw [w64 (by omega) (by omega)]; simp
  have nx := fun acc' ha' => ih (pre ++ [x]) acc' (by rw [h]; simp) ha'
  have e1 : ((pre ++ [x]).length : Int) = (pre.length : Int) + 1 := by simp
  refine Ev.step (fun k => rfl) ?_
  simp only [PAll.chart_Kids.l0]
  rw [hrd, hw]
  refine ev_pos (by omega) (ev_pos (by omega) (ev_pos (by omega) ?_))
  by_cases c : x.f1 = s
  ·refine ev_pos c (ev_bind (hist_f _) ?_)
   cases hh : histP x.f0 with
   | true =>
    have e : kidsF s (x :: suf) (pre.length : Int) = kidsF s suf ((pre ++ [x]).length : Int) := by rw [e1]; simp only [kidsF]; rw [if_neg]; simp [hh]
    exact ev_is (by rw [e]) (ev_pos rfl (nx acc (by simp; omega)))
   | false =>
    have e : kidsF s (x :: suf) (pre.length : Int) = (pre.length : Int) :: kidsF s suf ((pre ++ [x]).length : Int) := by rw [e1]; simp only [kidsF]; rw [if_pos]; exact ⟨c, hh⟩
    have := nx (acc ++ [(pre.length : Int)]) (by simp; omega)
    exact ev_is (by rw [e]; simp) (ev_neg (by simp) (ev_pos (by omega) this))
  ·have e : kidsF s (x :: suf) (pre.length : Int) = kidsF s suf ((pre ++ [x]).length : Int) := by rw [e1]; simp only [kidsF]; rw [if_neg]; exact fun h => c h.1
   exact ev_is (by rw [e]) (ev_neg c (nx acc (by simp; omega)))
theorem kids_ev (st : List Sta) (tr : List Tra) (v s : Int) (hn : st.length ≤ 1000000) : Ev (fun k => PAll.chart_Kids.f k v st tr s) (kidsP st s) := by
 have := kids_l0 st s hn st [] [] rfl (by simp)
 rw [List.nil_append] at this
 exact this
theorem event_f (n : Int) : PAll.chart_event.f n = some (decide (1 ≤ n ∧ n ≤ 1000)) := by
 unfold PAll.chart_event.f
 by_cases h : n ≥ 1
 ·rw [if_pos h]; congr 1; by_cases h2 : n ≤ 1000 <;> simp [h2] <;> omega
 ·rw [if_neg h]; congr 1; simp; omega
end Go.Proofs.YtemoonhnncopoaaGreatDoor
end
section
namespace Go.Proofs.YtemoonhnncopoaaGreatDoor.PX
def takes (t : T) : Int :=
 if t.f2 ≠ 0 ∨ t.f1 < 0 then -1
 else if t.f0 = 1 ∨ (t.f0 = 2 ∧ t.f1 ≤ 25) then 0
 else if t.f1 ≠ 0 then -1
 else if t.f0 = 15 ∨ t.f0 = 16 then 0
 else if t.f0 = 14 ∨ t.f0 = 19 then 1
 else if 3 ≤ t.f0 ∧ t.f0 ≤ 13 then 2
 else -1
theorem takes_cases (t : T) : takes t = -1 ∨ takes t = 0 ∨ takes t = 1 ∨ takes t = 2 := by unfold takes; split <;> (try split) <;> (try split) <;> (try split) <;> (try split) <;> (try split) <;> simp
def mayGo : List T → Int → Option Int
 | [], n => some n
 | t :: p, n => if takes t < 0 ∨ takes t > n then none else mayGo p (n + (1 - takes t))
def may (p : List T) : Bool := decide (p.length ≤ 100) && (mayGo p 0 == some 1)
theorem mayGo_append (p q : List T) (n : Int) : mayGo (p ++ q) n = (mayGo p n).bind (mayGo q) := by
 induction p generalizing n with
 | nil => rfl
 | cons t p ih => simp only [List.cons_append, mayGo]; split <;> simp [ih]
theorem mayGo_snoc (p : List T) (t : T) (n m : Int) (h : mayGo p n = some m) : mayGo (p ++ [t]) n = if takes t < 0 ∨ takes t > m then none else some (m + (1 - takes t)) := by
 rw [mayGo_append, h]; simp only [Option.bind_some, mayGo]
inductive Tr where
 | leaf (t : T)
 | one (t : T) (a : Tr)
 | two (t : T) (a b : Tr)
namespace Tr
def flat : Tr → List T
 | leaf t => [t]
 | one t a => a.flat ++ [t]
 | two t a b => a.flat ++ b.flat ++ [t]
def wf : Tr → Prop
 | leaf t => takes t = 0
 | one t a => takes t = 1 ∧ a.wf
 | two t a b => takes t = 2 ∧ a.wf ∧ b.wf
end Tr
def flats : List Tr → List T
 | [] => []
 | x :: l => x.flat ++ flats l
theorem flats_append (a b : List Tr) : flats (a ++ b) = flats a ++ flats b := by
 induction a with
 | nil => rfl
 | cons x a ih => simp [flats, ih]
theorem flats_one (x : Tr) : flats [x] = x.flat := by simp [flats]
theorem two_last {α : Type} (l : List α) (h : 2 ≤ l.length) : ∃ l' a b, l = l' ++ [a, b] := by
 obtain ⟨r, b, rfl⟩ : ∃ r b, l = r ++ [b] := ⟨l.dropLast, l.getLast (by intro e; subst e; simp at h), (List.dropLast_concat_getLast _).symm⟩
 obtain ⟨r', a, rfl⟩ : ∃ r' a, r = r' ++ [a] := ⟨r.dropLast, r.getLast (by intro e; subst e; simp at h), (List.dropLast_concat_getLast _).symm⟩
 exact ⟨r', a, b, by simp⟩
theorem one_last {α : Type} (l : List α) (h : 1 ≤ l.length) : ∃ l' a, l = l' ++ [a] :=
 ⟨l.dropLast, l.getLast (by intro e; subst e; simp at h), (List.dropLast_concat_getLast _).symm⟩
theorem trees_of (p : List T) : ∀ (S : List Tr) (m : Int), (∀ x ∈ S, x.wf) → mayGo p S.length = some m → ∃ S' : List Tr, (∀ x ∈ S', x.wf) ∧ (S'.length : Int) = m ∧ flats S' = flats S ++ p := by
 induction p with
 | nil => intro S m hS h; simp only [mayGo, Option.some.injEq] at h; exact ⟨S, hS, h, by simp⟩
 | cons t p ih =>
  intro S m hS h
  simp only [mayGo] at h
  split at h
  ·cases h
  rename_i hc
  rcases takes_cases t with e | e | e | e
  ·exact absurd (.inl (by omega)) hc
  ·obtain ⟨S', h1, h2, h3⟩ := ih (S ++ [.leaf t]) m (by intro x hx; simp at hx; rcases hx with hx | rfl; exact hS x hx; exact e) (by simpa [e] using h)
   exact ⟨S', h1, h2, by rw [h3, flats_append, flats_one]; simp [Tr.flat]⟩
  ·obtain ⟨l, a, rfl⟩ := one_last S (by omega)
   obtain ⟨S', h1, h2, h3⟩ := ih (l ++ [.one t a]) m (by intro x hx; simp at hx; rcases hx with hx | rfl; exact hS x (by simp [hx]); exact ⟨e, hS a (by simp)⟩) (by simpa [e] using h)
   exact ⟨S', h1, h2, by rw [h3, flats_append, flats_append, flats_one, flats_one]; simp [Tr.flat]⟩
  ·obtain ⟨l, a, b, rfl⟩ := two_last S (by omega)
   obtain ⟨S', h1, h2, h3⟩ := ih (l ++ [.two t a b]) m (by intro x hx; simp at hx; rcases hx with hx | rfl; exact hS x (by simp [hx]); exact ⟨e, hS a (by simp), hS b (by simp)⟩) (by
    have e1 : ((l ++ [a, b]).length : Int) + (1 - takes t) = ((l ++ [Tr.two t a b]).length : Int) := by simp [e]; omega
    rw [← e1]; exact h)
   exact ⟨S', h1, h2, by rw [h3, flats_append, flats_append, flats_one]; simp [Tr.flat, flats]⟩
theorem tree_of {p : List T} (h : mayGo p 0 = some 1) : ∃ x : Tr, x.wf ∧ p = x.flat := by
 obtain ⟨S, h1, h2, h3⟩ := trees_of p [] 1 (by simp) (by simpa using h)
 obtain ⟨x, rfl⟩ : ∃ x, S = [x] := by
  match S, h2 with
  | [x], _ => exact ⟨x, rfl⟩
  | [], h2 => simp at h2
  | _ :: _ :: _, h2 => simp at h2; omega
 exact ⟨x, h1 x (by simp), by rw [flats_one] at h3; simpa [flats] using h3.symm⟩
section machine
variable {V : Type} (lf : T → Except Int V) (op1 : T → V → Except Int V) (op2 : T → V → V → Except Int V)
def step (t : T) (l : List V) : Except Int (List V) :=
 if takes t = 0 then (lf t).map fun v => l ++ [v]
 else if takes t = 1 then match l.getLast? with
  | some a => (op1 t a).map fun v => l.dropLast ++ [v]
  | none => .error 0
 else match l.getLast?, l.dropLast.getLast? with
  | some b, some a => (op2 t a b).map fun v => l.dropLast.dropLast ++ [v]
  | _, _ => .error 0
theorem step_leaf {t : T} (h : takes t = 0) (l : List V) : step lf op1 op2 t l = (lf t).map fun v => l ++ [v] := by simp [step, h]
theorem step_one {t : T} (h : takes t = 1) (l : List V) (a : V) : step lf op1 op2 t (l ++ [a]) = (op1 t a).map fun v => l ++ [v] := by simp [step, h]
theorem step_two {t : T} (h : takes t = 2) (l : List V) (a b : V) : step lf op1 op2 t (l ++ [a, b]) = (op2 t a b).map fun v => l ++ [v] := by
 have e : l ++ [a, b] = (l ++ [a]) ++ [b] := by simp
 rw [e]
 simp [step, h]
def runs : List T → List V → Except Int (List V)
 | [], l => .ok l
 | t :: p, l => (step lf op1 op2 t l).bind (runs p)
theorem runs_append (p q : List T) (l : List V) : runs lf op1 op2 (p ++ q) l = (runs lf op1 op2 p l).bind (runs lf op1 op2 q) := by
 induction p generalizing l with
 | nil => rfl
 | cons t p ih =>
  simp only [List.cons_append, runs]
  cases step lf op1 op2 t l with
  | error e => rfl
  | ok l' => exact ih l'
def val : Tr → Except Int V
 | .leaf t => lf t
 | .one t a => (val a).bind (op1 t)
 | .two t a b => (val a).bind fun x => (val b).bind fun y => op2 t x y
theorem runs_len (p : List T) : ∀ (l l' : List V) (m : Int), runs lf op1 op2 p l = .ok l' → mayGo p l.length = some m → (l'.length : Int) = m := by
 induction p with
 | nil => intro l l' m h h2; simp only [runs, Except.ok.injEq] at h; simp only [mayGo, Option.some.injEq] at h2; rw [← h]; exact h2
 | cons t p ih =>
  intro l l' m h h2
  simp only [mayGo] at h2
  split at h2
  ·cases h2
  rename_i hc
  simp only [runs] at h
  cases hs : step lf op1 op2 t l with
  | error e => rw [hs] at h; cases h
  | ok l1 =>
   rw [hs] at h
   have hl : (l1.length : Int) = l.length + (1 - takes t) := by
    rcases takes_cases t with e | e | e | e
    ·exact absurd (.inl (by omega)) hc
    ·rw [step_leaf _ _ _ e] at hs
     cases hv : lf t with
     | error e => rw [hv] at hs; cases hs
     | ok v => rw [hv] at hs; simp only [Except.map, Except.ok.injEq] at hs; rw [← hs, e]; simp
    ·obtain ⟨r, a, rfl⟩ := one_last l (by omega)
     rw [step_one _ _ _ e] at hs
     cases hv : op1 t a with
     | error e => rw [hv] at hs; cases hs
     | ok v => rw [hv] at hs; simp only [Except.map, Except.ok.injEq] at hs; rw [← hs, e]; simp
    ·obtain ⟨r, a, b, rfl⟩ := two_last l (by omega)
     rw [step_two _ _ _ e] at hs
     cases hv : op2 t a b with
     | error e => rw [hv] at hs; cases hs
     | ok v => rw [hv] at hs; simp only [Except.map, Except.ok.injEq] at hs; rw [← hs, e]; simp; omega
   exact ih l1 l' m h (by rw [hl]; exact h2)
theorem mayGo_take {p : List T} {n m : Int} (h : mayGo p n = some m) (q : Nat) : ∃ k, mayGo (p.take q) n = some k := by
 have e : p = p.take q ++ p.drop q := (List.take_append_drop q p).symm
 rw [e, mayGo_append] at h
 cases hk : mayGo (p.take q) n with
 | none => rw [hk] at h; cases h
 | some k => exact ⟨k, rfl⟩
theorem may_at {p : List T} (h : mayGo p 0 = some 1) (q : Nat) (hq : q < p.length) {l : List V} (hr : runs lf op1 op2 (p.take q) [] = .ok l) :
  0 ≤ takes p[q] ∧ takes p[q] ≤ l.length := by
 obtain ⟨k, hk⟩ := mayGo_take h q
 have hl := runs_len lf op1 op2 (p.take q) [] l k hr hk
 obtain ⟨k', hk'⟩ := mayGo_take h (q + 1)
 rw [List.take_succ_eq_append_getElem hq, mayGo_snoc _ _ _ _ hk] at hk'
 split at hk'
 ·cases hk'
 ·rename_i hc; omega
theorem runs_snoc (p : List T) (q : Nat) (hq : q < p.length) {l : List V} (hr : runs lf op1 op2 (p.take q) [] = .ok l) : runs lf op1 op2 (p.take (q + 1)) [] = step lf op1 op2 p[q] l := by
 rw [List.take_succ_eq_append_getElem hq, runs_append, hr]
 simp only [Except.bind, runs]
 cases step lf op1 op2 p[q] l <;> rfl
theorem runs_fail (p : List T) (q : Nat) {e : Int} (hr : runs lf op1 op2 (p.take q) [] = .error e) : runs lf op1 op2 p [] = .error e := by
 have h : p = p.take q ++ p.drop q := (List.take_append_drop q p).symm
 rw [h, runs_append, hr]
 rfl
def value (p : List T) : Except Int V := (runs lf op1 op2 p []).bind fun l => match l with | v :: _ => .ok v | [] => .error 0
end machine
end Go.Proofs.YtemoonhnncopoaaGreatDoor.PX
end
section
namespace Go.Proofs.YtemoonhnncopoaaGreatDoor
open Go.RowKit
theorem laid3 {w w2 : World} {x y z : Value} {t : TypeId} (hb : Below (w.alloc (.cells #[x, y, z] t)).heap.size (w.alloc (.cells #[x, y, z] t)) w2) :
  w2.cell? ⟨w.heap.size, 0, none⟩ = some x ∧ w2.cell? ⟨w.heap.size, 1, none⟩ = some y ∧ w2.cell? ⟨w.heap.size, 2, none⟩ = some z ∧
   w2.frozen? ⟨w.heap.size, 0, none⟩ = false ∧ w2.frozen? ⟨w.heap.size, 1, none⟩ = false ∧ w2.frozen? ⟨w.heap.size, 2, none⟩ = false ∧ w.heap.size < w2.heap.size ∧ Below w.heap.size w w2 := by
 have h := (hb.block w.heap.size (by simp)).trans (blk_new _ _)
 have hz := hb.size
 simp at hz
 exact ⟨blk_cell h 0, blk_cell h 1, blk_cell h 2, blk_free h 0, blk_free h 1, blk_free h 2, by omega, ((Below.refl _ _).alloc (Nat.le_refl _) _).trans (hb.mono (by simp))⟩
theorem below_set3 {B g : Nat} {w W : World} (h : Below B w W) (hB : B ≤ g) (a b c : Value) : Below B w (((W.setCell ⟨g, 0, none⟩ a).setCell ⟨g, 1, none⟩ b).setCell ⟨g, 2, none⟩ c) :=
 ((h.setCell hB _).setCell hB _).setCell hB _
theorem below_then {B : Nat} {w w1 w2 : World} (h : Below B w w1) (hB : B ≤ w1.heap.size) (k : Below w1.heap.size w1 w2) : Below B w w2 := h.trans (k.mono hB)
theorem below_drewN' {B : Nat} {w w' : World} (h : Below B w w') (n : Nat) : Below B w (w'.drewN n) := by
 induction n generalizing w' with
 | zero => exact h
 | succ n ih =>
  have := ih h.drew
  rw [World.drewN_drew, Nat.add_comm] at this
  exact this
end Go.Proofs.YtemoonhnncopoaaGreatDoor
end
section
namespace Go.Proofs.YtemoonhnncopoaaGreatDoor
open Go.RowKit PX Go.Proofs.YtemoonhnncopoaaGreatDoorW.PrintWords
abbrev Toks (w : World) (B : Nat) (v : Value) (l : List T) : Prop := Kd.R PAll.k91 91 w B (fun _ => True) v l
abbrev ToksC (w : World) (A : Option Addr) (n : Nat) (l : List T) : Prop := Kd.C PAll.k91 w A n l
section
variable {P : Program} {ops : Array Oper} {rest : List Oper} {o : Oper} {a : Act} {Q : Exit → Act → World → Prop}
theorem tok_append {W : World} (hgd : o.guard = none) (s x : Operand)
  (ho : o.op = .call { callee := .builtin .append, args := #[s, x], argTypes := #[92, 92] })
  (B : Nat) (v : Value) (xs : List T) (k n c : Int) (hs : a.eval s = v) (N : Nat) (hx : a.eval x = .slice (some ⟨N, 0, none⟩) 1 1) (hN : N = W.heap.size)
  (HO : Toks W B v xs) (hB : B ≤ W.heap.size) (hl : xs.length < 1000000)
  (h : ∀ v1 w1, Toks w1 B v1 (xs ++ [⟨k, n, c⟩]) → W.grownBy w1 v.ownBlock → (v1.ownBlock = v.ownBlock ∨ ∃ b, v1.ownBlock = some b ∧ W.heap.size ≤ b) → wpList Tryz.prog ops Q rest (a.put o.dst v1) w1) :
  wpList Tryz.prog ops Q (o :: rest) a (W.alloc (.cells #[.int .i64 k, .int .i64 n, .int .i64 c] 91)) := by
 subst hN
 refine Kd.R_append PAll.k91 (w0 := W) B hgd s x 92 91 (.agg #[(.int .i64 0), (.int .i64 0), (.int .i64 0)]) 24 ho Tryz.underlying92 PAll.info91 rfl (by decide) (by omega) v xs (⟨k, n, c⟩ : T) [.int .i64 k, .int .i64 n, .int .i64 c]
  (fun _ => True) (fun _ => False) hs hx (PAll.k91_mkM _ _ _ (⟨k, n, c⟩ : T)) (fun _ hk => hk.elim) (fun _ _ => trivial) HO (Below.refl _ _) hB (by omega) ?_
 intro v1 w1 h1 _ h3 h4
 exact h v1 w1 h1 h3 h4
end
inductive Er where
 | none
 | code (c : Int)
 | spot (at_ c : Int)
def ErV (B : Nat) (w : World) (v : Value) : Er → Prop
 | .none => v = .nilIface
 | .code c => v = .iface 93 (.int .i64 c)
 | .spot a c => ∃ g, v = .iface 126 (.pointer (some ⟨g, 0, none⟩)) ∧ B ≤ g ∧ w.heap[g]? = some (.cells #[.int .i64 a, .int .i64 c] 128 (0, 0))
end Go.Proofs.YtemoonhnncopoaaGreatDoor
end
section
namespace Go.Proofs.YtemoonhnncopoaaGreatDoor.PX
structure St where
 at_ : Nat
 out : List T
 bad : Bool
namespace St
def adv (s : St) : St := { s with at_ := s.at_ + 1 }
def put (s : St) (k n : Int) : St := { s with out := s.out ++ [⟨k, n, 0⟩] }
def fail (s : St) : St := { s with bad := true }
def see (l : List T) (s : St) : Int := if s.bad = true ∨ l.length ≤ s.at_ then 0 else (l[s.at_]?.getD ⟨0, 0, 0⟩).f0
def num (l : List T) (s : St) : Int := (l[s.at_]?.getD ⟨0, 0, 0⟩).f1
end St
def level (k : Int) : Nat := if k = 13 then 1 else if k = 12 then 2 else if 8 ≤ k ∧ k ≤ 11 then 3 else if k = 3 ∨ k = 4 then 4 else if 5 ≤ k ∧ k ≤ 7 then 5 else 0
inductive Pr (l : List T) : Bool → Nat → St → St → Prop
 | row {v : Nat} {s s1 s2 : St} (hv : v = 1 ∨ v = 2 ∨ v = 4 ∨ v = 5) (h1 : Pr l false (v + 1) s s1) (h2 : Pr l true v s1 s2) : Pr l false v s s2
 | stop {v : Nat} {s : St} (h : level (s.see l) ≠ v) : Pr l true v s s
 | more {v : Nat} {s s1 s2 : St} (h : level (s.see l) = v) (h1 : Pr l false (v + 1) s.adv s1) (h2 : Pr l true v (s1.put (s.see l) 0) s2) : Pr l true v s s2
 | not_ {s s1 : St} (h : s.see l = 14) (h1 : Pr l false 3 s.adv s1) : Pr l false 3 s (s1.put 14 0)
 | sum {s s1 : St} (h : s.see l ≠ 14) (h1 : Pr l false 4 s s1) (h2 : level (s1.see l) ≠ 3) : Pr l false 3 s s1
 | cmp {s s1 s2 : St} (h : s.see l ≠ 14) (h1 : Pr l false 4 s s1) (h2 : level (s1.see l) = 3) (h3 : Pr l false 4 s1.adv s2) : Pr l false 3 s (s2.put (s1.see l) 0)
 | neg {s s1 : St} (h : s.see l = 4) (h1 : Pr l false 6 s.adv s1) : Pr l false 6 s (s1.put 19 0)
 | leaf {s : St} (h : s.see l = 1 ∨ s.see l = 2 ∨ s.see l = 15 ∨ s.see l = 16) : Pr l false 6 s (s.adv.put (s.see l) (s.num l))
 | open_ {s s1 : St} (h : s.see l = 17) (h1 : Pr l false 1 s.adv s1) (h2 : s1.see l = 18) : Pr l false 6 s s1.adv
 | openBad {s s1 : St} (h : s.see l = 17) (h1 : Pr l false 1 s.adv s1) (h2 : s1.see l ≠ 18) : Pr l false 6 s s1.fail
 | none_ {s : St} (h : ¬(s.see l = 4 ∨ s.see l = 1 ∨ s.see l = 2 ∨ s.see l = 15 ∨ s.see l = 16 ∨ s.see l = 17)) : Pr l false 6 s s.fail
theorem see_lt {l : List T} {s : St} (h : s.see l ≠ 0) : s.at_ < l.length := by
 unfold St.see at h; split at h
 ·exact absurd rfl h
 ·rename_i hc; omega
theorem see_at {l : List T} {s : St} {k : Int} (h : s.see l = k) (hk : k ≠ 0) : s.at_ < l.length := see_lt (by omega)
theorem level_see {k : Int} {v : Nat} (h : level k = v) (hv : v ≠ 0) : k ≠ 0 := by
 rintro rfl; simp [level] at h; omega
theorem adv_at (s : St) : s.adv.at_ = s.at_ + 1 := rfl
theorem adv_out (s : St) : s.adv.out = s.out := rfl
theorem put_at (s : St) (k n : Int) : (s.put k n).at_ = s.at_ := rfl
theorem put_out (s : St) (k n : Int) : (s.put k n).out.length = s.out.length + 1 := by simp [St.put]
theorem fail_at (s : St) : s.fail.at_ = s.at_ := rfl
theorem fail_out (s : St) : s.fail.out = s.out := rfl
theorem Pr.le {l : List T} {b : Bool} {v : Nat} {s s' : St} (h : Pr l b v s s') (hv : v ≠ 0) (hs : s.at_ ≤ l.length) : s.at_ ≤ s'.at_ ∧ s'.at_ ≤ l.length ∧ s'.out.length + s.at_ ≤ s.out.length + s'.at_ := by
 induction h with
 | row _ h1 h2 i1 i2 => have := i1 (by omega) hs; have := i2 hv (by omega); omega
 | stop h => omega
 | more h h1 h2 i1 i2 =>
  have := see_lt (level_see h hv)
  have a := i1 (by omega) (by rw [adv_at]; omega)
  have b := i2 hv (by rw [put_at]; omega)
  simp only [adv_at, adv_out, put_at, put_out] at a b ⊢; omega
 | not_ h h1 i1 =>
  have := see_at h (by omega)
  have a := i1 (by omega) (by rw [adv_at]; omega)
  simp only [adv_at, adv_out, put_at, put_out] at a ⊢; omega
 | sum h h1 h2 i1 => exact i1 (by omega) hs
 | cmp h h1 h2 h3 i1 i3 =>
  have a := i1 (by omega) hs
  have := see_lt (level_see h2 (by omega))
  have b := i3 (by omega) (by rw [adv_at]; omega)
  simp only [adv_at, adv_out, put_at, put_out] at a b ⊢; omega
 | neg h h1 i1 =>
  have := see_at h (by omega)
  have a := i1 (by omega) (by rw [adv_at]; omega)
  simp only [adv_at, adv_out, put_at, put_out] at a ⊢; omega
 | leaf h =>
  have := see_lt (l := l) (fun e => by rw [e] at h; omega)
  simp only [adv_at, adv_out, put_at, put_out]; omega
 | open_ h h1 h2 i1 =>
  have := see_at h (by omega)
  have a := i1 (by omega) (by rw [adv_at]; omega)
  have := see_at h2 (by omega)
  simp only [adv_at, adv_out] at a ⊢; omega
 | openBad h h1 h2 i1 =>
  have := see_at h (by omega)
  have a := i1 (by omega) (by rw [adv_at]; omega)
  simp only [adv_at, adv_out, fail_at, fail_out] at a ⊢; omega
 | none_ h => simp only [fail_at, fail_out]; omega
end Go.Proofs.YtemoonhnncopoaaGreatDoor.PX
end
section
namespace Go.Proofs.YtemoonhnncopoaaGreatDoor
open Go.RowKit PX Go.Proofs.YtemoonhnncopoaaGreatDoorW.PrintWords
theorem takes0 {t : T} (h : takes t = 0) : (t.f0 = 1 ∨ t.f0 = 2 ∨ t.f0 = 15 ∨ t.f0 = 16) ∧ 0 ≤ t.f1 ∧ (t.f0 = 2 → t.f1 ≤ 25) := by
 unfold takes at h
 split at h
 ·cases h
 ·split at h
  ·omega
  ·split at h
   ·cases h
   ·split at h
    ·omega
    ·split at h
     ·cases h
     ·split at h <;> cases h
theorem takes1 {t : T} (h : takes t = 1) : t.f0 = 14 ∨ t.f0 = 19 := by
 unfold takes at h
 split at h
 ·cases h
 ·split at h
  ·cases h
  ·split at h
   ·cases h
   ·split at h
    ·cases h
    ·split at h
     ·omega
     ·split at h <;> cases h
theorem takes2 {t : T} (h : takes t = 2) : 3 ≤ t.f0 ∧ t.f0 ≤ 13 := by
 unfold takes at h
 split at h
 ·cases h
 ·split at h
  ·cases h
  ·split at h
   ·cases h
   ·split at h
    ·cases h
    ·split at h
     ·cases h
     ·split at h
      ·omega
      ·cases h
theorem takes_f (K : Nat) (k n c : Int) : PAll.parse_takes.f (K + 5) k n c = some (takes ⟨k, n, c⟩) := by
 simp only [PAll.parse_takes.f, PAll.parse_takes.j0, PAll.parse_takes.j1, PAll.parse_takes.j2, PAll.parse_takes.j3, takes, decide_eq_true_eq, beq_iff_eq, if_true, if_false, Bool.false_eq_true]
 by_cases h1 : c = 0
 ·by_cases h2 : n < 0
  ·simp [h1, h2]
  ·by_cases h3 : k = 1
   ·simp [h1, h2, h3]
   ·by_cases h4 : k = 2
    ·subst h4
     by_cases h5 : n ≤ 25
     ·simp [h1, h2, h5]
     ·have h6 : n ≠ 0 := by omega
      simp [h1, h2, h5, h6]
    ·by_cases h6 : n = 0
     ·subst h6
      by_cases a15 : k = 15
      ·subst a15; simp [h1]
      by_cases a16 : k = 16
      ·subst a16; simp [h1]
      by_cases a14 : k = 14
      ·subst a14; simp [h1]
      by_cases a19 : k = 19
      ·subst a19; simp [h1]
      by_cases a3 : 3 ≤ k
      ·by_cases a13 : k ≤ 13
       ·simp [h1, h3, h4, a15, a16, a14, a19, a3, a13]
       ·simp [h1, h3, h4, a15, a16, a14, a19, a3, a13]
      ·simp [h1, h3, h4, a15, a16, a14, a19, a3]
     ·simp [h1, h2, h3, h4, h6]
 ·simp [h1]
theorem mayL_ev (l : List T) (hl : l.length ≤ 100) (d : Nat) : ∀ (q : Nat) (n : Int), q ≤ l.length → l.length - q = d → 0 ≤ n → n ≤ q → Ev (fun k => PAll.parse_May.l0 k n l l.length q) (mayGo (l.drop q) n == some 1) := by
 induction d with
 | zero =>
  intro q n hq hd hn hn2
  obtain rfl : q = l.length := by omega
  refine Ev.step (fun k => rfl) ?_
  simp only [PAll.parse_May.l0]
  refine ev_neg (by omega) ?_
  rw [List.drop_of_length_le (Nat.le_refl _)]
  have e : (mayGo [] n == some 1) = (n == 1) := by simp [mayGo]
  rw [e]
  exact Ev.now _
 | succ d ih =>
  intro q n hq hd hn hn2
  have hlt : q < l.length := by omega
  refine Ev.step (fun k => rfl) ?_
  simp only [PAll.parse_May.l0]
  refine ev_pos (by omega) (ev_pos (by omega) (ev_pos (by omega) ?_))
  have hti : PAll.rd_T91 l q = l[q] := by simp [PAll.rd_T91, List.getD_eq_getElem?_getD, List.getElem?_eq_getElem hlt]
  rw [hti, List.drop_eq_getElem_cons hlt]
  simp only [mayGo]
  have ht : Ev (fun k => PAll.parse_takes.f k l[q].f0 l[q].f1 l[q].f2) (takes l[q]) := Ev.of (fun k => PAll.parse_takes.mono _ _ _ k) (takes_f 0 _ _ _)
  refine Ev.bind ht ?_
  have hc := takes_cases l[q]
  by_cases h0 : takes l[q] < 0
  ·refine ev_pos h0 ?_
   rw [if_pos (.inl h0)]
   exact Ev.now _
  ·refine ev_neg h0 ?_
   by_cases h1 : takes l[q] > n
   ·refine ev_pos h1 ?_
    rw [if_pos (.inr h1)]
    exact Ev.now _
   ·refine ev_neg h1 ?_
    have e1 : wrap64 (1 - takes l[q]) = 1 - takes l[q] := w64 (by omega) (by omega)
    rw [if_neg (by omega), e1, w64 (by omega) (by omega), w64 (by omega) (by omega)]
    have := ih (q + 1) (n + (1 - takes l[q])) (by omega) (by omega) (by omega) (by omega)
    exact this
theorem may_f (l : List T) : ∃ k, PAll.parse_May.f k l = some (may l) := by
 by_cases h : l.length ≤ 100
 ·have := mayL_ev l h l.length 0 0 (by omega) (by omega) (by omega) (by omega)
  obtain ⟨k, hk⟩ := Ev.rounds this
  refine ⟨k, ?_⟩
  unfold PAll.parse_May.f
  rw [if_neg (by omega)]
  simpa [may, h] using hk
 ·refine ⟨0, ?_⟩
  unfold PAll.parse_May.f
  rw [if_pos (by omega)]
  simp [may, h]
theorem may_any (A : Option Addr) (c : Nat) (l : List T) (w : World) (hC : ToksC w A l.length l) (hc : l.length ≤ c) :
  Calls Tryz.prog 108 #[.slice A l.length c] w fun e w' => e = .returned (.bool (may l)) ∧ Below w.heap.size w w' := by
 obtain ⟨k, hk⟩ := may_f l
 exact PAll.parse_May.calls k A c l _ w hC hc hk
end Go.Proofs.YtemoonhnncopoaaGreatDoor
end
section
namespace Go.Proofs.YtemoonhnncopoaaGreatDoor
open Go.RowKit Go.Proofs.YtemoonhnncopoaaGreatDoorW.PrintWords
open PX (T V Tr takes runs val value mayGo may tree_of takes_cases)
def truthV (b : Bool) : V := (2, if b then 1 else 0)
def wholeV (n : Int) : V := (1, n)
def lookV (typed : Bool) (vars : Int) (env : List Int) (v : Int) : Option Int :=
 if typed then if v < vars then some 0 else none else if v < env.length then some (rd env v) else none
def leafE (look : Int → Option Int) (t : T) : Except Int V :=
 if t.f0 = 1 then .ok (wholeV t.f1) else if t.f0 = 2 then (match look t.f1 with | some n => .ok (wholeV n) | none => .error 4) else .ok (truthV (t.f0 == 15))
def oneE (t : T) (a : V) : Except Int V :=
 if t.f0 = 19 ∧ a.1 = 1 then .ok (wholeV (wrap64 (-a.2))) else if t.f0 = 14 ∧ a.1 = 2 then .ok (truthV (a.2 == 0)) else .error 8
def numE (k a b : Int) : Except Int V :=
 if k = 3 then .ok (wholeV (wrap64 (a + b))) else if k = 4 then .ok (wholeV (wrap64 (a - b))) else if k = 5 then .ok (wholeV (wrap64 (a * b)))
 else if k = 6 then (if b = 0 then .error 9 else .ok (wholeV (wrap64 (a.tdiv b)))) else if k = 7 then (if b = 0 then .error 9 else .ok (wholeV (a.tmod b)))
 else if k = 8 then .ok (truthV (decide (a < b))) else if k = 9 then .ok (truthV (decide (a ≤ b))) else .error 8
def bothE (k : Int) (a b : V) : Except Int V :=
 if a.1 ≠ b.1 then .error 8 else if k = 10 then .ok (truthV (a.2 == b.2)) else if k = 11 then .ok (truthV (!(a.2 == b.2)))
 else if a.1 = 1 then numE k a.2 b.2
 else if k = 12 then .ok (truthV (decide (wrap64 (a.2 + b.2) > 1))) else if k = 13 then .ok (truthV (decide (wrap64 (a.2 + b.2) > 0))) else .error 8
def zeroE (typed : Bool) : Except Int V → Except Int V
 | .error e => if e = 9 ∧ typed = true then .ok (wholeV 0) else .error e
 | .ok v => .ok v
def twoE (typed : Bool) (t : T) (a b : V) : Except Int V := zeroE typed (bothE t.f0 a b)
abbrev runsE (look : Int → Option Int) (typed : Bool) := runs (leafE look) oneE (twoE typed)
abbrev stepE (look : Int → Option Int) (typed : Bool) := PX.step (leafE look) oneE (twoE typed)
abbrev valueE (look : Int → Option Int) (typed : Bool) := value (leafE look) oneE (twoE typed)
end Go.Proofs.YtemoonhnncopoaaGreatDoor
end
section
namespace Go.Proofs.YtemoonhnncopoaaGreatDoor
open Go.RowKit Go.Proofs.YtemoonhnncopoaaGreatDoorW.PrintWords
open PX (T V)
theorem laid2 {w w2 : World} {x y : Value} {t : TypeId} (hb : Below (w.alloc (.cells #[x, y] t)).heap.size (w.alloc (.cells #[x, y] t)) w2) :
  w2.heap[w.heap.size]? = some (.cells #[x, y] t (0, 0)) ∧ w2.cell? ⟨w.heap.size, 0, none⟩ = some x ∧ w2.cell? ⟨w.heap.size, 1, none⟩ = some y ∧
   w2.frozen? ⟨w.heap.size, 0, none⟩ = false ∧ w2.frozen? ⟨w.heap.size, 1, none⟩ = false ∧ w.heap.size < w2.heap.size ∧ Below w.heap.size w w2 := by
 have h := (hb.block w.heap.size (by simp)).trans (blk_new _ _)
 have hz := hb.size
 simp at hz
 exact ⟨h, blk_cell h 0, blk_cell h 1, blk_free h 0, blk_free h 1, by omega, ((Below.refl _ _).alloc (Nat.le_refl _) _).trans (hb.mono (by simp))⟩
theorem below_set2 {B g : Nat} {w W : World} (h : Below B w W) (hB : B ≤ g) (a b : Value) : Below B w ((W.setCell ⟨g, 0, none⟩ a).setCell ⟨g, 1, none⟩ b) :=
 (h.setCell hB _).setCell hB _
theorem blk_set2 {w : World} {g : Nat} {x y : Value} {t : TypeId} {fr : Nat × Nat} (h : w.heap[g]? = some (.cells #[x, y] t fr)) (a b : Value) : ((w.setCell ⟨g, 0, none⟩ a).setCell ⟨g, 1, none⟩ b).heap[g]? = some (.cells #[a, b] t fr) :=
 blk_set (blk_set h 0 a) 1 b
def agV (v : V) : Value := .agg #[.int .i64 v.1, .int .i64 v.2]
def retE (e : Except Int V) : Value := match e with | .ok v => .tuple #[agV v, .nilIface] | .error c => .tuple #[agV (0, 0), .iface 93 (.int .i64 c)]
theorem whole_any (n : Int) (w : World) : Calls Tryz.prog 112 #[.int .i64 n] w fun e w' => e = .returned (agV (wholeV n)) ∧ Below w.heap.size w w' :=
 PAll.expr_whole.calls n 1 n w rfl
theorem truth_any (b : Bool) (w : World) : Calls Tryz.prog 143 #[.bool b] w fun e w' => e = .returned (agV (truthV b)) ∧ Below w.heap.size w w' :=
 (PAll.expr_truth.calls b 2 (if b then 1 else 0) w (by cases b <;> rfl))
theorem alone_f (k : Int) (a : V) : PAll.expr_alone.f 3 k a.1 a.2 = some (match oneE ⟨k, 0, 0⟩ a with | .ok v => (v.1, v.2, none) | .error c => (0, 0, some c)) := by
 simp only [PAll.expr_alone.f, PAll.expr_alone.j0, PAll.num_Neg.f, PAll.expr_whole.f, PAll.expr_truth.f, oneE, Option.bind_some, beq_iff_eq]
 by_cases h19 : k = 19
 ·subst h19
  by_cases h1 : a.1 = 1
  ·simp [h1, wholeV]
  ·simp [h1]
 ·by_cases h14 : k = 14
  ·subst h14
   by_cases h2 : a.1 = 2
   ·by_cases h0 : a.2 = 0
    ·simp [h2, h0, truthV]
    ·simp [h2, h0, truthV]
   ·simp [h2]
  ·simp [h19, h14]
theorem oneE_kind (t : T) (a : V) : oneE t a = oneE ⟨t.f0, 0, 0⟩ a := rfl
theorem alone_any (k : Int) (a : V) (w : World) : Calls Tryz.prog 110 #[.int .i64 k, agV a] w fun e w' => e = .returned (retE (oneE ⟨k, 0, 0⟩ a)) ∧ Below w.heap.size w w' := by
 have h := alone_f k a
 cases hx : oneE ⟨k, 0, 0⟩ a with
 | ok v => rw [hx] at h; exact PAll.expr_alone.calls 3 k a.1 a.2 _ _ _ w h
 | error c => rw [hx] at h; exact PAll.expr_alone.calls 3 k a.1 a.2 _ _ _ w h
theorem run_add (args : Array Value) (w : World) : (callFunc 166 args).run Tryz.prog w = .ok (.enter 166 args) w := by
 simp [callFunc, Tryz.func166]; rfl
theorem run_sub (args : Array Value) (w : World) : (callFunc 167 args).run Tryz.prog w = .ok (.enter 167 args) w := by
 simp [callFunc, Tryz.func167]; rfl
theorem run_mul (args : Array Value) (w : World) : (callFunc 168 args).run Tryz.prog w = .ok (.enter 168 args) w := by
 simp [callFunc, Tryz.func168]; rfl
theorem run_div (args : Array Value) (w : World) : (callFunc 169 args).run Tryz.prog w = .ok (.enter 169 args) w := by
 simp [callFunc, Tryz.func169]; rfl
theorem run_mod (args : Array Value) (w : World) : (callFunc 170 args).run Tryz.prog w = .ok (.enter 170 args) w := by
 simp [callFunc, Tryz.func170]; rfl
theorem plain_any (f : FuncId) (hrun : ∀ (args : Array Value) (w : World), (callFunc f args).run Tryz.prog w = .ok (.enter f args) w) (a b r : Int) (hf : ∀ w, Calls Tryz.prog f #[.int .i64 a, .int .i64 b] w fun e w' => e = .returned (.int .i64 r) ∧ Below w.heap.size w w')
  (ga gb : Nat) (w : World) (ha : w.cell? ⟨ga, 0, none⟩ = some (.int .i64 a)) (hb : w.cell? ⟨gb, 0, none⟩ = some (.int .i64 b)) :
  Calls Tryz.prog 164 #[.func (.func f) #[] #[], .pointer (some ⟨ga, 0, none⟩), .pointer (some ⟨gb, 0, none⟩)] w fun e w' => e = .returned (retE (.ok (wholeV r))) ∧ Below w.heap.size w w' := by
 have HF := Lib.hid hf
 clear hf
 have a' := (((Below.refl w.heap.size w).alloc (Nat.le_refl _) (.cells #[.int .i64 0, .int .i64 0] 35)).cell (p := ⟨ga, 0, none⟩) (World.block_lt_of_cell? w _ ha)).trans ha
 have b' := (((Below.refl w.heap.size w).alloc (Nat.le_refl _) (.cells #[.int .i64 0, .int .i64 0] 35)).cell (p := ⟨gb, 0, none⟩) (World.block_lt_of_cell? w _ hb)).trans hb
 go_enter Tryz.func164, Tryz.ntmps164
 go_wp2_with fail
 refine (HF.out _).mono ?_
 rintro e w1 ⟨rfl, hb1⟩
 go_wp2_with fail
 refine (whole_any _ _).mono ?_
 rintro e w2 ⟨rfl, hb2⟩
 obtain ⟨hk, c0, c1, f0, f1, hlt, hbw⟩ := laid2 (hb1.trans (hb2.mono hb1.size))
 have HK := Lib.hid hk
 clear hk hb1 hb2 a' b'
 simp only [agV, wholeV]
 go_wp2_with fail
 refine bodyPost_ret (results_ct rfl _ _ w.heap.size 35 #[.int .i64 _, .int .i64 _] (0, 0) _ rfl (blk_set2 HK.out _ _) Tryz.underlying35 rfl (by kernel_rfl)) rfl ?_
 exact ⟨rfl, below_set2 hbw (Nat.le_refl _) _ _⟩
def optE (r : Int) (c : Option Int) : Except Int V := match c with | none => .ok (wholeV r) | some x => .error x
def errOf (e : Option Int) : Value := match e with | none => .nilIface | some c => .iface 93 (.int .i64 c)
theorem run_plain (args : Array Value) (w : World) : (callFunc 164 args).run Tryz.prog w = .ok (.enter 164 args) w := by
 simp [callFunc, Tryz.func164]; rfl
theorem run_part (args : Array Value) (w : World) : (callFunc 165 args).run Tryz.prog w = .ok (.enter 165 args) w := by
 simp [callFunc, Tryz.func165]; rfl
theorem part_any (f : FuncId) (hrun : ∀ (args : Array Value) (w : World), (callFunc f args).run Tryz.prog w = .ok (.enter f args) w) (a b r : Int) (c : Option Int) (hf : ∀ w, Calls Tryz.prog f #[.int .i64 a, .int .i64 b] w fun e w' => e = .returned (.tuple #[.int .i64 r, errOf c]) ∧ Below w.heap.size w w')
  (ga gb : Nat) (w : World) (ha : w.cell? ⟨ga, 0, none⟩ = some (.int .i64 a)) (hb : w.cell? ⟨gb, 0, none⟩ = some (.int .i64 b)) :
  Calls Tryz.prog 165 #[.func (.func f) #[] #[], .pointer (some ⟨ga, 0, none⟩), .pointer (some ⟨gb, 0, none⟩)] w fun e w' => e = .returned (retE (optE r c)) ∧ Below w.heap.size w w' := by
 have HF := Lib.hid hf
 clear hf
 have a' := (((Below.refl w.heap.size w).alloc (Nat.le_refl _) (.cells #[.int .i64 0, .int .i64 0] 35)).cell (p := ⟨ga, 0, none⟩) (World.block_lt_of_cell? w _ ha)).trans ha
 have b' := (((Below.refl w.heap.size w).alloc (Nat.le_refl _) (.cells #[.int .i64 0, .int .i64 0] 35)).cell (p := ⟨gb, 0, none⟩) (World.block_lt_of_cell? w _ hb)).trans hb
 cases c with
 | none =>
  go_enter Tryz.func165, Tryz.ntmps165
  go_wp2_with fail
  refine (HF.out _).mono ?_
  rintro e w1 ⟨rfl, hb1⟩
  simp only [errOf]
  go_wp2_with fail
  refine (whole_any _ _).mono ?_
  rintro e w2 ⟨rfl, hb2⟩
  obtain ⟨hk, c0, c1, f0, f1, hlt, hbw⟩ := laid2 (hb1.trans (hb2.mono hb1.size))
  have HK := Lib.hid hk
  clear hk hb1 hb2 a' b'
  simp only [agV, wholeV]
  go_wp2_with fail
  refine bodyPost_ret (results_ct rfl _ _ w.heap.size 35 #[.int .i64 _, .int .i64 _] (0, 0) _ rfl (blk_set2 HK.out _ _) Tryz.underlying35 rfl (by kernel_rfl)) rfl ?_
  exact ⟨rfl, below_set2 hbw (Nat.le_refl _) _ _⟩
 | some x =>
  go_enter Tryz.func165, Tryz.ntmps165
  go_wp2_with fail
  refine (HF.out _).mono ?_
  rintro e w1 ⟨rfl, hb1⟩
  simp only [errOf]
  obtain ⟨hk, c0, c1, f0, f1, hlt, hbw⟩ := laid2 hb1
  have HK := Lib.hid hk
  clear hk hb1 a' b'
  go_wp2_with fail
  refine bodyPost_ret (results_ct rfl _ _ w.heap.size 35 #[.int .i64 _, .int .i64 _] (0, 0) _ rfl (blk_set2 HK.out _ _) Tryz.underlying35 rfl (by kernel_rfl)) rfl ?_
  exact ⟨rfl, below_set2 hbw (Nat.le_refl _) _ _⟩
theorem laid112 {w w2 : World} {x y : Value} {t t' : TypeId} {z : Value} {z' : Value}
  (hb : Below (((w.alloc (.cells #[x] t)).alloc (.cells #[y] t)).alloc (.cells #[z, z'] t')).heap.size (((w.alloc (.cells #[x] t)).alloc (.cells #[y] t)).alloc (.cells #[z, z'] t')) w2) :
  w2.heap[w.heap.size + 1 + 1]? = some (.cells #[z, z'] t' (0, 0)) ∧ w2.cell? ⟨w.heap.size, 0, none⟩ = some x ∧ w2.cell? ⟨w.heap.size + 1, 0, none⟩ = some y ∧ w2.cell? ⟨w.heap.size + 1 + 1, 0, none⟩ = some z ∧ w2.cell? ⟨w.heap.size + 1 + 1, 1, none⟩ = some z' ∧
   w2.frozen? ⟨w.heap.size + 1 + 1, 0, none⟩ = false ∧ w2.frozen? ⟨w.heap.size + 1 + 1, 1, none⟩ = false ∧ w.heap.size + 1 + 1 < w2.heap.size ∧ Below w.heap.size w w2 := by
 have hz := hb.size
 simp at hz
 have e1 : (w.alloc (.cells #[x] t)).heap.size = w.heap.size + 1 := by simp
 have e2 : ((w.alloc (.cells #[x] t)).alloc (.cells #[y] t)).heap.size = w.heap.size + 1 + 1 := by simp
 have h2 := (hb.block (w.heap.size + 1 + 1) (by simp)).trans (e2 ▸ blk_new ((w.alloc (.cells #[x] t)).alloc (.cells #[y] t)) (.cells #[z, z'] t'))
 have h1 := (hb.block (w.heap.size + 1) (by simp)).trans (blk_alloc _ (e1 ▸ blk_new (w.alloc (.cells #[x] t)) (.cells #[y] t)))
 have h0 := (hb.block w.heap.size (by simp; omega)).trans (blk_alloc _ (blk_alloc _ (blk_new w (.cells #[x] t))))
 exact ⟨h2, blk_cell h0 0, blk_cell h1 0, blk_cell h2 0, blk_cell h2 1, blk_free h2 0, blk_free h2 1, by omega, ((((Below.refl _ _).alloc (Nat.le_refl _) _).alloc (by simp) _).alloc (by simp; omega) _).trans (hb.mono (by simp; omega))⟩
theorem numbers_any (k a b : Int) (w : World) : Calls Tryz.prog 145 #[.int .i64 k, .int .i64 a, .int .i64 b] w fun e w' => e = .returned (retE (numE k a b)) ∧ Below w.heap.size w w' := by
 have hmf : ∀ (fn : Fn) (first cap : Array Value) (w : World), (Instr.makeFunc fn first cap).run Tryz.prog w = .ok (.func fn first cap) w := fun _ _ _ _ => rfl
 have r1 := run_plain
 have r2 := run_part
 obtain ⟨_, a0, b0, _, _, _, _, _, _⟩ := laid112 (Below.refl (((w.alloc (.cells #[.int .i64 a] 2)).alloc (.cells #[.int .i64 b] 2)).alloc (.cells #[.int .i64 0, .int .i64 0] 35)).heap.size (((w.alloc (.cells #[.int .i64 a] 2)).alloc (.cells #[.int .i64 b] 2)).alloc (.cells #[.int .i64 0, .int .i64 0] 35)))
 by_cases h3 : k = 3
 ·subst h3
  go_enter Tryz.func145, Tryz.ntmps145
  go_wp2_with fail
  refine (plain_any 166 run_add a b (wrap64 (a + b)) (fun w => (PAll.num_Add.calls a b _ w rfl).mono fun e w' ⟨h, hd⟩ => ⟨h, hd.below⟩) _ _ _ a0 b0).mono ?_
  rintro e w1 ⟨rfl, hb1⟩
  obtain ⟨hk, c0, c1, d0, d1, f0, f1, hlt, hbw⟩ := laid112 hb1
  have HK := Lib.hid hk
  clear hk hb1 a0 b0
  simp only [retE, agV, wholeV]
  go_wp2_with fail
  refine bodyPost_ret (results_ct rfl _ _ (w.heap.size + 1 + 1) 35 #[.int .i64 _, .int .i64 _] (0, 0) _ rfl (blk_set2 HK.out _ _) Tryz.underlying35 rfl (by kernel_rfl)) rfl ?_
  exact ⟨by rw [numE, if_pos rfl]; rfl, below_set2 hbw (by omega) _ _⟩
 by_cases h4 : k = 4
 ·subst h4
  go_enter Tryz.func145, Tryz.ntmps145
  go_wp2_with fail
  refine (plain_any 167 run_sub a b (wrap64 (a - b)) (fun w => (PAll.num_Sub.calls a b _ w rfl).mono fun e w' ⟨h, hd⟩ => ⟨h, hd.below⟩) _ _ _ a0 b0).mono ?_
  rintro e w1 ⟨rfl, hb1⟩
  obtain ⟨hk, c0, c1, d0, d1, f0, f1, hlt, hbw⟩ := laid112 hb1
  have HK := Lib.hid hk
  clear hk hb1 a0 b0
  simp only [retE, agV, wholeV]
  go_wp2_with fail
  refine bodyPost_ret (results_ct rfl _ _ (w.heap.size + 1 + 1) 35 #[.int .i64 _, .int .i64 _] (0, 0) _ rfl (blk_set2 HK.out _ _) Tryz.underlying35 rfl (by kernel_rfl)) rfl ?_
  exact ⟨rfl, below_set2 hbw (by omega) _ _⟩
 by_cases h5 : k = 5
 ·subst h5
  go_enter Tryz.func145, Tryz.ntmps145
  go_wp2_with fail
  refine (plain_any 168 run_mul a b (wrap64 (a * b)) (fun w => (PAll.num_Mul.calls a b _ w rfl).mono fun e w' ⟨h, hd⟩ => ⟨h, hd.below⟩) _ _ _ a0 b0).mono ?_
  rintro e w1 ⟨rfl, hb1⟩
  obtain ⟨hk, c0, c1, d0, d1, f0, f1, hlt, hbw⟩ := laid112 hb1
  have HK := Lib.hid hk
  clear hk hb1 a0 b0
  simp only [retE, agV, wholeV]
  go_wp2_with fail
  refine bodyPost_ret (results_ct rfl _ _ (w.heap.size + 1 + 1) 35 #[.int .i64 _, .int .i64 _] (0, 0) _ rfl (blk_set2 HK.out _ _) Tryz.underlying35 rfl (by kernel_rfl)) rfl ?_
  exact ⟨rfl, below_set2 hbw (by omega) _ _⟩
 by_cases h6 : k = 6
 ·subst h6
  by_cases hz : b = 0
  ·subst hz
   go_enter Tryz.func145, Tryz.ntmps145
   go_wp2_with fail
   refine (part_any 169 run_div a 0 (0) (some 9) (fun w => (PAll.num_Div.calls a 0 0 (some 9) w rfl).mono fun e w' ⟨h, hd⟩ => ⟨h, hd.below⟩) _ _ _ a0 b0).mono ?_
   rintro e w1 ⟨rfl, hb1⟩
   obtain ⟨hk, c0, c1, d0, d1, f0, f1, hlt, hbw⟩ := laid112 hb1
   have HK := Lib.hid hk
   clear hk hb1 a0 b0
   simp only [optE, retE, agV, wholeV]
   go_wp2_with fail
   refine bodyPost_ret (results_ct rfl _ _ (w.heap.size + 1 + 1) 35 #[.int .i64 _, .int .i64 _] (0, 0) _ rfl (blk_set2 HK.out _ _) Tryz.underlying35 rfl (by kernel_rfl)) rfl ?_
   exact ⟨rfl, below_set2 hbw (by omega) _ _⟩
  ·have hN : numE 6 a b = .ok (wholeV (wrap64 (a.tdiv b))) := by simp [numE, hz]
   rw [hN]
   clear hN
   go_enter Tryz.func145, Tryz.ntmps145
   go_wp2_with fail
   refine (part_any 169 run_div a b (wrap64 (a.tdiv b)) (none) (fun w => (PAll.num_Div.calls a b (wrap64 (a.tdiv b)) none w (by unfold PAll.num_Div.f; rw [if_neg hz])).mono fun e w' ⟨h, hd⟩ => ⟨h, hd.below⟩) _ _ _ a0 b0).mono ?_
   rintro e w1 ⟨rfl, hb1⟩
   obtain ⟨hk, c0, c1, d0, d1, f0, f1, hlt, hbw⟩ := laid112 hb1
   have HK := Lib.hid hk
   clear hk hb1 a0 b0
   simp only [optE, retE, agV, wholeV]
   go_wp2_with fail
   refine bodyPost_ret (results_ct rfl _ _ (w.heap.size + 1 + 1) 35 #[.int .i64 _, .int .i64 _] (0, 0) _ rfl (blk_set2 HK.out _ _) Tryz.underlying35 rfl (by kernel_rfl)) rfl ?_
   exact ⟨rfl, below_set2 hbw (by omega) _ _⟩
 by_cases h7 : k = 7
 ·subst h7
  by_cases hz : b = 0
  ·subst hz
   go_enter Tryz.func145, Tryz.ntmps145
   go_wp2_with fail
   refine (part_any 170 run_mod a 0 (0) (some 9) (fun w => (PAll.num_Mod.calls a 0 0 (some 9) w rfl).mono fun e w' ⟨h, hd⟩ => ⟨h, hd.below⟩) _ _ _ a0 b0).mono ?_
   rintro e w1 ⟨rfl, hb1⟩
   obtain ⟨hk, c0, c1, d0, d1, f0, f1, hlt, hbw⟩ := laid112 hb1
   have HK := Lib.hid hk
   clear hk hb1 a0 b0
   simp only [optE, retE, agV, wholeV]
   go_wp2_with fail
   refine bodyPost_ret (results_ct rfl _ _ (w.heap.size + 1 + 1) 35 #[.int .i64 _, .int .i64 _] (0, 0) _ rfl (blk_set2 HK.out _ _) Tryz.underlying35 rfl (by kernel_rfl)) rfl ?_
   exact ⟨rfl, below_set2 hbw (by omega) _ _⟩
  ·have hN : numE 7 a b = .ok (wholeV (a.tmod b)) := by simp [numE, hz]
   rw [hN]
   clear hN
   go_enter Tryz.func145, Tryz.ntmps145
   go_wp2_with fail
   refine (part_any 170 run_mod a b (a.tmod b) (none) (fun w => (PAll.num_Mod.calls a b (a.tmod b) none w (by unfold PAll.num_Mod.f; rw [if_neg hz])).mono fun e w' ⟨h, hd⟩ => ⟨h, hd.below⟩) _ _ _ a0 b0).mono ?_
   rintro e w1 ⟨rfl, hb1⟩
   obtain ⟨hk, c0, c1, d0, d1, f0, f1, hlt, hbw⟩ := laid112 hb1
   have HK := Lib.hid hk
   clear hk hb1 a0 b0
   simp only [optE, retE, agV, wholeV]
   go_wp2_with fail
   refine bodyPost_ret (results_ct rfl _ _ (w.heap.size + 1 + 1) 35 #[.int .i64 _, .int .i64 _] (0, 0) _ rfl (blk_set2 HK.out _ _) Tryz.underlying35 rfl (by kernel_rfl)) rfl ?_
   exact ⟨rfl, below_set2 hbw (by omega) _ _⟩
 by_cases h8 : k = 8
 ·subst h8
  have hN : numE 8 a b = .ok (truthV (decide (a < b))) := rfl
  rw [hN]
  clear hN
  go_enter Tryz.func145, Tryz.ntmps145
  go_wp2_with fail
  refine (truth_any _ _).mono ?_
  rintro e w1 ⟨rfl, hb1⟩
  obtain ⟨hk, c0, c1, d0, d1, f0, f1, hlt, hbw⟩ := laid112 hb1
  have HK := Lib.hid hk
  clear hk hb1 a0 b0
  simp only [agV]
  go_wp2_with fail
  refine bodyPost_ret (results_ct rfl _ _ (w.heap.size + 1 + 1) 35 #[.int .i64 _, .int .i64 _] (0, 0) _ rfl (blk_set2 HK.out _ _) Tryz.underlying35 rfl (by kernel_rfl)) rfl ?_
  exact ⟨rfl, below_set2 hbw (by omega) _ _⟩
 by_cases h9 : k = 9
 ·subst h9
  have hN : numE 9 a b = .ok (truthV (decide (a ≤ b))) := rfl
  rw [hN]
  clear hN
  go_enter Tryz.func145, Tryz.ntmps145
  go_wp2_with fail
  refine (truth_any _ _).mono ?_
  rintro e w1 ⟨rfl, hb1⟩
  obtain ⟨hk, c0, c1, d0, d1, f0, f1, hlt, hbw⟩ := laid112 hb1
  have HK := Lib.hid hk
  clear hk hb1 a0 b0
  simp only [agV]
  go_wp2_with fail
  refine bodyPost_ret (results_ct rfl _ _ (w.heap.size + 1 + 1) 35 #[.int .i64 _, .int .i64 _] (0, 0) _ rfl (blk_set2 HK.out _ _) Tryz.underlying35 rfl (by kernel_rfl)) rfl ?_
  exact ⟨rfl, below_set2 hbw (by omega) _ _⟩
 have hN : numE k a b = .error 8 := by simp [numE, h3, h4, h5, h6, h7, h8, h9]
 rw [hN]
 have n3 : (k == 3) = false := beq_eq_false_iff_ne.mpr h3
 have n4 : (k == 4) = false := beq_eq_false_iff_ne.mpr h4
 have n5 : (k == 5) = false := beq_eq_false_iff_ne.mpr h5
 have n6 : (k == 6) = false := beq_eq_false_iff_ne.mpr h6
 have n7 : (k == 7) = false := beq_eq_false_iff_ne.mpr h7
 have n8 : (k == 8) = false := beq_eq_false_iff_ne.mpr h8
 have n9 : (k == 9) = false := beq_eq_false_iff_ne.mpr h9
 clear hN h3 h4 h5 h6 h7 h8 h9
 obtain ⟨hk, c0, c1, d0, d1, f0, f1, hlt, hbw⟩ := laid112 (Below.refl (((w.alloc (.cells #[.int .i64 a] 2)).alloc (.cells #[.int .i64 b] 2)).alloc (.cells #[.int .i64 0, .int .i64 0] 35)).heap.size (((w.alloc (.cells #[.int .i64 a] 2)).alloc (.cells #[.int .i64 b] 2)).alloc (.cells #[.int .i64 0, .int .i64 0] 35)))
 have HK := Lib.hid hk
 clear hk
 go_enter Tryz.func145, Tryz.ntmps145
 go_wp2_with fail
 refine bodyPost_ret (results_ct rfl _ _ (w.heap.size + 1 + 1) 35 #[.int .i64 _, .int .i64 _] (0, 0) _ rfl HK.out Tryz.underlying35 rfl (by kernel_rfl)) rfl ?_
 exact ⟨rfl, hbw⟩
end Go.Proofs.YtemoonhnncopoaaGreatDoor
end
section
namespace Go.Proofs.YtemoonhnncopoaaGreatDoor
open Go.RowKit
section
variable {P : Program} {ops : Array Oper} {md : Region.Mode} {C : World → Prop}
def anyHead (P : Program) (md : Region.Mode) (ops : Array Oper) (C : World → Prop) (n : Nat) (L : Array Bool → Act → Prop) : Nat → Array Bool → Act → Prop
 | 0, listed, a => L listed a
 | f + 1, listed, a => Region.ready md ops listed ≠ [] ∧ ∀ i ∈ Region.ready md ops listed, i < n ∧ qOp P ops C i (anyHead P md ops C n L f (listed.setIfInBounds i true)) a
theorem any_of_head {n g : Nat} {L : Array Bool → Act → Prop} {Q' : Exit → Act → World → Prop} (hL : ∀ listed a w, C w → L listed a → wpAny P md ops Q' g listed a w) :
  ∀ (f : Nat) (listed : Array Bool) (a : Act) (w : World), C w → anyHead P md ops C n L f listed a → wpAny P md ops Q' (f + g) listed a w
 | 0, _, _, _, hw, h => by rw [Nat.zero_add]; exact hL _ _ _ hw h
 | f + 1, _, _, _, hw, h => by
  rw [show f + 1 + g = (f + g) + 1 by omega]
  exact ⟨fun h0 => absurd h0 h.1, fun i hi => wpOp_of_qOp hw (fun a' w' hw' h' => any_of_head hL f _ a' w' hw' h') (h.2 i hi).2⟩
theorem head_first {n i : Nat} {oi : Oper} {v : Value} {L : Array Bool → Act → Prop} (hi : ops[i]? = some oi) (hsel : ∀ (j : Nat) (o : Oper) cs b, ops[j]? = some o → o.op ≠ .select cs b)
  (hs : Region.sinkB md ops n = true) (hc : Region.chainB md ops n = true) (hn : n < ops.size) (hin : i < n)
  (hdone : ∀ listed a, L listed a → ∀ j ∈ Region.ready md ops listed, n ≤ j) (f : Nat) :
  ∀ (listed : Array Bool) (a : Act), HeadInv md ops n listed →
   (∀ j oj, ops[j]? = some oj → j ≠ i → listed.getD j true = false → (∀ e ∈ oj.after, Region.binds md e = true → e.on ≠ i) → oi.apart ops oj = true) →
   i ∈ Region.ready md ops listed → YieldsIn P ops C oi v a →
   anyHead P md ops C n L f (listed.setIfInBounds i true) (a.put oi.dst v) → anyHead P md ops C n L (f + 1) listed a := by
 have low : ∀ (listed : Array Bool), HeadInv md ops n listed → i ∈ Region.ready md ops listed → ∀ j ∈ Region.ready md ops listed, j < n := by
  intro listed inv hr j hj
  have hun := (mem_ready.1 hr).1
  rcases Nat.lt_or_ge j n with h | h
  ·exact h
  ·exact absurd hj (tail_waits hs hc hn inv _ i rfl hin hun j h)
 have some_ : ∀ (listed : Array Bool), i ∈ Region.ready md ops listed → Region.ready md ops listed ≠ [] := fun listed hr h => by rw [h] at hr; cases hr
 induction f with
 | zero =>
  intro listed a inv _ hr hy H
  refine ⟨some_ listed hr, fun j hj => ⟨low listed inv hr j hj, ?_⟩⟩
  by_cases hji : j = i
  ·rw [hji]; exact hy.qOp hi H
  ·have := hdone _ _ H j (ready_mono hj hji)
   have := low listed inv hr j hj
   omega
 | succ f ih =>
  intro listed a inv hfree hr hy H
  refine ⟨some_ listed hr, fun j hj => ⟨low listed inv hr j hj, ?_⟩⟩
  by_cases hji : j = i
  ·rw [hji]; exact hy.qOp hi H
  obtain ⟨hjun, oj, hoj, hall⟩ := mem_ready.1 hj
  have hun := (mem_ready.1 hr).1
  have h2 := qOp_put hoj (hfree j oj hoj hji hjun fun e he hb heq => by
   have h1 := hall e he hb
   rw [heq, getD_both hun] at h1
   cases h1) (fun cs b => hsel i oi cs b hi) (fun cs b => hsel j oj cs b hoj) hy (H.2 j (ready_mono hj hji)).2
  refine qOp_mono (fun a' h3 => ih (listed.setIfInBounds j true) a' (inv.set hj (low listed inv hr j hj)) (fun k ok hk hki hun' hno => hfree k ok hk hki ?_ hno) (ready_mono hr (Ne.symm hji)) h3.1 ?_) h2
  ·by_cases hjk : j = k
   ·exact hjk ▸ hjun
   ·rwa [getD_set_ne true hjk] at hun'
  ·rw [Array.setIfInBounds_comm _ _ hji]
   exact h3.2
theorem head_lex {n g : Nat} {Lq : Act → Prop} (hsel : Region.noSelect ops = true) (hs : Region.sinkB md ops n = true) (hc : Region.chainB md ops n = true) (hn : n < ops.size) :
  ∀ (l : List Oper) (k : Nat) (listed : Array Bool) (a : Act), (∀ j, j < l.length → l[j]? = ops[k + j]?) → k + l.length = n → HeadInv md ops n listed →
  Region.lexHead md ops g l.length k listed = true → wpQuiet P ops C Lq l a →
  anyHead P md ops C n (fun listed' a' => Region.seqB md ops g n listed' = true ∧ Lq a') l.length listed a
 | [], k, _, _, _, hk, _, hB, h => by
  obtain rfl : k = n := by simpa using hk
  exact ⟨by simpa [Region.lexHead] using hB, h⟩
 | o :: l, k, listed, a, hl, hk, inv, hB, h => by
  have h0 : ops[k]? = some o := by simpa using (hl 0 (by simp)).symm
  simp only [List.length_cons, Region.lexHead, Bool.and_eq_true] at hB hk
  have hkn : k < n := by omega
  have hr : k ∈ Region.ready md ops listed := by simpa using hB.1.1
  obtain ⟨v, hy, hK⟩ := yieldsIn_of_qOp (P := P) (C := C) (K := wpQuiet P ops C Lq l) h0 (by unfold qOp; simp only [h0]; exact h)
  refine head_first h0 (Region.noSelect_spec hsel) hs hc hn hkn (fun listed' a' hL => seqB_ready hL.1) l.length listed a inv (Region.free_spec h0 hB.1.2) hr hy ?_
  exact head_lex hsel hs hc hn l (k + 1) _ _ (fun j hj => by have := hl (j + 1) (by simp; omega); simpa [Nat.add_assoc, Nat.add_comm 1 j] using this) (by omega) (inv.set hr hkn) hB.2 hK
theorem region_quiet_tail {id : Nat} {Q : Exit → Act → World → Prop} {a : Act} {w : World} {l : List Oper} (n : Nat) (hm : P.follows .mixedOrders = true) (hB : Region.lexTailB .any l.toArray n = true)
  (h : wpQuiet P l.toArray (fun w' => ∃ n, w' = w.drewN n) (fun a' => ∀ w', (∃ n, w' = w.drewN n) → wpList P l.toArray Q (l.drop n) a' w') (l.take n) a) : (Code.region id l.toArray true).wp P Q a w := by
 simp only [Region.lexTailB, Bool.and_eq_true, decide_eq_true_eq] at hB
 obtain ⟨⟨⟨⟨hsel, hn⟩, hs⟩, hc⟩, hlex⟩ := hB
 have hn' : n < l.length := by simpa using hn
 have htl : (l.take n).length = n := by simp; omega
 have hdl : (l.drop n).length = l.toArray.size - n := by simp
 have inv0 : HeadInv .any l.toArray n (Array.replicate l.toArray.size false) :=
  ⟨by simp, fun j oj _ hl => (by rw [getD_replicate_false] at hl; cases hl), fun t _ ht => getD_in (by simpa using ht) (getD_replicate_false _ _)⟩
 have H := head_lex (P := P) (C := fun w' => ∃ n, w' = w.drewN n) (md := .any) (g := l.toArray.size - n) hsel hs hc hn (l.take n) 0 _ a (fun j hj => by
  have hj' : j < n := by rw [htl] at hj; exact hj
  simp [hj']) (by simpa using htl) inv0 (by rw [htl]; exact hlex) h
 refine wp_region_any hm ?_
 have := any_of_head (Q' := Q) (g := l.toArray.size - n) (fun listed a' w' hw' hL => by
  have := wpAny_of_seq (md := .any) (Q' := Q) (l.drop n) n listed a' w' (fun j => by simp [List.getElem?_drop]) (by rw [hdl]; exact hL.1) (hL.2 w' hw')
  rwa [hdl] at this) _ _ _ { w with drawn := w.drawn + 1 } ⟨1, rfl⟩ H
 rw [htl, show n + (l.toArray.size - n) = l.toArray.size by omega] at this
 exact this
end
end Go.Proofs.YtemoonhnncopoaaGreatDoor
end
section
namespace Go.Proofs.YtemoonhnncopoaaGreatDoor
open Go.RowKit Go.Proofs.YtemoonhnncopoaaGreatDoorW.PrintWords
open PX (T V takes takes_cases)
theorem laid222 {w w2 : World} {x x' y y' : Value} {t : TypeId} {z : Value} {z' : Value}
  (hb : Below (((w.alloc (.cells #[x, x'] t)).alloc (.cells #[y, y'] t)).alloc (.cells #[z, z'] t)).heap.size (((w.alloc (.cells #[x, x'] t)).alloc (.cells #[y, y'] t)).alloc (.cells #[z, z'] t)) w2) :
  w2.heap[w.heap.size + 1 + 1]? = some (.cells #[z, z'] t (0, 0)) ∧ w2.cell? ⟨w.heap.size, 0, none⟩ = some x ∧ w2.cell? ⟨w.heap.size, 1, none⟩ = some x' ∧ w2.cell? ⟨w.heap.size + 1, 0, none⟩ = some y ∧ w2.cell? ⟨w.heap.size + 1, 1, none⟩ = some y' ∧ w2.cell? ⟨w.heap.size + 1 + 1, 0, none⟩ = some z ∧ w2.cell? ⟨w.heap.size + 1 + 1, 1, none⟩ = some z' ∧
   w2.frozen? ⟨w.heap.size + 1 + 1, 0, none⟩ = false ∧ w2.frozen? ⟨w.heap.size + 1 + 1, 1, none⟩ = false ∧ w.heap.size + 1 + 1 < w2.heap.size ∧ Below w.heap.size w w2 := by
 have hz := hb.size
 simp at hz
 have e1 : (w.alloc (.cells #[x, x'] t)).heap.size = w.heap.size + 1 := by simp
 have e2 : ((w.alloc (.cells #[x, x'] t)).alloc (.cells #[y, y'] t)).heap.size = w.heap.size + 1 + 1 := by simp
 have h2 := (hb.block (w.heap.size + 1 + 1) (by simp)).trans (e2 ▸ blk_new ((w.alloc (.cells #[x, x'] t)).alloc (.cells #[y, y'] t)) (.cells #[z, z'] t))
 have h1 := (hb.block (w.heap.size + 1) (by simp)).trans (blk_alloc _ (e1 ▸ blk_new (w.alloc (.cells #[x, x'] t)) (.cells #[y, y'] t)))
 have h0 := (hb.block w.heap.size (by simp; omega)).trans (blk_alloc _ (blk_alloc _ (blk_new w (.cells #[x, x'] t))))
 exact ⟨h2, blk_cell h0 0, blk_cell h0 1, blk_cell h1 0, blk_cell h1 1, blk_cell h2 0, blk_cell h2 1, blk_free h2 0, blk_free h2 1, by omega, ((((Below.refl _ _).alloc (Nat.le_refl _) _).alloc (by simp) _).alloc (by simp; omega) _).trans (hb.mono (by simp; omega))⟩
theorem both_any (k : Int) (a b : V) (w : World) : Calls Tryz.prog 111 #[.int .i64 k, agV a, agV b] w fun e w' => e = .returned (retE (bothE k a b)) ∧ Below w.heap.size w w' := by
 obtain ⟨hk, a0, a1, b0, b1, c0, c1, f0, f1, hlt, hbw⟩ := laid222 (Below.refl (((w.alloc (.cells #[.int .i64 a.1, .int .i64 a.2] 35)).alloc (.cells #[.int .i64 b.1, .int .i64 b.2] 35)).alloc (.cells #[.int .i64 0, .int .i64 0] 35)).heap.size (((w.alloc (.cells #[.int .i64 a.1, .int .i64 a.2] 35)).alloc (.cells #[.int .i64 b.1, .int .i64 b.2] 35)).alloc (.cells #[.int .i64 0, .int .i64 0] 35)))
 have HK := Lib.hid hk
 clear hk
 have hax : (.agg #[.int .i64 a.1, .int .i64 a.2] : Value) = agV a := rfl
 have hbx : (.agg #[.int .i64 b.1, .int .i64 b.2] : Value) = agV b := rfl
 have n01 : ((a.1 : Int) != b.1) = !(a.1 == b.1) := rfl
 by_cases hk : a.1 = b.1
 ·have n1 : (a.1 == b.1) = true := beq_iff_eq.mpr hk
  by_cases h10 : k = 10
  ·subst h10
   have hN : bothE 10 a b = .ok (truthV (a.2 == b.2)) := by simp [bothE, hk]
   rw [hN]
   clear hN hk
   rw [← hax, ← hbx]
   clear hax hbx
   go_enter Tryz.func111, Tryz.ntmps111
   go_wp2_with fail
   refine (truth_any _ _).mono ?_
   rintro e w1 ⟨rfl, hb1⟩
   obtain ⟨hk, _, _, _, _, c0, c1, f0, f1, hlt, hbw⟩ := laid222 hb1
   clear HK
   have HK := Lib.hid hk
   clear hk hb1 a0 a1 b0 b1
   simp only [agV]
   go_wp2_with fail
   refine bodyPost_ret (results_ct rfl _ _ (w.heap.size + 1 + 1) 35 #[.int .i64 _, .int .i64 _] (0, 0) _ rfl (blk_set2 HK.out _ _) Tryz.underlying35 rfl (by kernel_rfl)) rfl ?_
   exact ⟨rfl, below_set2 hbw (by omega) _ _⟩
  have n10 : (k == 10) = false := beq_eq_false_iff_ne.mpr h10
  by_cases h11 : k = 11
  ·subst h11
   have hN : bothE 11 a b = .ok (truthV (!(a.2 == b.2))) := by simp [bothE, hk]
   rw [hN]
   clear hN hk
   rw [← hax, ← hbx]
   clear hax hbx
   go_enter Tryz.func111, Tryz.ntmps111
   go_wp2_with fail
   refine (truth_any _ _).mono ?_
   rintro e w1 ⟨rfl, hb1⟩
   obtain ⟨hk, _, _, _, _, c0, c1, f0, f1, hlt, hbw⟩ := laid222 hb1
   clear HK
   have HK := Lib.hid hk
   clear hk hb1 a0 a1 b0 b1
   simp only [agV]
   go_wp2_with fail
   refine bodyPost_ret (results_ct rfl _ _ (w.heap.size + 1 + 1) 35 #[.int .i64 _, .int .i64 _] (0, 0) _ rfl (blk_set2 HK.out _ _) Tryz.underlying35 rfl (by kernel_rfl)) rfl ?_
   exact ⟨rfl, below_set2 hbw (by omega) _ _⟩
  have n11 : (k == 11) = false := beq_eq_false_iff_ne.mpr h11
  by_cases h1 : a.1 = 1
  ·have m1 : (a.1 == 1) = true := beq_iff_eq.mpr h1
   have hN : bothE k a b = numE k a.2 b.2 := by simp only [bothE]; rw [if_neg (by simp [hk]), if_neg h10, if_neg h11, if_pos h1]
   rw [hN]
   clear hN hk h1 h10 h11
   rw [← hax, ← hbx]
   clear hax hbx
   go_enter Tryz.func111, Tryz.ntmps111
   go_wp2_with fail
   refine (numbers_any k a.2 b.2 _).mono ?_
   rintro e w1 ⟨rfl, hb1⟩
   obtain ⟨hk, _, _, _, _, c0, c1, f0, f1, hlt, hbw⟩ := laid222 hb1
   clear HK
   have HK := Lib.hid hk
   clear hk hb1 a0 a1 b0 b1
   cases hN : numE k a.2 b.2 with
   | ok v =>
    have HN := Lib.hid hN
    clear hN
    simp only [retE, agV]
    go_wp2_with fail
    refine bodyPost_ret (results_ct rfl _ _ (w.heap.size + 1 + 1) 35 #[.int .i64 _, .int .i64 _] (0, 0) _ rfl (blk_set2 HK.out _ _) Tryz.underlying35 rfl (by kernel_rfl)) rfl ?_
    exact ⟨by rw [HN.out]; rfl, below_set2 hbw (by omega) _ _⟩
   | error x =>
    have HN := Lib.hid hN
    clear hN
    simp only [retE, agV]
    go_wp2_with fail
    refine bodyPost_ret (results_ct rfl _ _ (w.heap.size + 1 + 1) 35 #[.int .i64 _, .int .i64 _] (0, 0) _ rfl (blk_set2 HK.out _ _) Tryz.underlying35 rfl (by kernel_rfl)) rfl ?_
    exact ⟨by rw [HN.out]; rfl, below_set2 hbw (by omega) _ _⟩
  have m1 : (a.1 == 1) = false := beq_eq_false_iff_ne.mpr h1
  by_cases h12 : k = 12
  ·subst h12
   have hN : bothE 12 a b = .ok (truthV (decide (wrap64 (a.2 + b.2) > 1))) := by simp only [bothE]; rw [if_neg (by simp [hk]), if_neg h10, if_neg h11, if_neg h1]; rfl
   rw [hN]
   clear hN hk h1 h10 h11
   rw [← hax, ← hbx]
   clear hax hbx
   go_enter Tryz.func111, Tryz.ntmps111
   go_wp2_with fail
   refine (truth_any _ _).mono ?_
   rintro e w1 ⟨rfl, hb1⟩
   obtain ⟨hk, _, _, _, _, c0, c1, f0, f1, hlt, hbw⟩ := laid222 hb1
   clear HK
   have HK := Lib.hid hk
   clear hk hb1 a0 a1 b0 b1
   simp only [agV]
   go_wp2_with fail
   refine bodyPost_ret (results_ct rfl _ _ (w.heap.size + 1 + 1) 35 #[.int .i64 _, .int .i64 _] (0, 0) _ rfl (blk_set2 HK.out _ _) Tryz.underlying35 rfl (by kernel_rfl)) rfl ?_
   exact ⟨rfl, below_set2 hbw (by omega) _ _⟩
  have n12 : (k == 12) = false := beq_eq_false_iff_ne.mpr h12
  by_cases h13 : k = 13
  ·subst h13
   have hN : bothE 13 a b = .ok (truthV (decide (wrap64 (a.2 + b.2) > 0))) := by simp only [bothE]; rw [if_neg (by simp [hk]), if_neg h10, if_neg h11, if_neg h1]; rfl
   rw [hN]
   clear hN hk h1 h10 h11
   rw [← hax, ← hbx]
   clear hax hbx
   go_enter Tryz.func111, Tryz.ntmps111
   go_wp2_with fail
   refine (truth_any _ _).mono ?_
   rintro e w1 ⟨rfl, hb1⟩
   obtain ⟨hk, _, _, _, _, c0, c1, f0, f1, hlt, hbw⟩ := laid222 hb1
   clear HK
   have HK := Lib.hid hk
   clear hk hb1 a0 a1 b0 b1
   simp only [agV]
   go_wp2_with fail
   refine bodyPost_ret (results_ct rfl _ _ (w.heap.size + 1 + 1) 35 #[.int .i64 _, .int .i64 _] (0, 0) _ rfl (blk_set2 HK.out _ _) Tryz.underlying35 rfl (by kernel_rfl)) rfl ?_
   exact ⟨rfl, below_set2 hbw (by omega) _ _⟩
  have n13 : (k == 13) = false := beq_eq_false_iff_ne.mpr h13
  have hN : bothE k a b = .error 8 := by simp only [bothE]; rw [if_neg (by simp [hk]), if_neg h10, if_neg h11, if_neg h1, if_neg h12, if_neg h13]
  rw [hN]
  clear hN hk h1 h10 h11 h12 h13
  rw [← hax, ← hbx]
  clear hax hbx
  go_enter Tryz.func111, Tryz.ntmps111
  go_wp2_with fail
  refine bodyPost_ret (results_ct rfl _ _ (w.heap.size + 1 + 1) 35 #[.int .i64 _, .int .i64 _] (0, 0) _ rfl (HK.out) Tryz.underlying35 rfl (by kernel_rfl)) rfl ?_
  exact ⟨rfl, hbw⟩
 ·have n1 : (a.1 == b.1) = false := beq_eq_false_iff_ne.mpr hk
  have hN : bothE k a b = .error 8 := by simp only [bothE]; rw [if_pos hk]
  rw [hN]
  clear hN hk
  rw [← hax, ← hbx]
  clear hax hbx
  go_enter Tryz.func111, Tryz.ntmps111
  go_wp2_with fail
  refine bodyPost_ret (results_ct rfl _ _ (w.heap.size + 1 + 1) 35 #[.int .i64 _, .int .i64 _] (0, 0) _ rfl (HK.out) Tryz.underlying35 rfl (by kernel_rfl)) rfl ?_
  exact ⟨rfl, hbw⟩
def LookC (f : FuncId) (cp : Value) (look : Int → Option Int) (B : Nat) (w : World) : Prop :=
 ∀ w', Below B w w' → ∀ v : Int, 0 ≤ v → v ≤ 1000 → Calls Tryz.prog f #[.int .i64 v, cp] w' fun e w'' => e = .returned (.tuple #[.int .i64 ((look v).getD 0), .bool (look v).isSome]) ∧ ∃ n, w'' = w'.drewN n
theorem LookC.below {f : FuncId} {cp : Value} {look : Int → Option Int} {B : Nat} {w w1 : World} (h : LookC f cp look B w) (hb : Below B w w1) : LookC f cp look B w1 :=
 fun w' hw v h0 h1 => h w' (hb.trans hw) v h0 h1
def leafR (look : Int → Option Int) (t : T) : Value :=
 if takes t = 0 then (match leafE look t with | .ok v => .tuple #[agV v, .bool true, .nilIface] | .error c => .tuple #[agV (0, 0), .bool true, .iface 93 (.int .i64 c)])
 else .tuple #[agV (0, 0), .bool false, .nilIface]
theorem laid32 {w w2 : World} {x y z a b : Value} {t t' : TypeId} (hb : Below ((w.alloc (.cells #[x, y, z] t)).alloc (.cells #[a, b] t')).heap.size ((w.alloc (.cells #[x, y, z] t)).alloc (.cells #[a, b] t')) w2) :
  w2.heap[w.heap.size + 1]? = some (.cells #[a, b] t' (0, 0)) ∧ w2.cell? ⟨w.heap.size, 0, none⟩ = some x ∧ w2.cell? ⟨w.heap.size, 1, none⟩ = some y ∧ w2.cell? ⟨w.heap.size + 1, 0, none⟩ = some a ∧ w2.cell? ⟨w.heap.size + 1, 1, none⟩ = some b ∧
   w2.frozen? ⟨w.heap.size + 1, 0, none⟩ = false ∧ w2.frozen? ⟨w.heap.size + 1, 1, none⟩ = false ∧ w.heap.size + 1 < w2.heap.size ∧ Below w.heap.size w w2 := by
 have hz := hb.size
 simp at hz
 have e1 : (w.alloc (.cells #[x, y, z] t)).heap.size = w.heap.size + 1 := by simp
 have h1 := (hb.block (w.heap.size + 1) (by simp)).trans (e1 ▸ blk_new (w.alloc (.cells #[x, y, z] t)) (.cells #[a, b] t'))
 have h0 := (hb.block w.heap.size (by simp; omega)).trans (blk_alloc _ (blk_new w (.cells #[x, y, z] t)))
 exact ⟨h1, blk_cell h0 0, blk_cell h0 1, blk_cell h1 0, blk_cell h1 1, blk_free h1 0, blk_free h1 1, by omega, (((Below.refl _ _).alloc (Nat.le_refl _) _).alloc (by simp) _).trans (hb.mono (by simp; omega))⟩
theorem leaf_any (f : FuncId) (hrun : ∀ (args : Array Value) (w : World), (callFunc f args).run Tryz.prog w = .ok (.enter f args) w) (cp : Value) (look : Int → Option Int) (t : T) (h0 : 0 ≤ takes t) (B : Nat) (w : World) (hB : B ≤ w.heap.size) (hl : LookC f cp look B w) :
  Calls Tryz.prog 109 #[.agg #[.int .i64 t.f0, .int .i64 t.f1, .int .i64 t.f2], .func (.func f) #[] #[cp]] w fun e w' => e = .returned (leafR look t) ∧ Below w.heap.size w w' := by
 have HL := Lib.hid hl
 clear hl
 obtain ⟨hk, a0, a1, c0, c1, f0, f1, hlt, hbw⟩ := laid32 (Below.refl ((w.alloc (.cells #[.int .i64 t.f0, .int .i64 t.f1, .int .i64 t.f2] 91)).alloc (.cells #[.int .i64 0, .int .i64 0] 35)).heap.size ((w.alloc (.cells #[.int .i64 t.f0, .int .i64 t.f1, .int .i64 t.f2] 91)).alloc (.cells #[.int .i64 0, .int .i64 0] 35)))
 have HK := Lib.hid hk
 clear hk
 rcases takes_cases t with e | e | e | e
 ·omega
 ·obtain ⟨hk, hn0, hn2⟩ := takes0 e
  obtain ⟨k, n, c⟩ := t
  simp only at hk hn0 hn2 a0 a1 HK c0 c1 f0 f1 hbw
  rcases hk with rfl | rfl | rfl | rfl
  ·have HX : Hid (leafR look ⟨1, n, c⟩ = .tuple #[agV (wholeV n), .bool true, .nilIface]) := Lib.hid (by rw [leafR, if_pos e]; rfl)
   go_enter Tryz.func109, Tryz.ntmps109
   go_wp2_with fail
   refine (whole_any _ _).mono ?_
   rintro e w1 ⟨rfl, hb1⟩
   obtain ⟨hk, _, _, c0, c1, f0, f1, hlt, hbw⟩ := laid32 hb1
   clear HK
   have HK := Lib.hid hk
   clear hk hb1 a0 a1
   simp only [agV]
   go_wp2_with fail
   refine bodyPost_ret (results_ctt rfl _ _ (w.heap.size + 1) 35 #[.int .i64 _, .int .i64 _] (0, 0) _ rfl (blk_set2 HK.out _ _) Tryz.underlying35 rfl (by kernel_rfl)) rfl ?_
   exact ⟨by rw [HX.out]; rfl, below_set2 hbw (by omega) _ _⟩
  ·cases hlk : look n with
   | some m =>
    have HX : Hid (leafR look ⟨2, n, c⟩ = .tuple #[agV (wholeV m), .bool true, .nilIface]) := Lib.hid (by rw [leafR, if_pos e]; simp [leafE, hlk])
    go_enter Tryz.func109, Tryz.ntmps109
    go_wp2_with fail
    refine (HL.out _ ?lkw n hn0 (by have := hn2 trivial; omega)).mono ?_
    case lkw => exact (Below.mono (((Below.refl _ _).alloc (Nat.le_refl _) _).alloc (by simp) _) hB)
    rw [hlk]
    rintro e w1 ⟨rfl, n1, rfl⟩
    clear hlk
    simp only [Option.getD_some, Option.isSome_some]
    go_wp2_with fail
    refine (whole_any _ _).mono ?_
    rintro e w1 ⟨rfl, hb1⟩
    have hb1' := (below_drewN' (Below.refl ((w.alloc (.cells #[.int .i64 2, .int .i64 n, .int .i64 c] 91)).alloc (.cells #[.int .i64 0, .int .i64 0] 35)).heap.size ((w.alloc (.cells #[.int .i64 2, .int .i64 n, .int .i64 c] 91)).alloc (.cells #[.int .i64 0, .int .i64 0] 35))) n1).trans (hb1.mono (by simp))
    obtain ⟨hk, _, _, c0, c1, f0, f1, hlt, hbw⟩ := laid32 hb1'
    clear HK
    have HK := Lib.hid hk
    clear hk hb1 hb1' a0 a1
    simp only [agV]
    go_wp2_with fail
    refine bodyPost_ret (results_ctt rfl _ _ (w.heap.size + 1) 35 #[.int .i64 _, .int .i64 _] (0, 0) _ rfl (blk_set2 HK.out _ _) Tryz.underlying35 rfl (by kernel_rfl)) rfl ?_
    exact ⟨by rw [HX.out]; rfl, below_set2 hbw (by omega) _ _⟩
   | none =>
    have HX : Hid (leafR look ⟨2, n, c⟩ = .tuple #[agV (0, 0), .bool true, .iface 93 (.int .i64 4)]) := Lib.hid (by rw [leafR, if_pos e]; simp [leafE, hlk])
    go_enter Tryz.func109, Tryz.ntmps109
    go_wp2_with fail
    refine (HL.out _ ?lkw n hn0 (by have := hn2 trivial; omega)).mono ?_
    case lkw => exact (Below.mono (((Below.refl _ _).alloc (Nat.le_refl _) _).alloc (by simp) _) hB)
    rw [hlk]
    rintro e w1 ⟨rfl, n1, rfl⟩
    clear hlk
    simp only [Option.getD_none, Option.isSome_none]
    go_wp2_with fail
    refine bodyPost_ret (results_ctt rfl _ _ (w.heap.size + 1) 35 #[.int .i64 _, .int .i64 _] (0, 0) _ rfl (blk_set2 (blk_drewN n1 HK.out) _ _) Tryz.underlying35 rfl (by kernel_rfl)) rfl ?_
    exact ⟨by rw [HX.out]; rfl, below_set2 (below_drewN' hbw n1) (by omega) _ _⟩
  ·have HX : Hid (leafR look ⟨15, n, c⟩ = .tuple #[agV (truthV true), .bool true, .nilIface]) := Lib.hid (by rw [leafR, if_pos e]; rfl)
   go_enter Tryz.func109, Tryz.ntmps109
   go_wp2_with fail
   refine (truth_any _ _).mono ?_
   rintro e w1 ⟨rfl, hb1⟩
   obtain ⟨hk, _, _, c0, c1, f0, f1, hlt, hbw⟩ := laid32 hb1
   clear HK
   have HK := Lib.hid hk
   clear hk hb1 a0 a1
   simp only [agV]
   go_wp2_with fail
   refine bodyPost_ret (results_ctt rfl _ _ (w.heap.size + 1) 35 #[.int .i64 _, .int .i64 _] (0, 0) _ rfl (blk_set2 HK.out _ _) Tryz.underlying35 rfl (by kernel_rfl)) rfl ?_
   exact ⟨by rw [HX.out]; rfl, below_set2 hbw (by omega) _ _⟩
  ·have HX : Hid (leafR look ⟨16, n, c⟩ = .tuple #[agV (truthV false), .bool true, .nilIface]) := Lib.hid (by rw [leafR, if_pos e]; rfl)
   go_enter Tryz.func109, Tryz.ntmps109
   go_wp2_with fail
   refine (truth_any _ _).mono ?_
   rintro e w1 ⟨rfl, hb1⟩
   obtain ⟨hk, _, _, c0, c1, f0, f1, hlt, hbw⟩ := laid32 hb1
   clear HK
   have HK := Lib.hid hk
   clear hk hb1 a0 a1
   simp only [agV]
   go_wp2_with fail
   refine bodyPost_ret (results_ctt rfl _ _ (w.heap.size + 1) 35 #[.int .i64 _, .int .i64 _] (0, 0) _ rfl (blk_set2 HK.out _ _) Tryz.underlying35 rfl (by kernel_rfl)) rfl ?_
   exact ⟨by rw [HX.out]; rfl, below_set2 hbw (by omega) _ _⟩
 ·have hk := takes1 e
  have HX : Hid (leafR look t = .tuple #[agV (0, 0), .bool false, .nilIface]) := Lib.hid (by rw [leafR, if_neg (by omega)])
  have n1 : (t.f0 == 1) = false := beq_eq_false_iff_ne.mpr (by omega)
  have n2 : (t.f0 == 2) = false := beq_eq_false_iff_ne.mpr (by omega)
  have n15 : (t.f0 == 15) = false := beq_eq_false_iff_ne.mpr (by omega)
  have n16 : (t.f0 == 16) = false := beq_eq_false_iff_ne.mpr (by omega)
  go_enter Tryz.func109, Tryz.ntmps109
  go_wp2_with fail
  refine bodyPost_ret (results_ctt rfl _ _ (w.heap.size + 1) 35 #[.int .i64 _, .int .i64 _] (0, 0) _ rfl (HK.out) Tryz.underlying35 rfl (by kernel_rfl)) rfl ?_
  exact ⟨by rw [HX.out]; rfl, hbw⟩
 ·have hk := takes2 e
  have HX : Hid (leafR look t = .tuple #[agV (0, 0), .bool false, .nilIface]) := Lib.hid (by rw [leafR, if_neg (by omega)])
  have n1 : (t.f0 == 1) = false := beq_eq_false_iff_ne.mpr (by omega)
  have n2 : (t.f0 == 2) = false := beq_eq_false_iff_ne.mpr (by omega)
  have n15 : (t.f0 == 15) = false := beq_eq_false_iff_ne.mpr (by omega)
  have n16 : (t.f0 == 16) = false := beq_eq_false_iff_ne.mpr (by omega)
  go_enter Tryz.func109, Tryz.ntmps109
  go_wp2_with fail
  refine bodyPost_ret (results_ctt rfl _ _ (w.heap.size + 1) 35 #[.int .i64 _, .int .i64 _] (0, 0) _ rfl (HK.out) Tryz.underlying35 rfl (by kernel_rfl)) rfl ?_
  exact ⟨by rw [HX.out]; rfl, hbw⟩
end Go.Proofs.YtemoonhnncopoaaGreatDoor
end
section
namespace Go.Proofs.YtemoonhnncopoaaGreatDoor
open Go.RowKit
theorem code_info : (Tryz.prog.info? 93).map (·.comparable) = some true := by kernel_rfl
theorem eqErr (w : World) (a b : Int) : (binOp .eql 37 (.iface 93 (.int .i64 a)) (.iface 93 (.int .i64 b))).run Tryz.prog w = .ok (.bool (a == b)) w := by
 obtain ⟨i, h, hc⟩ := Option.map_eq_some_iff.1 code_info
 exact run_eql_iface_int w a b Tryz.underlying37 Tryz.underlying93 h hc
theorem neErrNil (w : World) (v : Value) : (binOp .neq 37 .nilIface (.iface 93 v)).run Tryz.prog w = .ok (.bool true) w :=
 run_neq_iface_nil_left w _ v Tryz.underlying37
end Go.Proofs.YtemoonhnncopoaaGreatDoor
end
