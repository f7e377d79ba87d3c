/- Texts of this claim, merged (Base, Epl, PX, Evl, Chp, Post, Box2, Tok, Parsep, Takes, Exprp, Exprw). -/
import Derived.Test.YtemoonhnncopoaaGreatDoorProg
import Derived.WalkKit
import Derived.ProofKit
import Derived.LaidEql
import Derived.WideLaws
import Derived.KernelRfl
import Derived.Lib.Hide
import Derived.OneCell
import Derived.OpenShut
import Derived.Deep.Slices
import Derived.Deep.LoopGhost
import Derived.Deep.Draws
import Derived.ChangeOld
import Derived.Maps.AppendAt
import Derived.Laws.Rows
import Derived.Deep.QuietTactic
import Derived.BigQuiet
import Derived.Outline
import Derived.Deep.AppendLies
import Derived.Test.YtemoonhnncopoaaGreatDoorZEnterWhole2
import Derived.Test.YtemoonhnncopoaaGreatDoorZEnterWhole4
import Derived.Test.YtemoonhnncopoaaGreatDoorZEnterWhole6
import Derived.Test.YtemoonhnncopoaaGreatDoorZEnterWhole7
import Derived.Test.YtemoonhnncopoaaGreatDoorZEnterWhole9
import Derived.Test.YtemoonhnncopoaaGreatDoorZEnterWhole8
import Derived.Test.YtemoonhnncopoaaGreatDoorZEnterWhole11
set_option linter.unusedVariables false
set_option linter.unusedSimpArgs false
set_option maxRecDepth 100000
set_option maxHeartbeats 8000000
section
namespace Go
section
variable {P : Program} (w : World)
theorem run_equalIn_iface_int (d : Nat) {ti tn : TypeId} {ms : Array (String × TypeId)} {i : TypeInfo} {k : IntKind} (a b : Int)
  (hi : P.underlying ti = some (.interface ms)) (hn : P.underlying tn = some (.int k)) (hinfo : P.info? tn = some i) (hcomp : i.comparable = true) :
  (Op.equalIn (d + 2) ti (.iface tn (.int k a)) (.iface tn (.int k b))).run P w = .ok (a == b) w := by
 simp [Op.equalIn, run_underlying hi, run_underlying hn, typeInfo, hinfo, hcomp]
theorem run_eql_iface_int {ti tn : TypeId} {ms : Array (String × TypeId)} {i : TypeInfo} {k : IntKind} (a b : Int)
  (hi : P.underlying ti = some (.interface ms)) (hn : P.underlying tn = some (.int k)) (hinfo : P.info? tn = some i) (hcomp : i.comparable = true) :
  (binOp .eql ti (.iface tn (.int k a)) (.iface tn (.int k b))).run P w = .ok (.bool (a == b)) w := by
 simp only [binOp]
 simp [Op.equal, Op.maxDepth, run_equalIn_iface_int w 9998 a b hi hn hinfo hcomp]
theorem run_neq_iface_nil_left {ti : TypeId} {ms : Array (String × TypeId)} (tp : TypeId) (v : Value) (hi : P.underlying ti = some (.interface ms)) :
  (binOp .neq ti .nilIface (.iface tp v)).run P w = .ok (.bool true) w := by
 have h : ∀ d : Nat, (Op.equalIn (d + 1) ti .nilIface (.iface tp v)).run P w = .ok false w := fun d => by simp [Op.equalIn, run_underlying hi]
 simp only [binOp]
 simp [Op.equal, Op.maxDepth, h 9999]
end
end Go
namespace Go.Proofs.YtemoonhnncopoaaGreatDoor
open Go.RowKit
theorem ret_int {k : IntKind} {a b : Int} (h : a = b) : Ending.returned (.int k a) = .returned (.int k b) := by rw [h]
theorem ret_bool {a b : Bool} (h : a = b) : Ending.returned (.bool a) = .returned (.bool b) := by rw [h]
structure Chg (S : Nat → Prop) (w w' : World) : Prop where
 os : w'.os = w.os
 tape : w'.tape = w.tape
 output : w'.output = w.output
 size : w.heap.size ≤ w'.heap.size
 block : ∀ k, k < w.heap.size → ¬ S k → w'.heap[k]? = w.heap[k]?
namespace Chg
variable {S S' : Nat → Prop} {a b c : World}
theorem refl (S : Nat → Prop) (w : World) : Chg S w w := ⟨rfl, rfl, rfl, Nat.le_refl _, fun _ _ _ => rfl⟩
theorem trans' (h : Chg S a b) (k : Chg S' b c) (hS : ∀ i, i < a.heap.size → S' i → S i) : Chg S a c :=
 ⟨k.os.trans h.os, k.tape.trans h.tape, k.output.trans h.output, Nat.le_trans h.size k.size,
  fun i hi hs => (k.block i (Nat.lt_of_lt_of_le hi h.size) (fun e => hs (hS i hi e))).trans (h.block i hi hs)⟩
theorem trans (h : Chg S a b) (k : Chg S b c) : Chg S a c := h.trans' k fun _ _ h => h
theorem drew (h : Chg S a b) : Chg S a b.drew := ⟨h.os, h.tape, h.output, h.size, h.block⟩
theorem drewN (h : Chg S a b) (n : Nat) : Chg S a (b.drewN n) := ⟨h.os, h.tape, h.output, h.size, h.block⟩
theorem alloc (h : Chg S a b) (o : Obj) : Chg S a (b.alloc o) :=
 h.trans ⟨rfl, rfl, rfl, by simp, fun k hk _ => Below.heap_alloc _ _ _ hk⟩
theorem setCell (h : Chg S a b) {p : Addr} (hp : p.block < a.heap.size → S p.block) (u : Value) : Chg S a (b.setCell p u) :=
 ⟨h.os, h.tape, h.output, Nat.le_trans h.size (by simp [World.setCell]), fun k hk hs => by
  rw [Below.heap_setCell _ _ _ _ (fun e => by subst e; exact hs (hp hk))]; exact h.block k hk hs⟩
theorem below {B : Nat} (h : Chg S a b) (hB : B ≤ a.heap.size) (hS : ∀ k, k < B → ¬ S k) : Below B a b :=
 ⟨h.os, h.tape, h.output, h.size, fun k hk => h.block k (Nat.lt_of_lt_of_le hk hB) (hS k hk)⟩
theorem of_below (h : Below a.heap.size a b) : Chg S a b := ⟨h.os, h.tape, h.output, h.size, fun k hk _ => h.block k hk⟩
theorem of_grown {row : Option Nat} (h : a.grownBy b row) (hS : ∀ k, row = some k → k < a.heap.size → S k) : Chg S a b :=
 ⟨h.os, h.tape, h.output, h.size, fun k hk hs => h.block k hk fun e => hs (hS k e.symm hk)⟩
theorem blk (h : Chg S a b) {g : Nat} {o : Obj} (hg : a.heap[g]? = some o) (hs : ¬ S g) : b.heap[g]? = some o :=
 (h.block g (lt_of_block hg) hs).trans hg
theorem cell (h : Chg S a b) {p : Addr} (hp : p.block < a.heap.size) (hs : ¬ S p.block) : b.cell? p = a.cell? p := World.cell?_of_block (w := a) (h.block p.block hp hs)
end Chg
theorem blk_drewN {w : World} {g : Nat} {o : Obj} (n : Nat) (h : w.heap[g]? = some o) : (w.drewN n).heap[g]? = some o := h
theorem blk_alloc {w : World} {g : Nat} {o : Obj} (o' : Obj) (h : w.heap[g]? = some o) : (w.alloc o').heap[g]? = some o :=
 (Below.heap_alloc _ _ _ (lt_of_block h)).trans h
theorem blk_new (w : World) (o : Obj) : (w.alloc o).heap[w.heap.size]? = some o := heap_alloc_new w o
theorem blk_far {w : World} {g : Nat} {o : Obj} {p : Addr} (h : w.heap[g]? = some o) (hp : g ≠ p.block) (u : Value) : (w.setCell p u).heap[g]? = some o := (Below.heap_setCell w p u g hp).trans h
theorem blk_set {w : World} {g : Nat} {t : TypeId} {cs : Array Value} {fr : Nat × Nat} (h : w.heap[g]? = some (.cells cs t fr)) (i : Nat) (u : Value) :
  (w.setCell ⟨g, i, none⟩ u).heap[g]? = some (.cells (cs.setIfInBounds i u) t fr) := by
 have hlt := lt_of_block h
 have h' : w.heap[g] = .cells cs t fr := by simpa [Array.getElem?_eq_getElem hlt] using h
 show (w.heap.modify g _)[g]? = _
 rw [Array.getElem?_eq_getElem (by simpa using hlt), Array.getElem_modify_self, h']
 rfl
theorem blk_cell {w : World} {g : Nat} {t : TypeId} {cs : Array Value} {fr : Nat × Nat} (h : w.heap[g]? = some (.cells cs t fr)) (i : Nat) : w.cell? ⟨g, i, none⟩ = cs[i]? := by
 simp [World.cell?, h]
theorem blk_free {w : World} {g : Nat} {t : TypeId} {cs : Array Value} (h : w.heap[g]? = some (.cells cs t (0, 0))) (i : Nat) : w.frozen? ⟨g, i, none⟩ = false := by simp [World.frozen?, h]
structure Rep (α : Type) where
 size : Nat
 ok : (Nat → Prop) → World → List Value → α → Prop
 mono : ∀ {F F' : Nat → Prop} {w w' : World} {cs : List Value} {x : α}, (∀ b, F b → F' b) → (∀ b, F b → b < w.heap.size → w'.heap[b]? = w.heap[b]?) → ok F w cs x → ok F' w' cs x
def Rep.unit : Rep Unit := ⟨0, fun _ _ cs _ => cs = [], fun _ _ h => h⟩
def Rep.int (k : IntKind) : Rep Int := ⟨1, fun _ _ cs x => cs = [.int k x] ∧ (Lit.int k x).wf = true, fun _ _ h => h⟩
def Rep.bool : Rep Bool := ⟨1, fun _ _ cs x => cs = [.bool x], fun _ _ h => h⟩
def Rep.str : Rep ByteArray := ⟨1, fun _ _ cs x => cs = [.string x] ∧ x.size ≤ maxLen, fun _ _ h => h⟩
def Rep.pair {α β : Type} (R : Rep α) (S : Rep β) : Rep (α × β) :=
 ⟨R.size + S.size, fun F w cs x => ∃ c d, cs = c ++ d ∧ c.length = R.size ∧ R.ok F w c x.1 ∧ S.ok F w d x.2,
  fun hF hw ⟨c, d, h1, h2, h3, h4⟩ => ⟨c, d, h1, h2, R.mono hF hw h3, S.mono hF hw h4⟩⟩
theorem cell_agree {w w' : World} {b : Nat} (h : b < w.heap.size → w'.heap[b]? = w.heap[b]?) {o : Nat} {v : Value} (hc : w.cell? ⟨b, o, none⟩ = some v) : w'.cell? ⟨b, o, none⟩ = some v := by
 have hlt := World.block_lt_of_cell? w _ hc
 exact (World.cell?_of_block (w := w) (a := ⟨b, o, none⟩) (h hlt)).trans hc
def Rep.slice {α : Type} (R : Rep α) : Rep (List α) :=
 ⟨1, fun F w cs xs => (∃ a cap, cs = [.slice a 0 cap] ∧ xs = []) ∨
   ∃ b off cap, cs = [.slice (some ⟨b, off, none⟩) xs.length cap] ∧ F b ∧ b < w.heap.size ∧ xs ≠ [] ∧ xs.length ≤ cap ∧ cap ≤ maxLen ∧
    ∀ i (h : i < xs.length), ∃ c : List Value, c.length = R.size ∧ (∀ j (hj : j < c.length), w.cell? ⟨b, off + i * R.size + j, none⟩ = some c[j]) ∧ R.ok F w c xs[i],
  fun {F F' w w' cs xs} hF hw h => by
  rcases h with h | ⟨b, off, cap, h1, h2, hlt, h3, h4, h5, h6⟩
  ·exact .inl h
  ·refine .inr ⟨b, off, cap, h1, hF b h2, ?_, h3, h4, h5, fun i hi => ?_⟩
   ·have := hw b h2 hlt
    rw [Array.getElem?_eq_getElem hlt] at this
    exact lt_of_block this
   obtain ⟨c, hc, hcell, hok⟩ := h6 i hi
   exact ⟨c, hc, fun j hj => cell_agree (hw b h2) (hcell j hj), R.mono hF hw hok⟩⟩
def Reads {α : Type} (P : Program) (t : TypeId) (R : Rep α) : Prop :=
 R.size = P.cellsOf t ∧ ∀ {H : Type} (enc : TypeId × Value → H) (w : World) (fuel : Nat) (cs : List Value) (d : DataW H × List MemPlace),
  DataW.trod enc P w 0 (fun _ => true) true fuel t cs = some d → ∃ x, R.ok (fun b => b < w.heap.size) w cs x ∧ cs.length = R.size
theorem reads_int {P : Program} {t : TypeId} {k : IntKind} (ht : P.underlying t = some (.int k)) (hs : P.cellsOf t = 1) : Reads P t (Rep.int k) := by
 refine ⟨hs.symm, fun enc w fuel cs d h => ?_⟩
 obtain ⟨n, rfl, _, hw⟩ := DataW.trod_int ht h
 exact ⟨n, ⟨rfl, hw⟩, rfl⟩
theorem reads_bool {P : Program} {t : TypeId} (ht : P.underlying t = some .bool) (hs : P.cellsOf t = 1) : Reads P t Rep.bool := by
 refine ⟨hs.symm, fun enc w fuel cs d h => ?_⟩
 obtain ⟨b, rfl, _⟩ := DataW.trod_bool ht h
 exact ⟨b, rfl, rfl⟩
theorem reads_str {P : Program} {t : TypeId} (ht : P.underlying t = some .string) (hs : P.cellsOf t = 1) : Reads P t Rep.str := by
 refine ⟨hs.symm, fun enc w fuel cs d h => ?_⟩
 obtain ⟨b, rfl, _, hw⟩ := DataW.trod_string ht h
 exact ⟨b, ⟨rfl, hw⟩, rfl⟩
def FieldsOk {α : Type} (P : Program) (o : Nat) (fs : List Field) (R : Rep α) : Prop :=
 ∀ {H : Type} (enc : TypeId × Value → H) (w : World) (fuel : Nat) (cs : List Value),
  (∀ f, f ∈ fs → ∃ d, DataW.trod enc P w 0 (fun _ => true) true fuel f.type ((cs.drop f.offset).take (P.cellsOf f.type)) = some d) → o + R.size ≤ cs.length →
  ∃ x, R.ok (fun b => b < w.heap.size) w ((cs.drop o).take R.size) x
theorem fields_nil (P : Program) (o : Nat) : FieldsOk P o [] Rep.unit := fun enc w fuel cs _ _ => ⟨(), by simp [Rep.unit]⟩
theorem fields_cons {α β : Type} {P : Program} {o : Nat} {f : Field} {fs : List Field} {R : Rep α} {S : Rep β} (hf : f.offset = o) (hR : Reads P f.type R) (hS : FieldsOk P (o + R.size) fs S) :
  FieldsOk P o (f :: fs) (R.pair S) := by
 intro H enc w fuel cs h hl
 have hl' : o + (R.size + S.size) ≤ cs.length := hl
 obtain ⟨d, hd⟩ := h f (by simp)
 obtain ⟨x, hx, hlen⟩ := hR.2 enc w fuel _ d hd
 obtain ⟨y, hy⟩ := hS enc w fuel cs (fun g hg => h g (by simp [hg])) (by omega)
 rw [hf, ← hR.1] at hx hlen
 refine ⟨(x, y), (cs.drop o).take R.size, (cs.drop (o + R.size)).take S.size, ?_, hlen, hx, hy⟩
 show (cs.drop o).take (R.size + S.size) = _
 rw [List.take_add, List.drop_drop]
theorem reads_struct {α : Type} {P : Program} {t : TypeId} {fs : Array Field} {R : Rep α} (ht : P.underlying t = some (.struct fs)) (hf : FieldsOk P 0 fs.toList R) (hs : R.size = P.cellsOf t) : Reads P t R := by
 refine ⟨hs, fun enc w fuel cs d h => ?_⟩
 obtain ⟨xs, n, rfl, rfl, hl, hxs, hfs⟩ := DataW.trod_struct ht h
 obtain ⟨x, hx⟩ := hf enc w n cs (fun f hfm => by
  obtain ⟨i, hi⟩ := List.mem_iff_getElem?.1 hfm
  have hi' : fs[i]? = some f := by simpa using hi
  have hlt : i < fs.size := (Array.getElem?_eq_some_iff.1 hi').1
  have hlt' : i < xs.length := by omega
  exact ⟨xs[i], (hfs i f hi').trans (List.getElem?_eq_getElem hlt')⟩) (by omega)
 refine ⟨x, ?_, by omega⟩
 rw [List.drop_zero, List.take_of_length_le (by omega)] at hx
 exact hx
theorem choose_list {α : Type} (n : Nat) (p : Nat → α → Prop) (h : ∀ i, i < n → ∃ x, p i x) : ∃ xs : List α, xs.length = n ∧ ∀ i (hi : i < xs.length), p i xs[i] := by
 induction n with
 | zero => exact ⟨[], rfl, fun i hi => by simp at hi⟩
 | succ n ih =>
  obtain ⟨xs, hl, hxs⟩ := ih fun i hi => h i (by omega)
  obtain ⟨x, hx⟩ := h n (by omega)
  refine ⟨xs ++ [x], by simp [hl], fun i hi => ?_⟩
  by_cases hin : i < xs.length
  ·rw [List.getElem_append_left hin]; exact hxs i hin
  ·have : i = n := by simp at hi; omega
   subst this
   rw [List.getElem_append_right (by omega)]; simpa using hx
theorem spot_of_cell {w : World} {a : Addr} {v : Value} (h : w.cell? a = some v) : a.spot = none := by
 unfold World.cell? at h
 split at h
 ·split at h
  ·cases h
  ·rename_i hs; simpa using hs
 ·cases h
theorem add_at (b off n : Nat) : (⟨b, off, none⟩ : Addr).add n = ⟨b, off + n, none⟩ := by
 unfold Addr.add; split <;> simp_all
theorem reads_slice {α : Type} {P : Program} {t e : TypeId} {R : Rep α} (ht : P.underlying t = some (.slice e)) (hs : P.cellsOf t = 1) (he : Reads P e R) (hpos : 0 < R.size) : Reads P t R.slice := by
 refine ⟨hs.symm, fun enc w fuel cs d h => ?_⟩
 rcases DataW.trod_slice ht h with ⟨rfl, _⟩ | ⟨a, len, cap, elems, rest, n, rfl, rfl, _, _, hle, hcap, hlen, hel, _, _⟩
 ·exact ⟨[], .inl ⟨none, 0, rfl, rfl⟩, rfl⟩
 ·by_cases h0 : len = 0
  ·subst h0
   exact ⟨[], .inl ⟨some a, cap, rfl, rfl⟩, rfl⟩
  have key : ∀ i, i < len → ∃ x : α, ∃ c : List Value, c.length = R.size ∧ (∀ j (hj : j < c.length), w.cell? (a.add (i * R.size) |>.add j) = some c[j]) ∧ R.ok (fun b => b < w.heap.size) w c x := by
   intro i hi
   have := hel i hi
   rw [List.getElem?_eq_getElem (by omega)] at this
   obtain ⟨c, hc, hd⟩ := Option.bind_eq_some_iff.1 this
   obtain ⟨x, hx, hl⟩ := he.2 enc w n c _ hd
   obtain ⟨_, hl2, hcell⟩ := World.cells?_some hc
   refine ⟨x, c, hl, fun j hj => ?_, hx⟩
   rw [he.1, hcell j (by omega)]
   exact List.getElem?_eq_getElem hj
  obtain ⟨x0, c0, hc0, hcell0, _⟩ := key 0 (by omega)
  have hsp := hcell0 0 (by omega)
  have hblk := World.block_lt_of_cell? w _ hsp
  have hspot : a.spot = none := by
   have := spot_of_cell hsp
   simpa [Addr.add] using this
  obtain ⟨b, off, spot⟩ := a
  obtain rfl : spot = none := hspot
  simp only [add_at] at key hblk
  obtain ⟨xs, hxl, hxs⟩ := choose_list len _ key
  refine ⟨xs, .inr ⟨b, off, cap, by rw [hxl], hblk, hblk, fun e => by subst e; simp at hxl; omega, by omega, hcap, fun i hi => ?_⟩, rfl⟩
  exact hxs i hi
theorem own_shape {w : World} {B : Nat} {e : TypeId} {size n : Nat} {v : Value} {xs : List Value} (h : w.ownsRow B e size v n xs) (hn : 0 < n) :
  ∃ g cap, v = .slice (some ⟨g, 0, none⟩) n cap ∧ B ≤ g ∧ g < w.heap.size ∧ n ≤ cap ∧ cap ≤ maxLen ∧ (∀ j u, xs[j]? = some u → w.cell? ⟨g, j, none⟩ = some u) ∧ ∀ j, w.frozen? ⟨g, j, none⟩ = false := by
 obtain ⟨hl, ⟨rfl, rfl⟩ | ⟨g, cap, cur, rfl, hB, hg, hc, hm, hs, ht⟩⟩ := h
 ·omega
 refine ⟨g, cap, rfl, hB, lt_of_block hg, hc, hm, fun j u hj => ?_, fun j => blk_free hg j⟩
 rw [blk_cell hg j, ← Array.getElem?_toList]
 have hjl : j < xs.length := (List.getElem?_eq_some_iff.1 hj).1
 rw [← ht] at hj
 rw [List.getElem?_take] at hj
 split at hj
 ·exact hj
 ·cases hj
theorem own_slice {w : World} {B : Nat} {e : TypeId} {size n : Nat} {v : Value} {xs : List Value} (h : w.ownsRow B e size v n xs) : ∃ A cap, v = .slice A n cap := by
 obtain ⟨_, ⟨rfl, rfl⟩ | ⟨g, cap, cur, rfl, _⟩⟩ := h
 ·exact ⟨_, _, rfl⟩
 ·exact ⟨_, _, rfl⟩
theorem own_lt {w : World} {B : Nat} {e : TypeId} {size n : Nat} {v : Value} {xs : List Value} (h : w.ownsRow B e size v n xs) (k : Nat) (hk : v.ownBlock = some k) : B ≤ k ∧ k < w.heap.size := h.lt k hk
theorem own_chg {w w' : World} {B : Nat} {e : TypeId} {size n : Nat} {v : Value} {xs : List Value} {S : Nat → Prop} (h : w.ownsRow B e size v n xs) (hc : Chg S w w') (hs : ∀ k, v.ownBlock = some k → ¬ S k) : w'.ownsRow B e size v n xs := by
 obtain ⟨hl, ⟨rfl, rfl⟩ | ⟨g, cap, cur, rfl, hB, hg, r⟩⟩ := h
 ·exact ⟨hl, .inl ⟨rfl, rfl⟩⟩
 ·exact ⟨hl, .inr ⟨g, cap, cur, rfl, hB, hc.blk hg (hs g rfl), r⟩⟩
theorem own_far {w : World} {B : Nat} {e : TypeId} {size n : Nat} {v : Value} {xs : List Value} (h : w.ownsRow B e size v n xs) {p : Addr} (hp : v.ownBlock ≠ some p.block) (u : Value) : (w.setCell p u).ownsRow B e size v n xs := ownsRow_setCell_other h hp u
theorem blk_ne {w : World} {g g' : Nat} {t t' : TypeId} {cs cs' : Array Value} {fr fr' : Nat × Nat} (h : w.heap[g]? = some (.cells cs t fr)) (h' : w.heap[g']? = some (.cells cs' t' fr')) (hne : t ≠ t') : g ≠ g' := by
 rintro rfl
 rw [h] at h'
 injection h' with h'
 injection h' with _ ht
 exact hne ht
section app
variable {P : Program} {ops : Array Oper} {rest : List Oper} {o : Oper} {a : Act} {Q : Exit → Act → World → Prop}
theorem app_from {W : World} (hgd : o.guard = none) (s x : Operand) (t e : TypeId) (z : Value) (size bytes : Nat)
  (ho : o.op = .call { callee := .builtin .append, args := #[s, x], argTypes := #[t, t] })
  (ht : P.underlying t = some (.slice e)) (hinfo : (P.info? e).map (fun i => (i.zero, i.size, i.bytes)) = some (some z, size, bytes)) (hz : z.cells.size = size) (hs0 : 0 < size) (hb0 : 0 < bytes)
  (B : Nat) (v : Value) (n : Nat) (xs ys : List Value) (ad : Addr) (m c : Nat) (hs : a.eval s = v) (hx : a.eval x = .slice (some ad) m c) (hys : ys.length = m * size) (h1 : ∀ u ∈ ys, u.oneCell' = true)
  (hc : ∀ j u, ys[j]? = some u → W.cell? (ad.add j) = some u)
  (HO : W.ownsRow B e size v n xs) (hbase : B ≤ W.heap.size) (hl : (n + m) * bytes ≤ 140737488355328)
  (h : ∀ v1 w1, w1.ownsRow B e size v1 (n + m) (xs ++ ys) → Chg (fun k => v.ownBlock = some k) W w1 → (v1.ownBlock = v.ownBlock ∨ v1.ownBlock = some W.heap.size) → wpList P ops Q rest (a.put o.dst v1) w1) :
  wpList P ops Q (o :: rest) a W := by
 obtain ⟨i0, hi, hzz⟩ := Option.map_eq_some_iff.1 hinfo
 simp only [Prod.mk.injEq] at hzz
 obtain ⟨hz0, hz1, hz2⟩ := hzz
 have hlen : n + m ≤ 140737488355328 := Nat.le_trans (Nat.le_mul_of_pos_right _ hb0) hl
 refine wpList_append_own_at W hgd s x t ho B e i0 z size bytes ht hi hz0 hz1 hz2 hz hs0 v n xs hs HO ad m c ys hx hys hc h1 (by simp only [maxLen]; omega) hl hbase ?_
 intro v1 w1 hown hg _ hat
 exact h v1 w1 hown (Chg.of_grown hg fun k hk _ => hk) hat
theorem app_one {W : World} (hgd : o.guard = none) (s x : Operand) (t e : TypeId) (z : Value) (size bytes : Nat)
  (ho : o.op = .call { callee := .builtin .append, args := #[s, x], argTypes := #[t, t] })
  (ht : P.underlying t = some (.slice e)) (hinfo : (P.info? e).map (fun i => (i.zero, i.size, i.bytes)) = some (some z, size, bytes)) (hz : z.cells.size = size) (hs0 : 0 < size) (hb0 : 0 < bytes)
  (B : Nat) (v : Value) (n : Nat) (xs : List Value) (ys : Array Value) (N : Nat) (hs : a.eval s = v) (hx : a.eval x = .slice (some ⟨N, 0, none⟩) 1 1) (hN : N = W.heap.size) (hys : ys.size = size) (h1 : ∀ u ∈ ys.toList, u.oneCell' = true)
  (HO : W.ownsRow B e size v n xs) (hbase : B ≤ W.heap.size) (hl : (n + 1) * bytes ≤ 140737488355328)
  (h : ∀ v1 w1, w1.ownsRow B e size v1 (n + 1) (xs ++ ys.toList) → Chg (fun k => v.ownBlock = some k) W w1 → (v1.ownBlock = v.ownBlock ∨ ∃ b, v1.ownBlock = some b ∧ W.heap.size ≤ b) → wpList P ops Q rest (a.put o.dst v1) w1) :
  wpList P ops Q (o :: rest) a (W.alloc (.cells ys e)) := by
 subst hN
 refine app_from hgd s x t e z size bytes ho ht hinfo hz hs0 hb0 B v n xs ys.toList ⟨W.heap.size, 0, none⟩ 1 1 hs hx (by simp [hys]) h1
  (by simpa using World.news_of_block (cs := ys) (t := e) (fr := (0, 0)) (heap_alloc_new W (.cells ys e))) (HO.alloc _) (by simp; omega) hl ?_
 intro v1 w1 hown hg hat
 refine h v1 w1 hown (((Chg.refl (fun k => v.ownBlock = some k) W).alloc _).trans hg) ?_
 rcases hat with hat | hat
 ·exact .inl hat
 ·exact .inr ⟨_, hat, by simp⟩
end app
end Go.Proofs.YtemoonhnncopoaaGreatDoor
end
section
namespace Go.Proofs.YtemoonhnncopoaaGreatDoor.Ent
structure Shp where
 n : Nat
 kind : Int → Int
 par : Int → Int
 ini : Int → Int
 kids : Int → List Int
 bel : Int → Nat
 up : Int → List Int
 stands : Int → List Int
abbrev ES := Nat × Nat
def regE (sh : Shp) (d : ES → Int → ES) (S : ES) (s : Int) : ES := (sh.kids s).foldl (fun S k => if S.1 &&& sh.bel k = 0 then d S k else S) S
def abvL (sh : Shp) (d : ES → Int → ES) (tz : Int) : List Int → ES → ES
 | [], S => S
 | x :: r, S => if x = tz then S else abvL sh d tz r (if sh.kind x = 3 then regE sh d (S.1 ||| 2 ^ x.toNat, S.2) x else (S.1 ||| 2 ^ x.toNat, S.2))
def abvE (sh : Shp) (d : ES → Int → ES) (S : ES) (s tz : Int) : ES := abvL sh d tz (sh.up s) S
def dwnE (sh : Shp) : Nat → ES → Int → ES
 | 0, S, _ => S
 | f + 1, S, s =>
  if S.2 = 0 ∨ (sh.n : Int) ≤ s then S
  else if sh.kind s = 5 ∨ sh.kind s = 6 then
   (sh.stands s).foldl (fun S y => abvE sh (dwnE sh f) S y (sh.par s)) ((sh.stands s).foldl (dwnE sh f) (S.1, S.2 - 1))
  else if sh.kind s = 2 then abvE sh (dwnE sh f) (dwnE sh f (S.1 ||| 2 ^ s.toNat, S.2 - 1) (sh.ini s)) (sh.ini s) s
  else if sh.kind s = 3 then regE sh (dwnE sh f) (S.1 ||| 2 ^ s.toNat, S.2 - 1) s
  else (S.1 ||| 2 ^ s.toNat, S.2 - 1)
def has (S : Nat) (x : Int) : Prop := 0 ≤ x ∧ S.testBit x.toNat = true
def cnt (n : Nat) (S : Nat) : Nat := ((List.range n).filter (fun x => S.testBit x)).length
structure ShOk (sh : Shp) (In : Int → Int → Prop) : Prop where
 few : sh.n ≤ 24
 parent : ∀ s : Int, 0 < s → s < sh.n → 0 ≤ sh.par s ∧ sh.par s < s
 root : sh.par 0 = -1
 kinds : ∀ s : Int, 0 ≤ s → s < sh.n → 1 ≤ sh.kind s ∧ sh.kind s ≤ 6
 inner : ∀ s : Int, 0 < s → s < sh.n → sh.kind (sh.par s) = 2 ∨ sh.kind (sh.par s) = 3
 kid : ∀ s k : Int, k ∈ sh.kids s ↔ 0 < k ∧ k < sh.n ∧ sh.par k = s ∧ sh.kind k < 5
 some : ∀ s : Int, 0 ≤ s → s < sh.n → sh.kind s = 2 ∨ sh.kind s = 3 → ∃ k, k ∈ sh.kids s
 ins : ∀ a b : Int, In a b ↔ 0 < a ∧ a < sh.n ∧ 0 ≤ b ∧ (sh.par a = b ∨ In (sh.par a) b)
 below : ∀ s x : Int, has (sh.bel s) x ↔ In x s ∧ sh.kind x < 5
 ups : ∀ s : Int, 0 ≤ s → s < sh.n → sh.up s = if 0 < s then sh.par s :: sh.up (sh.par s) else []
 init : ∀ s : Int, 0 ≤ s → s < sh.n → sh.kind s = 2 → In (sh.ini s) s ∧ sh.kind (sh.ini s) < 5
 loss : ∃ L : Int → Nat, (∀ c : Int, L c ≤ 32) ∧ ∀ c : Int, 0 < c → c < sh.n → L (sh.par c) + (sh.kids (sh.par c)).length ≤ L c
theorem has_or {S : Nat} {y x : Int} (hy : 0 ≤ y) : has (S ||| 2 ^ y.toNat) x ↔ has S x ∨ x = y := by
 unfold has
 rw [Nat.testBit_or, Nat.testBit_two_pow]
 constructor
 ·rintro ⟨h0, h⟩
  rw [Bool.or_eq_true] at h
  rcases h with h | h
  ·exact .inl ⟨h0, h⟩
  ·exact .inr (by have := of_decide_eq_true h; omega)
 ·rintro (⟨h0, h⟩ | rfl)
  ·exact ⟨h0, by rw [h]; rfl⟩
  ·exact ⟨hy, by simp⟩
theorem cnt_le (n S : Nat) : cnt n S ≤ n := by
 unfold cnt
 exact Nat.le_trans (List.length_filter_le _ _) (by simp)
theorem filt_le {α : Type} {p q : α → Bool} (l : List α) (h : ∀ x ∈ l, p x = true → q x = true) : (l.filter p).length ≤ (l.filter q).length := by
 induction l with
 | nil => simp
 | cons a l ih =>
  have := ih (fun x hx => h x (List.mem_cons_of_mem _ hx))
  have ha := h a (List.mem_cons_self ..)
  simp only [List.filter_cons]
  cases hp : p a with
  | false => cases q a <;> simp <;> omega
  | true => rw [ha hp]; simp; omega
theorem filt_lt {α : Type} {p q : α → Bool} (l : List α) (h : ∀ x ∈ l, p x = true → q x = true) (y : α) (hy : y ∈ l) (h1 : p y = false) (h2 : q y = true) : (l.filter p).length + 1 ≤ (l.filter q).length := by
 induction l with
 | nil => simp at hy
 | cons a l ih =>
  have ha := h a (List.mem_cons_self ..)
  have hl := filt_le l (fun x hx => h x (List.mem_cons_of_mem _ hx))
  simp only [List.filter_cons]
  rcases List.mem_cons.1 hy with rfl | hy
  ·rw [h1, h2]; simp; omega
  ·have := ih (fun x hx => h x (List.mem_cons_of_mem _ hx)) hy
   cases hp : p a with
   | false => cases q a <;> simp <;> omega
   | true => rw [ha hp]; simp; omega
theorem cnt_or (n S x : Nat) : cnt n S ≤ cnt n (S ||| 2 ^ x) := by
 unfold cnt
 exact filt_le _ (fun y _ h => by rw [Nat.testBit_or, h]; rfl)
theorem cnt_new {n S x : Nat} (hx : x < n) (h : S.testBit x = false) : cnt n S + 1 ≤ cnt n (S ||| 2 ^ x) := by
 unfold cnt
 exact filt_lt _ (fun y _ h => by rw [Nat.testBit_or, h]; rfl) x (List.mem_range.2 hx) h (by rw [Nat.testBit_or, Nat.testBit_two_pow_self]; simp)
section
variable {sh : Shp} {In : Int → Int → Prop} (ok : ShOk sh In)
include ok
theorem in_lt {a b : Int} (h : In a b) : 0 ≤ b ∧ b < a ∧ a < sh.n := by
 have key : ∀ (m : Nat) (a : Int), a.toNat ≤ m → In a b → 0 ≤ b ∧ b < a ∧ a < sh.n := by
  intro m
  induction m with
  | zero => intro a ha h; have := ((ok.ins a b).1 h).1; omega
  | succ m ih =>
   intro a ha h
   obtain ⟨h1, h2, h3, h4⟩ := (ok.ins a b).1 h
   have := ok.parent a h1 h2
   rcases h4 with h4 | h4
   ·omega
   ·have := ih (sh.par a) (by omega) h4
    omega
 exact key a.toNat a (Nat.le_refl _) h
theorem in_par {a : Int} (h0 : 0 < a) (h1 : a < sh.n) : In a (sh.par a) := (ok.ins a _).2 ⟨h0, h1, (ok.parent a h0 h1).1, .inl rfl⟩
theorem in_tr {a b c : Int} (h : In a b) (k : In b c) : In a c := by
 have key : ∀ (m : Nat) (a : Int), a.toNat ≤ m → In a b → In a c := by
  intro m
  induction m with
  | zero => intro a ha h; have := ((ok.ins a b).1 h).1; omega
  | succ m ih =>
   intro a ha h
   obtain ⟨h1, h2, h3, h4⟩ := (ok.ins a b).1 h
   have := ok.parent a h1 h2
   refine (ok.ins a c).2 ⟨h1, h2, (in_lt ok k).1, .inr ?_⟩
   rcases h4 with h4 | h4
   ·rw [h4]; exact k
   ·exact ih _ (by omega) h4
 exact key a.toNat a (Nat.le_refl _) h
theorem in_ne {a b : Int} (h : In a b) : a ≠ b := by have := in_lt ok h; omega
theorem in_row {a b c : Int} (h : In a b) (k : In a c) : b = c ∨ In b c ∨ In c b := by
 have key : ∀ (m : Nat) (a : Int), a.toNat ≤ m → In a b → In a c → b = c ∨ In b c ∨ In c b := by
  intro m
  induction m with
  | zero => intro a ha h; have := ((ok.ins a b).1 h).1; omega
  | succ m ih =>
   intro a ha h k
   obtain ⟨h1, h2, h3, h4⟩ := (ok.ins a b).1 h
   obtain ⟨_, _, k3, k4⟩ := (ok.ins a c).1 k
   have := ok.parent a h1 h2
   rcases h4 with h4 | h4 <;> rcases k4 with k4 | k4
   ·exact .inl (h4.symm.trans k4)
   ·exact .inr (.inl (h4 ▸ k4))
   ·exact .inr (.inr (k4 ▸ h4))
   ·exact ih _ (by omega) h4 k4
 exact key a.toNat a (Nat.le_refl _) h k
abbrev at' (In : Int → Int → Prop) (x k : Int) : Prop := x = k ∨ In x k
theorem kid_in {s k : Int} (h : k ∈ sh.kids s) : In k s := by
 obtain ⟨h1, h2, h3, h4⟩ := (ok.kid s k).1 h
 rw [← h3]; exact in_par ok h1 h2
theorem at_in {x k s : Int} (h : at' In x k) (i : In k s) : In x s := by
 rcases h with rfl | h
 ·exact i
 ·exact in_tr ok h i
theorem toward {x s : Int} (h : In x s) (hk : sh.kind x < 5) : ∃ k, k ∈ sh.kids s ∧ at' In x k := by
 have key : ∀ (m : Nat) (x : Int), x.toNat ≤ m → sh.kind x < 5 → In x s → ∃ k, k ∈ sh.kids s ∧ at' In x k := by
  intro m
  induction m with
  | zero => intro a ha _ h; have := ((ok.ins a s).1 h).1; omega
  | succ m ih =>
   intro x hx hk h
   obtain ⟨h1, h2, h3, h4⟩ := (ok.ins x s).1 h
   have := ok.parent x h1 h2
   rcases h4 with h4 | h4
   ·exact ⟨x, (ok.kid s x).2 ⟨h1, h2, h4, hk⟩, .inl rfl⟩
   ·have hp := ok.inner x h1 h2
    obtain ⟨k, hk1, hk2⟩ := ih _ (by omega) (by omega) h4
    refine ⟨k, hk1, .inr ?_⟩
    rcases hk2 with rfl | hk2
    ·exact in_par ok h1 h2
    ·exact in_tr ok (in_par ok h1 h2) hk2
 exact key x.toNat x (Nat.le_refl _) hk h
theorem kid_one {s x k j : Int} (hk : k ∈ sh.kids s) (hj : j ∈ sh.kids s) (h1 : at' In x k) (h2 : at' In x j) : k = j := by
 obtain ⟨a1, a2, a3, _⟩ := (ok.kid s k).1 hk
 obtain ⟨b1, b2, b3, _⟩ := (ok.kid s j).1 hj
 have no : ∀ {u v : Int}, u ∈ sh.kids s → v ∈ sh.kids s → In u v → False := by
  intro u v hu hv h
  obtain ⟨u1, u2, u3, _⟩ := (ok.kid s u).1 hu
  obtain ⟨v1, v2, v3, _⟩ := (ok.kid s v).1 hv
  obtain ⟨_, _, _, h⟩ := (ok.ins u v).1 h
  rw [u3] at h
  have := (in_lt ok (kid_in ok hv)).2.1
  rcases h with h | h
  ·omega
  ·have := (in_lt ok h).2.1; omega
 rcases h1 with rfl | h1 <;> rcases h2 with rfl | h2
 ·rfl
 ·exact (no hk hj h2).elim
 ·exact (no hj hk h1).elim
 ·rcases in_row ok h1 h2 with h | h | h
  ·exact h
  ·exact (no hk hj h).elim
  ·exact (no hj hk h).elim
end
def Cont (In : Int → Int → Prop) (S : Nat) (k : Int) : Prop := ∃ x, has S x ∧ at' In x k
structure Inv (sh : Shp) (In : Int → Int → Prop) (S : Nat) (E : Int → Prop) : Prop where
 sub : ∀ x : Int, has S x → x < sh.n ∧ sh.kind x < 5
 one : ∀ s : Int, 0 ≤ s → s < sh.n → sh.kind s = 2 → ∀ k j : Int, k ∈ sh.kids s → j ∈ sh.kids s → Cont In S k → Cont In S j → k = j
 need2 : ∀ s : Int, has S s → ¬ E s → sh.kind s = 2 → ∃ k, k ∈ sh.kids s ∧ Cont In S k
 need3 : ∀ s : Int, has S s → ¬ E s → sh.kind s = 3 → ∀ k : Int, k ∈ sh.kids s → Cont In S k
def Fits (sh : Shp) (In : Int → Int → Prop) (S : Nat) (s : Int) : Prop := ∀ x : Int, In s x → sh.kind x = 2 → ∀ k : Int, k ∈ sh.kids x → Cont In S k → at' In s k
def pot (sh : Shp) (S : ES) : Nat := S.2 + 64 * cnt sh.n S.1
structure Dn (sh : Shp) (In : Int → Int → Prop) (E : Int → Prop) (S S' : ES) (s : Int) : Prop where
 inv : Inv sh In S'.1 E
 more : ∀ x : Int, has S.1 x → has S'.1 x
 self : has S'.1 s
 new : ∀ x : Int, has S'.1 x → has S.1 x ∨ x = s ∨ (In x s ∧ has S'.1 (sh.par x))
 left : S'.2 ≤ S.2
 pot : pot sh S ≤ pot sh S' + 1
def DnAll (sh : Shp) (In : Int → Int → Prop) (f : Nat) : Prop := ∀ (E : Int → Prop) (S : ES) (s : Int), 0 ≤ s → s < sh.n → sh.kind s < 5 → Inv sh In S.1 E → (∀ x, E x → ¬ at' In x s) →
 Fits sh In S.1 s → (∀ x, In x s → ¬ has S.1 x) → S.2 ≤ f → 1537 ≤ pot sh S → Dn sh In E S (dwnE sh f S s) s
section
variable {sh : Shp} {In : Int → Int → Prop} (ok : ShOk sh In)
include ok
theorem fits_has {E : Int → Prop} {S : Nat} (hi : Inv sh In S E) {s : Int} (hs : has S s) : Fits sh In S s := by
 intro x hx hk k hkk hc
 have hl := in_lt ok hx
 have h5 := (hi.sub s hs).2
 obtain ⟨j, hj, hsj⟩ := toward ok hx h5
 have := hi.one x hl.1 (by omega) hk k j hkk hj hc ⟨s, hs, hsj⟩
 rw [this]; exact hsj
theorem cont_path {S : Nat} {p c : Int} (hp : 0 ≤ p) (hc : has S c) (h : In c p) (k : Int) : Cont In (S ||| 2 ^ p.toNat) k ↔ Cont In S k := by
 constructor
 ·rintro ⟨x, hx, hk⟩
  rcases (has_or hp).1 hx with hx | rfl
  ·exact ⟨x, hx, hk⟩
  ·refine ⟨c, hc, .inr ?_⟩
   rcases hk with rfl | hk
   ·exact h
   ·exact in_tr ok h hk
 ·rintro ⟨x, hx, hk⟩
  exact ⟨x, (has_or hp).2 (.inl hx), hk⟩
theorem reg_ok {f : Nat} (hd : DnAll sh In f) {E : Int → Prop} {p : Int} (h3 : sh.kind p = 3) (hE : ∀ x, E x → ¬ In x p) (S : ES) (hi : Inv sh In S.1 (fun x => E x ∨ x = p)) (hp : has S.1 p) (hf : S.2 ≤ f)
  (hpot : 1537 + (sh.kids p).length ≤ pot sh S) :
  Inv sh In (regE sh (dwnE sh f) S p).1 E ∧ (∀ x, has S.1 x → has (regE sh (dwnE sh f) S p).1 x) ∧
   (∀ x, has (regE sh (dwnE sh f) S p).1 x → has S.1 x ∨ (In x p ∧ has (regE sh (dwnE sh f) S p).1 (sh.par x))) ∧ (regE sh (dwnE sh f) S p).2 ≤ S.2 ∧ pot sh S ≤ pot sh (regE sh (dwnE sh f) S p) + (sh.kids p).length := by
 have key : ∀ (l : List Int) (T : ES), (∀ k ∈ l, k ∈ sh.kids p) → Inv sh In T.1 (fun x => E x ∨ x = p) → has T.1 p → T.2 ≤ f → 1537 + l.length ≤ pot sh T → ∀ T', T' = l.foldl (fun S k => if S.1 &&& sh.bel k = 0 then dwnE sh f S k else S) T →
   Inv sh In T'.1 (fun x => E x ∨ x = p) ∧ (∀ x, has T.1 x → has T'.1 x) ∧ (∀ x, has T'.1 x → has T.1 x ∨ (In x p ∧ has T'.1 (sh.par x))) ∧ T'.2 ≤ T.2 ∧ pot sh T ≤ pot sh T' + l.length ∧ ∀ k ∈ l, Cont In T'.1 k := by
  intro l
  induction l with
  | nil =>
   rintro T _ hi hp hf hpot T' rfl
   exact ⟨hi, fun x h => h, fun x h => .inl h, Nat.le_refl _, Nat.le_refl _, fun k hk => absurd hk (by simp)⟩
  | cons k l ih =>
   rintro T hl hi hp hf hpot T' rfl
   have hk := hl k (List.mem_cons_self ..)
   obtain ⟨k1, k2, k3, k4⟩ := (ok.kid p k).1 hk
   have hkp := kid_in ok hk
   simp only [List.foldl_cons]
   simp only [List.length_cons] at hpot ⊢
   by_cases hb : T.1 &&& sh.bel k = 0
   ·rw [if_pos hb]
    have hno : ∀ x, In x k → ¬ has T.1 x := by
     intro x hx hh
     have h5 := (hi.sub x hh).2
     have h6 := (ok.below k x).2 ⟨hx, h5⟩
     have : (T.1 &&& sh.bel k).testBit x.toNat = true := by rw [Nat.testBit_and, hh.2, h6.2]; rfl
     rw [hb, Nat.zero_testBit] at this
     cases this
    have hfit : Fits sh In T.1 k := by
     by_cases hh : has T.1 k
     ·exact fits_has ok hi hh
     ·intro x hx hkx j hj hc
      rcases ((ok.ins k x).1 hx).2.2.2 with h | h
      ·rw [k3] at h; rw [← h] at hkx; omega
      ·rw [k3] at h
       have := fits_has ok hi hp x h hkx j hj hc
       exact .inr (this.elim (fun e => e ▸ hkp) (fun h => in_tr ok hkp h))
    have D := hd (fun x => E x ∨ x = p) T k (by omega) k2 k4 hi (by
     rintro x (hx | rfl) h
     ·exact hE x hx (at_in ok h hkp)
     ·rcases h with h | h
      ·exact in_ne ok hkp h.symm
      ·have := in_lt ok h; have := in_lt ok hkp; omega) hfit hno hf (by omega)
    obtain ⟨a1, a2, a3, a4, a5, a6⟩ := ih (dwnE sh f T k) (fun j hj => hl j (List.mem_cons_of_mem _ hj)) D.inv (D.more _ hp) (Nat.le_trans D.left hf) (by have := D.pot; omega) _ rfl
    refine ⟨a1, fun x h => a2 x (D.more x h), fun x h => ?_, Nat.le_trans a4 D.left, by have := D.pot; omega, fun j hj => ?_⟩
    ·rcases a3 x h with h | h
     ·rcases D.new x h with h | rfl | ⟨h1, h2⟩
      ·exact .inl h
      ·exact .inr ⟨hkp, by rw [k3]; exact a2 _ (D.more _ hp)⟩
      ·exact .inr ⟨in_tr ok h1 hkp, a2 _ h2⟩
     ·exact .inr h
    ·rcases List.mem_cons.1 hj with rfl | hj
     ·exact ⟨j, a2 _ D.self, .inl rfl⟩
     ·exact a6 j hj
   ·rw [if_neg hb]
    obtain ⟨a1, a2, a3, a4, a5, a6⟩ := ih T (fun j hj => hl j (List.mem_cons_of_mem _ hj)) hi hp hf (by omega) _ rfl
    refine ⟨a1, a2, a3, a4, by omega, fun j hj => ?_⟩
    rcases List.mem_cons.1 hj with rfl | hj
    ·have : ∃ i, (T.1 &&& sh.bel j).testBit i = true := by
      refine Classical.byContradiction (fun hn => hb ?_)
      refine Nat.eq_of_testBit_eq (fun i => ?_)
      rw [Nat.zero_testBit]
      exact Bool.eq_false_iff.2 (fun h => hn ⟨i, h⟩)
     obtain ⟨i, hi'⟩ := this
     rw [Nat.testBit_and, Bool.and_eq_true] at hi'
     refine ⟨(i : Int), a2 _ ⟨by omega, by simpa using hi'.1⟩, .inr ((ok.below j (i : Int)).1 ⟨by omega, by simpa using hi'.2⟩).1⟩
    ·exact a6 j hj
 obtain ⟨a1, a2, a3, a4, a5, a6⟩ := key (sh.kids p) S (fun k h => h) hi hp hf hpot _ rfl
 refine ⟨⟨a1.sub, a1.one, fun s hs hn h2 => a1.need2 s hs (by rintro (h | rfl); exact hn h; omega) h2, fun s hs hn h3' k hk => ?_⟩, a2, a3, a4, a5⟩
 by_cases hsp : s = p
 ·exact a6 k (hsp ▸ hk)
 ·exact a1.need3 s hs (by rintro (h | h); exact hn h; exact hsp h) h3' k hk
theorem abv_ok {f : Nat} (hd : DnAll sh In f) {L : Int → Nat} (hL : ∀ c : Int, 0 < c → c < sh.n → L (sh.par c) + (sh.kids (sh.par c)).length ≤ L c) {E : Int → Prop} {tz : Int} (hE : ∀ x, E x → ¬ In x tz) (m : Nat) :
  ∀ (c : Int) (S : ES), c.toNat ≤ m → In c tz → Inv sh In S.1 E → has S.1 c → S.2 ≤ f → 1537 + L c ≤ pot sh S → ∀ S', S' = abvE sh (dwnE sh f) S c tz →
  Inv sh In S'.1 E ∧ (∀ x, has S.1 x → has S'.1 x) ∧ (∀ x, In c x → In x tz → has S'.1 x) ∧ (∀ x, has S'.1 x → has S.1 x ∨ (In x tz ∧ (has S'.1 (sh.par x) ∨ sh.par x = tz))) ∧ S'.2 ≤ S.2 ∧ pot sh S ≤ pot sh S' + L c := by
 induction m with
 | zero => intro c S hm hc; have := in_lt ok hc; omega
 | succ m ih =>
  rintro c S hm hc hi hh hf hpot S' rfl
  have hlt := in_lt ok hc
  obtain ⟨p0, p1⟩ := ok.parent c (by omega) hlt.2.2
  have hcp := in_par ok (by omega) hlt.2.2
  unfold abvE
  rw [ok.ups c (by omega) hlt.2.2, if_pos (by omega)]
  simp only [abvL]
  have hLc := hL c (by omega) hlt.2.2
  by_cases ht : sh.par c = tz
  ·rw [if_pos ht]
   refine ⟨hi, fun x h => h, fun x h1 h2 => ?_, fun x h => .inl h, Nat.le_refl _, by omega⟩
   exfalso
   rcases ((ok.ins c x).1 h1).2.2.2 with h | h
   ·exact in_ne ok h2 (by omega)
   ·have := in_lt ok h; have := in_lt ok h2; omega
  ·rw [if_neg ht]
   have hpt : In (sh.par c) tz := by
    rcases ((ok.ins c tz).1 hc).2.2.2 with h | h
    ·exact absurd h ht
    ·exact h
   have h5 := (hi.sub c hh).2
   have hkid : c ∈ sh.kids (sh.par c) := (ok.kid _ c).2 ⟨by omega, hlt.2.2, rfl, h5⟩
   have hck := cont_path ok p0 hh hcp
   have hpn : sh.par c < sh.n := by omega
   have hkd := ok.inner c (by omega) hlt.2.2
   -- the set with the parent
   have hsub : ∀ x, has (S.1 ||| 2 ^ (sh.par c).toNat) x → x < sh.n ∧ sh.kind x < 5 := by
    intro x hx
    rcases (has_or p0).1 hx with hx | rfl
    ·exact hi.sub x hx
    ·exact ⟨hpn, by omega⟩
   have hi1 : Inv sh In (S.1 ||| 2 ^ (sh.par c).toNat) (fun x => E x ∨ x = sh.par c) := by
    refine ⟨hsub, fun s s0 s1 s2 k j hk hj ck cj => hi.one s s0 s1 s2 k j hk hj ((hck k).1 ck) ((hck j).1 cj), fun s hs hn h2 => ?_, fun s hs hn h3 k hk => ?_⟩
    ·rcases (has_or p0).1 hs with hs | hs
     ·obtain ⟨k, k1, k2⟩ := hi.need2 s hs (fun h => hn (.inl h)) h2
      exact ⟨k, k1, (hck k).2 k2⟩
     ·exact absurd (.inr hs) hn
    ·rcases (has_or p0).1 hs with hs | hs
     ·exact (hck k).2 (hi.need3 s hs (fun h => hn (.inl h)) h3 k hk)
     ·exact absurd (.inr hs) hn
   have hcn := cnt_or sh.n S.1 (sh.par c).toNat
   have step : ∀ T : ES, (T = if sh.kind (sh.par c) = 3 then regE sh (dwnE sh f) (S.1 ||| 2 ^ (sh.par c).toNat, S.2) (sh.par c) else (S.1 ||| 2 ^ (sh.par c).toNat, S.2)) →
     Inv sh In T.1 E ∧ (∀ x, has S.1 x → has T.1 x) ∧ has T.1 (sh.par c) ∧ (∀ x, has T.1 x → has S.1 x ∨ x = sh.par c ∨ (In x (sh.par c) ∧ has T.1 (sh.par x))) ∧ T.2 ≤ S.2 ∧ pot sh S ≤ pot sh T + (sh.kids (sh.par c)).length := by
    rintro T rfl
    by_cases h3 : sh.kind (sh.par c) = 3
    ·rw [if_pos h3]
     have hE' : ∀ x, E x → ¬ In x (sh.par c) := fun x hx h => hE x hx (in_tr ok h hpt)
     obtain ⟨a1, a2, a3, a4, a5⟩ := reg_ok ok hd h3 hE' (S.1 ||| 2 ^ (sh.par c).toNat, S.2) hi1 ((has_or p0).2 (.inr rfl)) hf (by unfold pot at hpot ⊢; simp only; omega)
     refine ⟨a1, fun x h => a2 x ((has_or p0).2 (.inl h)), a2 _ ((has_or p0).2 (.inr rfl)), fun x h => ?_, a4, by unfold pot at a5 ⊢; simp only at a5; omega⟩
     rcases a3 x h with h | h
     ·rcases (has_or p0).1 h with h | h
      ·exact .inl h
      ·exact .inr (.inl h)
     ·exact .inr (.inr h)
    ·rw [if_neg h3]
     have h2 : sh.kind (sh.par c) = 2 := by omega
     refine ⟨⟨hsub, hi1.one, fun s hs hn hk2 => ?_, fun s hs hn hk3 k hk => ?_⟩, fun x h => (has_or p0).2 (.inl h), (has_or p0).2 (.inr rfl), fun x h => ?_, Nat.le_refl _, by unfold pot; simp only; omega⟩
     ·by_cases hsp : s = sh.par c
      ·exact ⟨c, hsp ▸ hkid, (hck c).2 ⟨c, hh, .inl rfl⟩⟩
      ·exact hi1.need2 s hs (by rintro (h | h); exact hn h; exact hsp h) hk2
     ·by_cases hsp : s = sh.par c
      ·rw [hsp] at hk3; omega
      ·exact hi1.need3 s hs (by rintro (h | h); exact hn h; exact hsp h) hk3 k hk
     ·rcases (has_or p0).1 h with h | h
      ·exact .inl h
      ·exact .inr (.inl h)
   obtain ⟨b1, b2, b3, b4, b5, b6⟩ := step _ rfl
   generalize (if sh.kind (sh.par c) = 3 then regE sh (dwnE sh f) (S.1 ||| 2 ^ (sh.par c).toNat, S.2) (sh.par c) else (S.1 ||| 2 ^ (sh.par c).toNat, S.2)) = T at b1 b2 b3 b4 b5 b6 ⊢
   obtain ⟨c1, c2, c3, c4, c5, c6⟩ := ih (sh.par c) T (by omega) hpt b1 b3 (by omega) (by omega) _ rfl
   change _ at c1
   unfold abvE at c1 c2 c3 c4 c5 c6
   refine ⟨c1, fun x h => c2 x (b2 x h), fun x h1 h2 => ?_, fun x h => ?_, by omega, by omega⟩
   ·rcases ((ok.ins c x).1 h1).2.2.2 with h | h
    ·rw [← h]; exact c2 _ b3
    ·exact c3 x h h2
   ·rcases c4 x h with h | h
    ·rcases b4 x h with h | rfl | ⟨h1, h2⟩
     ·exact .inl h
     ·refine .inr ⟨hpt, ?_⟩
      obtain ⟨_, _, _, h⟩ := (ok.ins _ tz).1 hpt
      rcases h with h | h
      ·exact .inr h
      ·refine .inl (c3 _ ?_ h)
       have := in_lt ok hpt
       exact in_par ok (by omega) hpn
     ·exact .inr ⟨in_tr ok h1 hpt, .inl (c2 _ h2)⟩
    ·exact .inr h
theorem dwn_ok (f : Nat) : DnAll sh In f := by
 obtain ⟨L, hL24, hL⟩ := ok.loss
 have hfew := ok.few
 induction f with
 | zero =>
  intro E S s s0 s1 h5 hi hE hfit hno hf hpot
  exfalso
  have := cnt_le sh.n S.1
  unfold pot at hpot; omega
 | succ f ih =>
  intro E S s s0 s1 h5 hi hE hfit hno hf hpot
  have hcl := cnt_le sh.n S.1
  have hl : S.2 ≠ 0 := by unfold pot at hpot; omega
  have hkk := ok.kinds s s0 s1
  simp only [dwnE]
  rw [if_neg (by omega), if_neg (by omega)]
  -- the set with s
  have hcont : ∀ k, Cont In (S.1 ||| 2 ^ s.toNat) k ↔ Cont In S.1 k ∨ at' In s k := by
   intro k
   constructor
   ·rintro ⟨x, hx, hk⟩
    rcases (has_or s0).1 hx with hx | rfl
    ·exact .inl ⟨x, hx, hk⟩
    ·exact .inr hk
   ·rintro (⟨x, hx, hk⟩ | hk)
    ·exact ⟨x, (has_or s0).2 (.inl hx), hk⟩
    ·exact ⟨s, (has_or s0).2 (.inr rfl), hk⟩
  have hsub : ∀ x, has (S.1 ||| 2 ^ s.toNat) x → x < sh.n ∧ sh.kind x < 5 := by
   intro x hx
   rcases (has_or s0).1 hx with hx | rfl
   ·exact hi.sub x hx
   ·exact ⟨s1, h5⟩
  have hone : ∀ t : Int, 0 ≤ t → t < sh.n → sh.kind t = 2 → ∀ k j, k ∈ sh.kids t → j ∈ sh.kids t → Cont In (S.1 ||| 2 ^ s.toNat) k → Cont In (S.1 ||| 2 ^ s.toNat) j → k = j := by
   intro t t0 t1 t2 k j hk hj ck cj
   rcases (hcont k).1 ck with ck | ck <;> rcases (hcont j).1 cj with cj | cj
   ·exact hi.one t t0 t1 t2 k j hk hj ck cj
   ·exact kid_one ok hk hj (hfit t (at_in ok cj (kid_in ok hj)) t2 k hk ck) cj
   ·exact kid_one ok hk hj ck (hfit t (at_in ok ck (kid_in ok hk)) t2 j hj cj)
   ·exact kid_one ok hk hj ck cj
  have hi1 : Inv sh In (S.1 ||| 2 ^ s.toNat) (fun x => E x ∨ x = s) := by
   refine ⟨hsub, hone, fun t ht hn h2 => ?_, fun t ht hn h3 k hk => ?_⟩
   ·rcases (has_or s0).1 ht with ht | ht
    ·obtain ⟨k, k1, k2⟩ := hi.need2 t ht (fun h => hn (.inl h)) h2
     exact ⟨k, k1, (hcont k).2 (.inl k2)⟩
    ·exact absurd (.inr ht) hn
   ·rcases (has_or s0).1 ht with ht | ht
    ·exact (hcont k).2 (.inl (hi.need3 t ht (fun h => hn (.inl h)) h3 k hk))
    ·exact absurd (.inr ht) hn
  have hs1 : has (S.1 ||| 2 ^ s.toNat) s := (has_or s0).2 (.inr rfl)
  have hcn := cnt_or sh.n S.1 s.toNat
  have hnew : sh.kind s = 2 ∨ sh.kind s = 3 → cnt sh.n S.1 + 1 ≤ cnt sh.n (S.1 ||| 2 ^ s.toNat) := by
   intro hk
   refine cnt_new (by omega) (Bool.eq_false_iff.2 (fun h => ?_))
   have hh : has S.1 s := ⟨s0, h⟩
   have hEs : ¬ E s := fun h => hE s h (.inl rfl)
   have : ∃ k, k ∈ sh.kids s ∧ Cont In S.1 k := by
    rcases hk with hk | hk
    ·exact hi.need2 s hh hEs hk
    ·obtain ⟨k, hk'⟩ := ok.some s s0 s1 (.inr hk)
     exact ⟨k, hk', hi.need3 s hh hEs hk k hk'⟩
   obtain ⟨k, k1, x, x1, x2⟩ := this
   exact hno x (at_in ok x2 (kid_in ok k1)) x1
  by_cases h2 : sh.kind s = 2
  ·rw [if_pos h2]
   have hn := hnew (.inl h2)
   obtain ⟨i1, i2⟩ := ok.init s s0 s1 h2
   have il := in_lt ok i1
   have hno1 : ∀ x, In x s → ¬ has (S.1 ||| 2 ^ s.toNat) x := by
    intro x hx h
    rcases (has_or s0).1 h with h | rfl
    ·exact hno x hx h
    ·exact in_ne ok hx rfl
   have hp1 : pot sh S + 63 ≤ pot sh (S.1 ||| 2 ^ s.toNat, S.2 - 1) := by unfold pot; simp only; omega
   have D := ih (fun x => E x ∨ x = s) (S.1 ||| 2 ^ s.toNat, S.2 - 1) (sh.ini s) (by omega) il.2.2 i2 hi1 (by
    rintro x (hx | rfl) h
    ·exact hE x hx (.inr (at_in ok h i1))
    ·rcases h with h | h
     ·exact in_ne ok i1 h.symm
     ·have := in_lt ok h; omega) (by
    intro x hx hkx j hj hc
    rcases (hcont j).1 hc with hc | hc
    ·rcases in_row ok i1 hx with h | h | h
     ·subst h
      obtain ⟨y, y1, y2⟩ := hc
      exact absurd y1 (hno y (at_in ok y2 (kid_in ok hj)))
     ·rcases hfit x h hkx j hj hc with rfl | this
      ·exact .inr i1
      ·exact .inr (in_tr ok i1 this)
     ·obtain ⟨y, y1, y2⟩ := hc
      exact absurd y1 (hno y (in_tr ok (at_in ok y2 (kid_in ok hj)) h))
    ·rcases hc with rfl | hc
     ·exact .inr i1
     ·exact .inr (in_tr ok i1 hc)) (fun x hx => hno1 x (in_tr ok hx i1)) (by simp only; omega) (by omega)
   have hin := D.inv
   have hinE : Inv sh In (dwnE sh f (S.1 ||| 2 ^ s.toNat, S.2 - 1) (sh.ini s)).1 E := by
    refine ⟨hin.sub, hin.one, fun t ht hn2 hk2 => ?_, fun t ht hn2 hk3 k hk => ?_⟩
    ·by_cases hts : t = s
     ·obtain ⟨k, k1, k2⟩ := toward ok i1 i2
      exact ⟨k, hts ▸ k1, _, D.self, k2⟩
     ·exact hin.need2 t ht (by rintro (h | h); exact hn2 h; exact hts h) hk2
    ·by_cases hts : t = s
     ·rw [hts] at hk3; omega
     ·exact hin.need3 t ht (by rintro (h | h); exact hn2 h; exact hts h) hk3 k hk
   have hE2 : ∀ x, E x → ¬ In x s := fun x hx h => hE x hx (.inr h)
   have hl24 := hL24 (sh.ini s)
   have hDp := D.pot
   have hDl := D.left
   simp only at hDl
   obtain ⟨a1, a2, a3, a4, a5, a6⟩ := abv_ok ok ih hL hE2 (sh.ini s).toNat (sh.ini s) _ (Nat.le_refl _) i1 hinE D.self (by omega) (by omega) _ rfl
   refine ⟨a1, fun x h => a2 x (D.more x ((has_or s0).2 (.inl h))), a2 _ (D.more _ hs1), fun x h => ?_, by omega, by omega⟩
   have hS := a2 _ (D.more _ hs1)
   rcases a4 x h with h | ⟨h, h' | h'⟩
   ·rcases D.new x h with h | rfl | ⟨h1, h2⟩
    ·rcases (has_or s0).1 h with h | h
     ·exact .inl h
     ·exact .inr (.inl h)
    ·refine .inr (.inr ⟨i1, ?_⟩)
     rcases ((ok.ins _ s).1 i1).2.2.2 with h | h
     ·rw [h]; exact hS
     ·exact a3 _ (in_par ok (by omega) il.2.2) h
    ·exact .inr (.inr ⟨in_tr ok h1 i1, a2 _ h2⟩)
   ·exact .inr (.inr ⟨h, h'⟩)
   ·exact .inr (.inr ⟨h, by rw [h']; exact hS⟩)
  ·rw [if_neg h2]
   by_cases h3 : sh.kind s = 3
   ·rw [if_pos h3]
    have hn := hnew (.inr h3)
    have hkl : (sh.kids s).length ≤ 32 := by
     obtain ⟨k, hk⟩ := ok.some s s0 s1 (.inr h3)
     obtain ⟨k1, k2, k3, _⟩ := (ok.kid s k).1 hk
     have := hL k k1 k2
     rw [k3] at this
     have := hL24 k
     omega
    have hE2 : ∀ x, E x → ¬ In x s := fun x hx h => hE x hx (.inr h)
    obtain ⟨a1, a2, a3, a4, a5⟩ := reg_ok ok ih h3 hE2 (S.1 ||| 2 ^ s.toNat, S.2 - 1) hi1 hs1 (by simp only; omega) (by unfold pot at hpot ⊢; simp only; omega)
    simp only at a4
    refine ⟨a1, fun x h => a2 x ((has_or s0).2 (.inl h)), a2 _ hs1, fun x h => ?_, by omega, by unfold pot at a5 ⊢; simp only at a5; omega⟩
    rcases a3 x h with h | h
    ·rcases (has_or s0).1 h with h | h
     ·exact .inl h
     ·exact .inr (.inl h)
    ·exact .inr (.inr h)
   ·rw [if_neg h3]
    refine ⟨⟨hsub, hone, fun t ht hn hk2 => ?_, fun t ht hn hk3 k hk => ?_⟩, fun x h => (has_or s0).2 (.inl h), hs1, fun x h => ?_, by simp only; omega, by unfold pot; simp only; omega⟩
    ·by_cases hts : t = s
     ·rw [hts] at hk2; exact absurd hk2 h2
     ·exact hi1.need2 t ht (by rintro (h | h); exact hn h; exact hts h) hk2
    ·by_cases hts : t = s
     ·rw [hts] at hk3; exact absurd hk3 h3
     ·exact hi1.need3 t ht (by rintro (h | h); exact hn h; exact hts h) hk3 k hk
    ·rcases (has_or s0).1 h with h | h
     ·exact .inl h
     ·exact .inr (.inl h)
theorem set_one {f : Nat} {s : Int} (s0 : 0 < s) (s1 : s < sh.n) (h5 : sh.kind s < 5) (k0 : sh.kind 0 = 2) (hin : In s 0) {l : Nat} (hf : l ≤ f) (hl : 1600 ≤ l) :
  ∀ T, T = abvE sh (dwnE sh f) (dwnE sh f (0, l) s) s 0 → has T.1 s ∧ (∀ x, has T.1 x → x < sh.n ∧ sh.kind x < 5 ∧ 0 < x ∧ (has T.1 (sh.par x) ∨ sh.par x = 0)) ∧
   (∀ x, (x = 0 ∨ has T.1 x) → sh.kind x = 2 → ∃ k, k ∈ sh.kids x ∧ has T.1 k ∧ ∀ j, j ∈ sh.kids x → has T.1 j → j = k) ∧
   (∀ x, has T.1 x → sh.kind x = 3 → ∀ k, k ∈ sh.kids x → has T.1 k) := by
 obtain ⟨L, hL24, hL⟩ := ok.loss
 have nh : ∀ x, ¬ has 0 x := fun x h => by have := h.2; rw [Nat.zero_testBit] at this; cases this
 have nc : ∀ k, ¬ Cont In 0 k := fun k ⟨x, h, _⟩ => nh x h
 have hi0 : Inv sh In 0 (fun _ => False) := ⟨fun x h => absurd h (nh x), fun s _ _ _ k j _ _ h => absurd h (nc k), fun s h => absurd h (nh s), fun s h => absurd h (nh s)⟩
 have D := dwn_ok ok f (fun _ => False) (0, l) s (by omega) s1 h5 hi0 (fun _ h => h.elim) (fun x _ _ k _ h => absurd h (nc k)) (fun x _ => nh x) hf (by unfold pot; simp only; omega)
 have hDl := D.left
 have hDp := D.pot
 have h24 := hL24 s
 simp only at hDl
 have hpot : 1537 + L s ≤ pot sh (dwnE sh f (0, l) s) := by
  have : l ≤ pot sh (0, l) := by unfold pot; simp only; omega
  omega
 obtain ⟨a1, a2, a3, a4, a5, a6⟩ := abv_ok ok (dwn_ok ok f) hL (E := fun _ => False) (tz := 0) (fun _ h => h.elim) s.toNat s _ (Nat.le_refl _) hin D.inv D.self (by omega) hpot _ rfl
 intro T hT
 rw [← hT] at a1 a2 a3 a4 a5 a6
 refine ⟨a2 _ D.self, ?_⟩
 have ex : ∀ x, has T.1 x → In x 0 ∧ (has T.1 (sh.par x) ∨ sh.par x = 0) := by
  intro x h
  rcases a4 x h with h | h
  ·rcases D.new x h with h | rfl | ⟨h1, h2⟩
   ·exact absurd h (nh x)
   ·refine ⟨hin, ?_⟩
    rcases ((ok.ins _ 0).1 hin).2.2.2 with h | h
    ·exact .inr h
    ·exact .inl (a3 _ (in_par ok s0 s1) h)
   ·exact ⟨in_tr ok h1 hin, .inl (a2 _ h2)⟩
  ·exact h
 have up : ∀ (m : Nat) (x k : Int), x.toNat ≤ m → has T.1 x → at' In x k → 0 < k → has T.1 k := by
  intro m
  induction m with
  | zero => intro x k hm hx hk h0; have := (in_lt ok (ex x hx).1).2; omega
  | succ m ih =>
   intro x k hm hx hk h0
   rcases hk with rfl | hk
   ·exact hx
   ·obtain ⟨x1, x2, _, h⟩ := (ok.ins x k).1 hk
    have := ok.parent x x1 x2
    rcases (ex x hx).2 with hp | hp
    ·refine ih _ k (by omega) hp ?_ h0
     rcases h with h | h
     ·exact .inl h
     ·exact .inr h
    ·rcases h with h | h
     ·omega
     ·rw [hp] at h; have := in_lt ok h; omega
 have cont_has : ∀ x k, k ∈ sh.kids x → Cont In T.1 k → has T.1 k := by
  rintro x k hk ⟨y, y1, y2⟩
  exact up _ y k (Nat.le_refl _) y1 y2 ((ok.kid x k).1 hk).1
 refine ⟨fun x h => ⟨(a1.sub x h).1, (a1.sub x h).2, (in_lt ok (ex x h).1).2.1, (ex x h).2⟩, fun x hx hk => ?_, fun x hx hk k hkk => cont_has x k hkk (a1.need3 x hx (fun h => h) hk k hkk)⟩
 have : ∃ k, k ∈ sh.kids x ∧ Cont In T.1 k := by
  rcases hx with rfl | hx
  ·obtain ⟨k, k1, k2⟩ := toward ok hin h5
   exact ⟨k, k1, s, a2 _ D.self, k2⟩
  ·exact a1.need2 x hx (fun h => h) hk
 obtain ⟨k, k1, k2⟩ := this
 refine ⟨k, k1, cont_has x k k1 k2, fun j hj hh => ?_⟩
 have hx0 := (in_lt ok (kid_in ok k1))
 exact a1.one x hx0.1 (by omega) hk j k hj k1 ⟨j, hh, .inl rfl⟩ k2
end
end Go.Proofs.YtemoonhnncopoaaGreatDoor.Ent
end
section
namespace Go.Proofs.YtemoonhnncopoaaGreatDoor.PX
abbrev T := PAll.S91
abbrev V := Int × Int
end Go.Proofs.YtemoonhnncopoaaGreatDoor.PX
end
section
namespace Go.Proofs.YtemoonhnncopoaaGreatDoor
open Go.RowKit PX Go.Proofs.YtemoonhnncopoaaGreatDoorW.PrintWords
theorem ev_pos {α : Type} {c : Prop} [Decidable c] {g f : Nat → Option α} {r : α} (h : c) (k : Ev g r) : Ev (fun n => if c then g n else f n) r := by
 obtain ⟨K, hK⟩ := k
 exact ⟨K, fun n hn => by simp only [if_pos h]; exact hK n hn⟩
theorem ev_neg {α : Type} {c : Prop} [Decidable c] {g f : Nat → Option α} {r : α} (h : ¬ c) (k : Ev f r) : Ev (fun n => if c then g n else f n) r := by
 obtain ⟨K, hK⟩ := k
 exact ⟨K, fun n hn => by simp only [if_neg h]; exact hK n hn⟩
theorem ev_bind {α β : Type} {g : Option α} {f : Nat → α → Option β} {a : α} {r : β} (h : g = some a) (k : Ev (fun n => f n a) r) : Ev (fun n => g.bind (f n)) r := by
 obtain ⟨K, hK⟩ := k
 exact ⟨K, fun n hn => by rw [h]; exact hK n hn⟩
theorem w64 {x : Int} (h0 : -9223372036854775808 ≤ x) (h1 : x ≤ 9223372036854775807) : wrap64 x = x := by unfold wrap64; omega
end Go.Proofs.YtemoonhnncopoaaGreatDoor
end
section
namespace Go.Proofs.YtemoonhnncopoaaGreatDoor
open Go.RowKit PX Go.Proofs.YtemoonhnncopoaaGreatDoorW.PrintWords
abbrev Sta := PAll.S54
abbrev Tra := PAll.S56
theorem ev_is {α : Type} {g : Nat → Option α} {r r' : α} (h : r' = r) (k : Ev g r) : Ev g r' := h ▸ k
def histP (k : Int) : Bool := k == 5 || k == 6
def inF (st : List Sta) : Nat → Int → Int → Bool
 | 0, _, _ => false
 | f + 1, s, b => if s > b ∧ 0 < s ∧ s < (st.length : Int) then (if (PAll.rd_T54 st s).f1 ≥ s then false else if (PAll.rd_T54 st s).f1 = b then true else inF st f (PAll.rd_T54 st s).f1 b) else false
def inC (st : List Sta) (s b : Int) : Bool := inF st s.toNat s b
theorem inF_two (st : List Sta) (b : Int) (n : Nat) : ∀ (p : Int) (f g : Nat), p.toNat ≤ n → p.toNat ≤ f → p.toNat ≤ g → inF st f p b = inF st g p b := by
 induction n with
 | zero =>
  intro p f g h _ _
  have no : ¬ (p > b ∧ 0 < p ∧ p < (st.length : Int)) := by omega
  cases f <;> cases g <;> simp only [inF, if_neg no]
 | succ n ih =>
  intro p f g h hf hg
  by_cases hc : p > b ∧ 0 < p ∧ p < (st.length : Int)
  ·obtain ⟨f, rfl⟩ : ∃ m, f = m + 1 := ⟨f - 1, by omega⟩
   obtain ⟨g, rfl⟩ : ∃ m, g = m + 1 := ⟨g - 1, by omega⟩
   simp only [inF, if_pos hc]
   by_cases h2 : (PAll.rd_T54 st p).f1 ≥ p
   ·rw [if_pos h2, if_pos h2]
   ·rw [if_neg h2, if_neg h2, ih (PAll.rd_T54 st p).f1 f g (by omega) (by omega) (by omega)]
  ·cases f <;> cases g <;> simp only [inF, if_neg hc]
theorem inC_eq (st : List Sta) (s b : Int) : inC st s b = if s > b ∧ 0 < s ∧ s < (st.length : Int) then (if (PAll.rd_T54 st s).f1 ≥ s then false else if (PAll.rd_T54 st s).f1 = b then true else inC st (PAll.rd_T54 st s).f1 b) else false := by
 unfold inC
 by_cases hc : s > b ∧ 0 < s ∧ s < (st.length : Int)
 ·obtain ⟨m, hm⟩ : ∃ m, s.toNat = m + 1 := ⟨s.toNat - 1, by omega⟩
  rw [hm]
  simp only [inF, if_pos hc]
  by_cases h2 : (PAll.rd_T54 st s).f1 ≥ s
  ·rw [if_pos h2, if_pos h2]
  ·rw [if_neg h2, if_neg h2, inF_two st b m (PAll.rd_T54 st s).f1 m (PAll.rd_T54 st s).f1.toNat (by omega) (by omega) (Nat.le_refl _)]
 ·rw [if_neg hc]
  cases s.toNat <;> simp only [inF, if_neg hc]
theorem inC_lt {st : List Sta} {s b : Int} (h : inC st s b = true) : b < s ∧ 0 < s ∧ s < (st.length : Int) := by
 rw [inC_eq] at h
 split at h
 ·omega
 ·cases h
theorem in_l0 (st : List Sta) (tr : List Tra) (v b : Int) (n : Nat) : ∀ s : Int, s.toNat ≤ n → Ev (fun k => PAll.chart_checker_in.l0 k s b v st tr) (inC st s b) := by
 induction n with
 | zero =>
  intro s h
  rw [inC_eq, if_neg (by omega)]
  refine Ev.step (fun k => rfl) ?_
  simp only [PAll.chart_checker_in.l0]
  by_cases h1 : s > b
  ·refine ev_pos h1 (ev_neg (by omega) (Ev.step (fun k => rfl) ?_))
   simp only [PAll.chart_checker_in.j1]
   exact ev_neg (by simp) (Ev.now _)
  ·refine ev_neg h1 (Ev.step (fun k => rfl) ?_)
   simp only [PAll.chart_checker_in.j1]
   exact ev_neg (by simp) (Ev.now _)
 | succ n ih =>
  intro s h
  rw [inC_eq]
  refine Ev.step (fun k => rfl) ?_
  simp only [PAll.chart_checker_in.l0]
  by_cases hc : s > b ∧ 0 < s ∧ s < (st.length : Int)
  ·rw [if_pos hc]
   refine ev_pos (by omega) (ev_pos (by omega) (Ev.step (fun k => rfl) ?_))
   simp only [PAll.chart_checker_in.j1]
   refine ev_pos (decide_eq_true hc.2.2) (ev_pos (by omega) (ev_pos (by omega) ?_))
   by_cases h2 : (PAll.rd_T54 st s).f1 ≥ s
   ·rw [if_pos h2]; exact ev_pos h2 (Ev.now _)
   ·rw [if_neg h2]
    refine ev_neg h2 ?_
    by_cases h3 : (PAll.rd_T54 st s).f1 = b
    ·rw [if_pos h3]; exact ev_pos h3 (Ev.now _)
    ·rw [if_neg h3]; exact ev_neg h3 (ih _ (by omega))
  ·rw [if_neg hc]
   have stop : ∀ x : Bool, x = false → Ev (fun k => PAll.chart_checker_in.j1 k s b x v st tr) false := by
    intro x hx
    subst hx
    refine Ev.step (fun k => rfl) ?_
    simp only [PAll.chart_checker_in.j1]
    exact ev_neg (by simp) (Ev.now _)
   by_cases h1 : s > b
   ·refine ev_pos h1 ?_
    by_cases h2 : s > 0
    ·exact ev_pos h2 (stop _ (decide_eq_false (by omega)))
    ·exact ev_neg h2 (stop _ rfl)
   ·exact ev_neg h1 (stop _ rfl)
theorem in_ev (st : List Sta) (tr : List Tra) (v s b : Int) : Ev (fun k => PAll.chart_checker_in.f k v st tr s b) (inC st s b) := in_l0 st tr v b s.toNat s (Nat.le_refl _)
theorem hist_f (k : Int) : PAll.chart_history.f k = some (histP k) := by
 unfold PAll.chart_history.f histP
 by_cases h : k = 5
 ·subst h; rfl
 ·rw [if_neg h]; simp [h]
def parP (st : List Sta) (i : Int) : Int :=
 if i = 0 then (if (PAll.rd_T54 st i).f1 = -1 then 0 else 1)
 else if (PAll.rd_T54 st i).f1 < 0 then 1
 else if (PAll.rd_T54 st i).f1 ≠ i - 1 ∧ inC st (i - 1) (PAll.rd_T54 st i).f1 = false then 1
 else if (PAll.rd_T54 st (PAll.rd_T54 st i).f1).f0 = 2 then (if (PAll.rd_T54 st i).f1 = 0 ∧ histP (PAll.rd_T54 st i).f0 = true then 10 else 0)
 else if (PAll.rd_T54 st (PAll.rd_T54 st i).f1).f0 = 3 then (if (PAll.rd_T54 st i).f0 = 4 then 10 else if (PAll.rd_T54 st i).f1 = 0 ∧ histP (PAll.rd_T54 st i).f0 = true then 10 else 0)
 else 10
theorem par_ev (st : List Sta) (tr : List Tra) (v i : Int) (h0 : 0 ≤ i) (h1 : i < (st.length : Int)) (hb : (st.length : Int) ≤ 9223372036854775807) : Ev (fun k => PAll.chart_checker_parent.f k v st tr i) (parP st i) := by
 have tail : 0 ≤ (PAll.rd_T54 st i).f1 → (PAll.rd_T54 st i).f1 < (st.length : Int) → Ev (fun k => PAll.chart_checker_parent.j0 k false v st tr (PAll.rd_T54 st i).f0 (PAll.rd_T54 st i).f1 (PAll.rd_T54 st i).f2 (PAll.rd_T54 st i).f3 (PAll.rd_T54 st i).f4)
   (if (PAll.rd_T54 st (PAll.rd_T54 st i).f1).f0 = 2 then (if (PAll.rd_T54 st i).f1 = 0 ∧ histP (PAll.rd_T54 st i).f0 = true then 10 else 0)
    else if (PAll.rd_T54 st (PAll.rd_T54 st i).f1).f0 = 3 then (if (PAll.rd_T54 st i).f0 = 4 then 10 else if (PAll.rd_T54 st i).f1 = 0 ∧ histP (PAll.rd_T54 st i).f0 = true then 10 else 0)
    else 10) := by
  intro p0 p1
  refine Ev.step (fun k => rfl) ?_
  simp only [PAll.chart_checker_parent.j0]
  refine ev_neg (by simp) (ev_pos p0 (ev_pos p1 ?_))
  have last : Ev (fun k => if (PAll.rd_T54 st i).f1 = 0 then ((PAll.chart_history.f (PAll.rd_T54 st i).f0).bind fun t => (if t = true then (some 10) else (some 0))) else (some 0)) (if (PAll.rd_T54 st i).f1 = 0 ∧ histP (PAll.rd_T54 st i).f0 = true then (10 : Int) else 0) := by
   by_cases hz : (PAll.rd_T54 st i).f1 = 0
   ·refine ev_pos hz ?_
    rw [hist_f]
    simp only [Option.bind_some]
    cases hh : histP (PAll.rd_T54 st i).f0
    ·have e : (if (PAll.rd_T54 st i).f1 = 0 ∧ false = true then (10 : Int) else 0) = 0 := if_neg (by simp)
     rw [e]; exact ev_neg (by simp) (Ev.now _)
    ·have e : (if (PAll.rd_T54 st i).f1 = 0 ∧ true = true then (10 : Int) else 0) = 10 := if_pos ⟨hz, rfl⟩
     rw [e]; exact ev_pos rfl (Ev.now _)
   ·have e : (if (PAll.rd_T54 st i).f1 = 0 ∧ histP (PAll.rd_T54 st i).f0 = true then (10 : Int) else 0) = 0 := if_neg (fun h => hz h.1)
    rw [e]; exact ev_neg hz (Ev.now _)
  by_cases k2 : (PAll.rd_T54 st (PAll.rd_T54 st i).f1).f0 = 2
  ·exact ev_is (if_pos k2) (ev_pos k2 last)
  ·refine ev_is (if_neg k2) ?_
   refine ev_neg k2 ?_
   by_cases k3 : (PAll.rd_T54 st (PAll.rd_T54 st i).f1).f0 = 3
   ·refine ev_is (if_pos k3) ?_
    refine ev_pos k3 ?_
    by_cases k4 : (PAll.rd_T54 st i).f0 = 4
    ·exact ev_is (if_pos k4) (ev_pos k4 (Ev.now _))
    ·exact ev_is (if_neg k4) (ev_neg k4 last)
   ·exact ev_is (if_neg k3) (ev_neg k3 (Ev.now _))
 have bad : Ev (fun k => PAll.chart_checker_parent.j0 k true v st tr (PAll.rd_T54 st i).f0 (PAll.rd_T54 st i).f1 (PAll.rd_T54 st i).f2 (PAll.rd_T54 st i).f3 (PAll.rd_T54 st i).f4) 1 := by
  refine Ev.step (fun k => rfl) ?_
  simp only [PAll.chart_checker_parent.j0]
  exact ev_pos trivial (Ev.now _)
 have hw : wrap64 (i - 1) = i - 1 := w64 (by omega) (by omega)
 unfold PAll.chart_checker_parent.f parP
 rw [hw]
 refine ev_pos h0 (ev_pos h1 ?_)
 by_cases hz : i = 0
 ·refine ev_is (if_pos hz) ?_
  refine ev_pos hz ?_
  by_cases hp : (PAll.rd_T54 st i).f1 = -1
  ·exact ev_is (if_pos hp) (ev_pos hp (Ev.now _))
  ·exact ev_is (if_neg hp) (ev_neg hp (Ev.now _))
 ·refine ev_is (if_neg hz) ?_
  refine ev_neg hz ?_
  by_cases hn : (PAll.rd_T54 st i).f1 < 0
  ·exact ev_is (if_pos hn) (ev_pos hn bad)
  ·refine ev_is (if_neg hn) ?_
   refine ev_neg hn ?_
   by_cases he : (PAll.rd_T54 st i).f1 = i - 1
   ·refine ev_is (if_neg (fun h => h.1 he)) ?_
    exact ev_pos he (tail (by omega) (by omega))
   ·refine ev_neg he (Ev.bind (in_ev st tr v (i - 1) (PAll.rd_T54 st i).f1) ?_)
    cases hi : inC st (i - 1) (PAll.rd_T54 st i).f1 with
    | false => exact ev_is (if_pos ⟨he, rfl⟩) (bad)
    | true =>
     refine ev_is (if_neg (fun h => by cases h.2)) ?_
     have := inC_lt hi
     exact tail (by omega) (by omega)
def iniP (st : List Sta) (i : Int) : Bool :=
 if (PAll.rd_T54 st i).f0 ≠ 2 ∧ histP (PAll.rd_T54 st i).f0 = false then ((PAll.rd_T54 st i).f2.length : Int) == 0
 else if ((PAll.rd_T54 st i).f2.length : Int) ≠ 1 then false
 else if ¬ (0 ≤ rd (PAll.rd_T54 st i).f2 0 ∧ rd (PAll.rd_T54 st i).f2 0 < (st.length : Int)) then false
 else if histP (PAll.rd_T54 st (rd (PAll.rd_T54 st i).f2 0)).f0 = true then false
 else if (PAll.rd_T54 st i).f0 = 2 then inC st (rd (PAll.rd_T54 st i).f2 0) i
 else if (PAll.rd_T54 st i).f0 = 5 then (PAll.rd_T54 st (rd (PAll.rd_T54 st i).f2 0)).f1 == (PAll.rd_T54 st i).f1
 else inC st (rd (PAll.rd_T54 st i).f2 0) (PAll.rd_T54 st i).f1
theorem there_f (st : List Sta) (tr : List Tra) (v s : Int) : PAll.chart_checker_there.f v st tr s = some (decide (0 ≤ s ∧ s < (st.length : Int))) := by
 unfold PAll.chart_checker_there.f
 by_cases h : s ≥ 0
 ·rw [if_pos h]; congr 1; by_cases h2 : s < (st.length : Int) <;> simp [h2] <;> omega
 ·rw [if_neg h]; congr 1; simp; omega
theorem ini_ev (st : List Sta) (tr : List Tra) (v i : Int) (h0 : 0 ≤ i) (h1 : i < (st.length : Int)) : Ev (fun k => PAll.chart_checker_initial.f k v st tr i) (iniP st i) := by
 have bad : Ev (fun k => PAll.chart_checker_initial.j1 k i true v st tr (PAll.rd_T54 st i).f0 (PAll.rd_T54 st i).f1 (PAll.rd_T54 st i).f2 (PAll.rd_T54 st i).f3 (PAll.rd_T54 st i).f4) false := by
  refine Ev.step (fun k => rfl) ?_
  simp only [PAll.chart_checker_initial.j1]
  exact ev_pos trivial (Ev.now _)
 have go : Ev (fun k => PAll.chart_checker_initial.j0 k i false v st tr (PAll.rd_T54 st i).f0 (PAll.rd_T54 st i).f1 (PAll.rd_T54 st i).f2 (PAll.rd_T54 st i).f3 (PAll.rd_T54 st i).f4)
   (if ((PAll.rd_T54 st i).f2.length : Int) ≠ 1 then false
    else if ¬ (0 ≤ rd (PAll.rd_T54 st i).f2 0 ∧ rd (PAll.rd_T54 st i).f2 0 < (st.length : Int)) then false
    else if histP (PAll.rd_T54 st (rd (PAll.rd_T54 st i).f2 0)).f0 = true then false
    else if (PAll.rd_T54 st i).f0 = 2 then inC st (rd (PAll.rd_T54 st i).f2 0) i
    else if (PAll.rd_T54 st i).f0 = 5 then (PAll.rd_T54 st (rd (PAll.rd_T54 st i).f2 0)).f1 == (PAll.rd_T54 st i).f1
    else inC st (rd (PAll.rd_T54 st i).f2 0) (PAll.rd_T54 st i).f1) := by
  refine Ev.step (fun k => rfl) ?_
  simp only [PAll.chart_checker_initial.j0]
  refine ev_neg (by simp) ?_
  by_cases hl : ((PAll.rd_T54 st i).f2.length : Int) = 1
  ·refine ev_is (if_neg (fun h => h hl)) ?_
   refine ev_pos hl (ev_pos (by omega) ?_)
   rw [there_f]
   simp only [Option.bind_some]
   by_cases ht : 0 ≤ rd (PAll.rd_T54 st i).f2 0 ∧ rd (PAll.rd_T54 st i).f2 0 < (st.length : Int)
   ·refine ev_is (if_neg (fun h => h ht)) ?_
    refine ev_pos (decide_eq_true ht) (ev_pos ht.1 (ev_pos ht.2 ?_))
    rw [hist_f]
    simp only [Option.bind_some]
    cases hh : histP (PAll.rd_T54 st (rd (PAll.rd_T54 st i).f2 0)).f0 with
    | true => exact ev_is (if_pos rfl) (bad)
    | false =>
     refine ev_is (if_neg (by simp)) ?_
     refine Ev.step (fun k => rfl) ?_
     simp only [PAll.chart_checker_initial.j1]
     refine ev_neg (by simp) (ev_pos (by omega) ?_)
     by_cases k2 : (PAll.rd_T54 st i).f0 = 2
     ·refine ev_is (if_pos k2) ?_
      refine ev_pos k2 (Ev.bind (in_ev st tr v _ _) (Ev.now _))
     ·refine ev_is (if_neg k2) ?_
      refine ev_neg k2 ?_
      by_cases k5 : (PAll.rd_T54 st i).f0 = 5
      ·refine ev_is (if_pos k5) ?_
       exact ev_pos k5 (ev_pos ht.1 (ev_pos ht.2 (Ev.now _)))
      ·refine ev_is (if_neg k5) ?_
       exact ev_neg k5 (Ev.bind (in_ev st tr v _ _) (Ev.now _))
   ·refine ev_is (if_pos ht) ?_
    exact ev_neg (by simpa using ht) bad
  ·refine ev_is (if_pos hl) ?_
   exact ev_neg hl bad
 unfold PAll.chart_checker_initial.f iniP
 refine ev_pos h0 (ev_pos h1 ?_)
 by_cases k2 : (PAll.rd_T54 st i).f0 = 2
 ·refine ev_is (if_neg (fun h => h.1 k2)) ?_
  exact ev_pos k2 go
 ·refine ev_neg k2 ?_
  rw [hist_f]
  simp only [Option.bind_some]
  cases hh : histP (PAll.rd_T54 st i).f0 with
  | true => exact ev_is (if_neg (fun h => by cases h.2)) (go)
  | false =>
   refine ev_is (if_pos ⟨k2, rfl⟩) ?_
   refine Ev.step (fun k => rfl) ?_
   simp only [PAll.chart_checker_initial.j0]
   exact ev_pos (by simp) (Ev.now _)
def Ahead (st : List Sta) : Prop := ∀ i : Int, 0 ≤ i → i < (st.length : Int) → (PAll.rd_T54 st i).f1 < i ∧ (0 < i → 0 ≤ (PAll.rd_T54 st i).f1) ∧ (i = 0 → histP (PAll.rd_T54 st i).f0 = false)
def ownP (st : List Sta) (s : Int) : Int := if histP (PAll.rd_T54 st s).f0 = true then (PAll.rd_T54 st s).f1 else s
theorem own_f (st : List Sta) (tr : List Tra) (v s : Int) (h0 : 0 ≤ s) (h1 : s < (st.length : Int)) : PAll.chart_checker_own.f v st tr s = some (ownP st s) := by
 unfold PAll.chart_checker_own.f ownP
 rw [if_pos h0, if_pos h1, hist_f]
 simp only [Option.bind_some]
 cases histP (PAll.rd_T54 st s).f0 <;> rfl
theorem own_in {st : List Sta} (ha : Ahead st) {s : Int} (h0 : 0 ≤ s) (h1 : s < (st.length : Int)) : 0 ≤ ownP st s ∧ ownP st s < (st.length : Int) := by
 obtain ⟨a1, a2, a3⟩ := ha s h0 h1
 unfold ownP
 split
 ·rename_i h
  by_cases hz : s = 0
  ·rw [a3 hz] at h; cases h
  ·have := a2 (by omega); omega
 ·omega
def innF (st : List Sta) : Nat → Int → Int → Int
 | 0, _, _ => -1
 | f + 1, s, b => if s ≥ 0 then (if inC st b s = true then s else innF st f (PAll.rd_T54 st s).f1 b) else -1
def innP (st : List Sta) (a b : Int) : Int := innF st (st.length + 1) (PAll.rd_T54 st a).f1 b
theorem inn_l0 {st : List Sta} (ha : Ahead st) (tr : List Tra) (v b : Int) (f : Nat) : ∀ s : Int, s < f → s < (st.length : Int) → Ev (fun k => PAll.chart_checker_innermost.l0 k b s v st tr) (innF st f s b) ∧ innF st f s b < (st.length : Int) := by
 induction f with
 | zero =>
  intro s h1 h2
  refine ⟨Ev.step (fun k => rfl) ?_, by simp only [innF]; omega⟩
  simp only [PAll.chart_checker_innermost.l0, innF]
  exact ev_neg (by omega) (Ev.now _)
 | succ f ih =>
  intro s h1 h2
  by_cases h0 : s ≥ 0
  ·obtain ⟨a1, _, _⟩ := ha s h0 h2
   obtain ⟨i1, i2⟩ := ih (PAll.rd_T54 st s).f1 (by omega) (by omega)
   cases hi : inC st b s with
   | true =>
    simp only [innF]
    rw [if_pos h0, if_pos hi]
    refine ⟨Ev.step (fun k => rfl) ?_, h2⟩
    simp only [PAll.chart_checker_innermost.l0]
    refine ev_pos h0 (Ev.bind (in_ev st tr v b s) ?_)
    rw [hi]
    exact ev_pos rfl (Ev.now _)
   | false =>
    simp only [innF]
    rw [if_pos h0, if_neg (by rw [hi]; simp)]
    refine ⟨Ev.step (fun k => rfl) ?_, i2⟩
    simp only [PAll.chart_checker_innermost.l0]
    refine ev_pos h0 (Ev.bind (in_ev st tr v b s) ?_)
    rw [hi]
    exact ev_neg (by simp) (ev_pos h0 (ev_pos h2 i1))
  ·simp only [innF]
   rw [if_neg h0]
   refine ⟨Ev.step (fun k => rfl) ?_, by omega⟩
   simp only [PAll.chart_checker_innermost.l0]
   exact ev_neg h0 (Ev.now _)
theorem inn_ev {st : List Sta} (ha : Ahead st) (tr : List Tra) (v a b : Int) (h0 : 0 ≤ a) (h1 : a < (st.length : Int)) : Ev (fun k => PAll.chart_checker_innermost.f k v st tr a b) (innP st a b) ∧ innP st a b < (st.length : Int) := by
 obtain ⟨a1, _, _⟩ := ha a h0 h1
 obtain ⟨i1, i2⟩ := inn_l0 ha tr v b (st.length + 1) (PAll.rd_T54 st a).f1 (by omega) (by omega)
 refine ⟨?_, i2⟩
 unfold PAll.chart_checker_innermost.f
 exact ev_pos h0 (ev_pos h1 i1)
def pairP (st : List Sta) (a b0 : Int) : Bool :=
 decide (a ≠ ownP st b0) && !inC st a (ownP st b0) && !inC st (ownP st b0) a && decide (0 ≤ innP st a (ownP st b0)) && decide ((PAll.rd_T54 st (innP st a (ownP st b0))).f0 = 3)
def tgtF (st : List Sta) : List Int → List Int → Bool
 | _, [] => true
 | pre, a :: suf => if a = 0 ∨ ¬ (0 ≤ a ∧ a < (st.length : Int)) then false else if pre.all (pairP st (ownP st a)) = true then tgtF st (pre ++ [a]) suf else false
def tgtP (st : List Sta) (l : List Int) : Bool := if (l.length : Int) > 3 then false else tgtF st [] l
def kidsF (s : Int) : List Sta → Int → List Int
 | [], _ => []
 | x :: l, i => if x.f1 = s ∧ histP x.f0 = false then i :: kidsF s l (i + 1) else kidsF s l (i + 1)
def kidsP (st : List Sta) (s : Int) : List Int := kidsF s st 0
theorem kids_l0 (st : List Sta) (s : Int) (hn : st.length ≤ 1000000) : ∀ (suf pre : List Sta) (acc : List Int), st = pre ++ suf → acc.length ≤ pre.length →
  Ev (fun k => PAll.chart_Kids.l0 k s acc st (st.length : Int) (pre.length : Int)) (acc ++ kidsF s suf (pre.length : Int)) := by
 intro suf
 induction suf with
 | nil =>
  intro pre acc h _
  refine Ev.step (fun k => rfl) ?_
  simp only [PAll.chart_Kids.l0, kidsF, List.append_nil]
  exact ev_neg (by rw [h]; simp) (Ev.now _)
 | cons x suf ih =>
  intro pre acc h ha
  have hlen : st.length = pre.length + (suf.length + 1) := by rw [h]; simp
  have hrd : PAll.rd_T54 st (pre.length : Int) = x := by
   simp [PAll.rd_T54, List.getD_eq_getElem?_getD, h]
  have hw : wrap64 ((pre.length : Int) + 1) = ((pre ++ [x]).length : Int) := by rw [w64 (by omega) (by omega)]; simp
  have nx := fun acc' ha' => ih (pre ++ [x]) acc' (by rw [h]; simp) ha'
  have e1 : ((pre ++ [x]).length : Int) = (pre.length : Int) + 1 := by simp
  refine Ev.step (fun k => rfl) ?_
  simp only [PAll.chart_Kids.l0]
  rw [hrd, hw]
  refine ev_pos (by omega) (ev_pos (by omega) (ev_pos (by omega) ?_))
  by_cases c : x.f1 = s
  ·refine ev_pos c (ev_bind (hist_f _) ?_)
   cases hh : histP x.f0 with
   | true =>
    have e : kidsF s (x :: suf) (pre.length : Int) = kidsF s suf ((pre ++ [x]).length : Int) := by rw [e1]; simp only [kidsF]; rw [if_neg]; simp [hh]
    exact ev_is (by rw [e]) (ev_pos rfl (nx acc (by simp; omega)))
   | false =>
    have e : kidsF s (x :: suf) (pre.length : Int) = (pre.length : Int) :: kidsF s suf ((pre ++ [x]).length : Int) := by rw [e1]; simp only [kidsF]; rw [if_pos]; exact ⟨c, hh⟩
    have := nx (acc ++ [(pre.length : Int)]) (by simp; omega)
    exact ev_is (by rw [e]; simp) (ev_neg (by simp) (ev_pos (by omega) this))
  ·have e : kidsF s (x :: suf) (pre.length : Int) = kidsF s suf ((pre ++ [x]).length : Int) := by rw [e1]; simp only [kidsF]; rw [if_neg]; exact fun h => c h.1
   exact ev_is (by rw [e]) (ev_neg c (nx acc (by simp; omega)))
theorem kids_ev (st : List Sta) (tr : List Tra) (v s : Int) (hn : st.length ≤ 1000000) : Ev (fun k => PAll.chart_Kids.f k v st tr s) (kidsP st s) := by
 have := kids_l0 st s hn st [] [] rfl (by simp)
 rw [List.nil_append] at this
 exact this
theorem event_f (n : Int) : PAll.chart_event.f n = some (decide (1 ≤ n ∧ n ≤ 1000)) := by
 unfold PAll.chart_event.f
 by_cases h : n ≥ 1
 ·rw [if_pos h]; congr 1; by_cases h2 : n ≤ 1000 <;> simp [h2] <;> omega
 ·rw [if_neg h]; congr 1; simp; omega
end Go.Proofs.YtemoonhnncopoaaGreatDoor
end
section
namespace Go.Proofs.YtemoonhnncopoaaGreatDoor.PX
def takes (t : T) : Int :=
 if t.f2 ≠ 0 ∨ t.f1 < 0 then -1
 else if t.f0 = 1 ∨ (t.f0 = 2 ∧ t.f1 ≤ 25) then 0
 else if t.f1 ≠ 0 then -1
 else if t.f0 = 15 ∨ t.f0 = 16 then 0
 else if t.f0 = 14 ∨ t.f0 = 19 then 1
 else if 3 ≤ t.f0 ∧ t.f0 ≤ 13 then 2
 else -1
theorem takes_cases (t : T) : takes t = -1 ∨ takes t = 0 ∨ takes t = 1 ∨ takes t = 2 := by unfold takes; split <;> (try split) <;> (try split) <;> (try split) <;> (try split) <;> (try split) <;> simp
def mayGo : List T → Int → Option Int
 | [], n => some n
 | t :: p, n => if takes t < 0 ∨ takes t > n then none else mayGo p (n + (1 - takes t))
def may (p : List T) : Bool := decide (p.length ≤ 100) && (mayGo p 0 == some 1)
theorem mayGo_append (p q : List T) (n : Int) : mayGo (p ++ q) n = (mayGo p n).bind (mayGo q) := by
 induction p generalizing n with
 | nil => rfl
 | cons t p ih => simp only [List.cons_append, mayGo]; split <;> simp [ih]
theorem mayGo_snoc (p : List T) (t : T) (n m : Int) (h : mayGo p n = some m) : mayGo (p ++ [t]) n = if takes t < 0 ∨ takes t > m then none else some (m + (1 - takes t)) := by
 rw [mayGo_append, h]; simp only [Option.bind_some, mayGo]
inductive Tr where
 | leaf (t : T)
 | one (t : T) (a : Tr)
 | two (t : T) (a b : Tr)
namespace Tr
def flat : Tr → List T
 | leaf t => [t]
 | one t a => a.flat ++ [t]
 | two t a b => a.flat ++ b.flat ++ [t]
def wf : Tr → Prop
 | leaf t => takes t = 0
 | one t a => takes t = 1 ∧ a.wf
 | two t a b => takes t = 2 ∧ a.wf ∧ b.wf
end Tr
def flats : List Tr → List T
 | [] => []
 | x :: l => x.flat ++ flats l
theorem flats_append (a b : List Tr) : flats (a ++ b) = flats a ++ flats b := by
 induction a with
 | nil => rfl
 | cons x a ih => simp [flats, ih]
theorem flats_one (x : Tr) : flats [x] = x.flat := by simp [flats]
theorem two_last {α : Type} (l : List α) (h : 2 ≤ l.length) : ∃ l' a b, l = l' ++ [a, b] := by
 obtain ⟨r, b, rfl⟩ : ∃ r b, l = r ++ [b] := ⟨l.dropLast, l.getLast (by intro e; subst e; simp at h), (List.dropLast_concat_getLast _).symm⟩
 obtain ⟨r', a, rfl⟩ : ∃ r' a, r = r' ++ [a] := ⟨r.dropLast, r.getLast (by intro e; subst e; simp at h), (List.dropLast_concat_getLast _).symm⟩
 exact ⟨r', a, b, by simp⟩
theorem one_last {α : Type} (l : List α) (h : 1 ≤ l.length) : ∃ l' a, l = l' ++ [a] :=
 ⟨l.dropLast, l.getLast (by intro e; subst e; simp at h), (List.dropLast_concat_getLast _).symm⟩
theorem trees_of (p : List T) : ∀ (S : List Tr) (m : Int), (∀ x ∈ S, x.wf) → mayGo p S.length = some m → ∃ S' : List Tr, (∀ x ∈ S', x.wf) ∧ (S'.length : Int) = m ∧ flats S' = flats S ++ p := by
 induction p with
 | nil => intro S m hS h; simp only [mayGo, Option.some.injEq] at h; exact ⟨S, hS, h, by simp⟩
 | cons t p ih =>
  intro S m hS h
  simp only [mayGo] at h
  split at h
  ·cases h
  rename_i hc
  rcases takes_cases t with e | e | e | e
  ·exact absurd (.inl (by omega)) hc
  ·obtain ⟨S', h1, h2, h3⟩ := ih (S ++ [.leaf t]) m (by intro x hx; simp at hx; rcases hx with hx | rfl; exact hS x hx; exact e) (by simpa [e] using h)
   exact ⟨S', h1, h2, by rw [h3, flats_append, flats_one]; simp [Tr.flat]⟩
  ·obtain ⟨l, a, rfl⟩ := one_last S (by omega)
   obtain ⟨S', h1, h2, h3⟩ := ih (l ++ [.one t a]) m (by intro x hx; simp at hx; rcases hx with hx | rfl; exact hS x (by simp [hx]); exact ⟨e, hS a (by simp)⟩) (by simpa [e] using h)
   exact ⟨S', h1, h2, by rw [h3, flats_append, flats_append, flats_one, flats_one]; simp [Tr.flat]⟩
  ·obtain ⟨l, a, b, rfl⟩ := two_last S (by omega)
   obtain ⟨S', h1, h2, h3⟩ := ih (l ++ [.two t a b]) m (by intro x hx; simp at hx; rcases hx with hx | rfl; exact hS x (by simp [hx]); exact ⟨e, hS a (by simp), hS b (by simp)⟩) (by
    have e1 : ((l ++ [a, b]).length : Int) + (1 - takes t) = ((l ++ [Tr.two t a b]).length : Int) := by simp [e]; omega
    rw [← e1]; exact h)
   exact ⟨S', h1, h2, by rw [h3, flats_append, flats_append, flats_one]; simp [Tr.flat, flats]⟩
theorem tree_of {p : List T} (h : mayGo p 0 = some 1) : ∃ x : Tr, x.wf ∧ p = x.flat := by
 obtain ⟨S, h1, h2, h3⟩ := trees_of p [] 1 (by simp) (by simpa using h)
 obtain ⟨x, rfl⟩ : ∃ x, S = [x] := by
  match S, h2 with
  | [x], _ => exact ⟨x, rfl⟩
  | [], h2 => simp at h2
  | _ :: _ :: _, h2 => simp at h2; omega
 exact ⟨x, h1 x (by simp), by rw [flats_one] at h3; simpa [flats] using h3.symm⟩
section machine
variable {V : Type} (lf : T → Except Int V) (op1 : T → V → Except Int V) (op2 : T → V → V → Except Int V)
def step (t : T) (l : List V) : Except Int (List V) :=
 if takes t = 0 then (lf t).map fun v => l ++ [v]
 else if takes t = 1 then match l.getLast? with
  | some a => (op1 t a).map fun v => l.dropLast ++ [v]
  | none => .error 0
 else match l.getLast?, l.dropLast.getLast? with
  | some b, some a => (op2 t a b).map fun v => l.dropLast.dropLast ++ [v]
  | _, _ => .error 0
theorem step_leaf {t : T} (h : takes t = 0) (l : List V) : step lf op1 op2 t l = (lf t).map fun v => l ++ [v] := by simp [step, h]
theorem step_one {t : T} (h : takes t = 1) (l : List V) (a : V) : step lf op1 op2 t (l ++ [a]) = (op1 t a).map fun v => l ++ [v] := by simp [step, h]
theorem step_two {t : T} (h : takes t = 2) (l : List V) (a b : V) : step lf op1 op2 t (l ++ [a, b]) = (op2 t a b).map fun v => l ++ [v] := by
 have e : l ++ [a, b] = (l ++ [a]) ++ [b] := by simp
 rw [e]
 simp [step, h]
def runs : List T → List V → Except Int (List V)
 | [], l => .ok l
 | t :: p, l => (step lf op1 op2 t l).bind (runs p)
theorem runs_append (p q : List T) (l : List V) : runs lf op1 op2 (p ++ q) l = (runs lf op1 op2 p l).bind (runs lf op1 op2 q) := by
 induction p generalizing l with
 | nil => rfl
 | cons t p ih =>
  simp only [List.cons_append, runs]
  cases step lf op1 op2 t l with
  | error e => rfl
  | ok l' => exact ih l'
def val : Tr → Except Int V
 | .leaf t => lf t
 | .one t a => (val a).bind (op1 t)
 | .two t a b => (val a).bind fun x => (val b).bind fun y => op2 t x y
theorem runs_len (p : List T) : ∀ (l l' : List V) (m : Int), runs lf op1 op2 p l = .ok l' → mayGo p l.length = some m → (l'.length : Int) = m := by
 induction p with
 | nil => intro l l' m h h2; simp only [runs, Except.ok.injEq] at h; simp only [mayGo, Option.some.injEq] at h2; rw [← h]; exact h2
 | cons t p ih =>
  intro l l' m h h2
  simp only [mayGo] at h2
  split at h2
  ·cases h2
  rename_i hc
  simp only [runs] at h
  cases hs : step lf op1 op2 t l with
  | error e => rw [hs] at h; cases h
  | ok l1 =>
   rw [hs] at h
   have hl : (l1.length : Int) = l.length + (1 - takes t) := by
    rcases takes_cases t with e | e | e | e
    ·exact absurd (.inl (by omega)) hc
    ·rw [step_leaf _ _ _ e] at hs
     cases hv : lf t with
     | error e => rw [hv] at hs; cases hs
     | ok v => rw [hv] at hs; simp only [Except.map, Except.ok.injEq] at hs; rw [← hs, e]; simp
    ·obtain ⟨r, a, rfl⟩ := one_last l (by omega)
     rw [step_one _ _ _ e] at hs
     cases hv : op1 t a with
     | error e => rw [hv] at hs; cases hs
     | ok v => rw [hv] at hs; simp only [Except.map, Except.ok.injEq] at hs; rw [← hs, e]; simp
    ·obtain ⟨r, a, b, rfl⟩ := two_last l (by omega)
     rw [step_two _ _ _ e] at hs
     cases hv : op2 t a b with
     | error e => rw [hv] at hs; cases hs
     | ok v => rw [hv] at hs; simp only [Except.map, Except.ok.injEq] at hs; rw [← hs, e]; simp; omega
   exact ih l1 l' m h (by rw [hl]; exact h2)
theorem mayGo_take {p : List T} {n m : Int} (h : mayGo p n = some m) (q : Nat) : ∃ k, mayGo (p.take q) n = some k := by
 have e : p = p.take q ++ p.drop q := (List.take_append_drop q p).symm
 rw [e, mayGo_append] at h
 cases hk : mayGo (p.take q) n with
 | none => rw [hk] at h; cases h
 | some k => exact ⟨k, rfl⟩
theorem may_at {p : List T} (h : mayGo p 0 = some 1) (q : Nat) (hq : q < p.length) {l : List V} (hr : runs lf op1 op2 (p.take q) [] = .ok l) :
  0 ≤ takes p[q] ∧ takes p[q] ≤ l.length := by
 obtain ⟨k, hk⟩ := mayGo_take h q
 have hl := runs_len lf op1 op2 (p.take q) [] l k hr hk
 obtain ⟨k', hk'⟩ := mayGo_take h (q + 1)
 rw [List.take_succ_eq_append_getElem hq, mayGo_snoc _ _ _ _ hk] at hk'
 split at hk'
 ·cases hk'
 ·rename_i hc; omega
theorem runs_snoc (p : List T) (q : Nat) (hq : q < p.length) {l : List V} (hr : runs lf op1 op2 (p.take q) [] = .ok l) : runs lf op1 op2 (p.take (q + 1)) [] = step lf op1 op2 p[q] l := by
 rw [List.take_succ_eq_append_getElem hq, runs_append, hr]
 simp only [Except.bind, runs]
 cases step lf op1 op2 p[q] l <;> rfl
theorem runs_fail (p : List T) (q : Nat) {e : Int} (hr : runs lf op1 op2 (p.take q) [] = .error e) : runs lf op1 op2 p [] = .error e := by
 have h : p = p.take q ++ p.drop q := (List.take_append_drop q p).symm
 rw [h, runs_append, hr]
 rfl
def value (p : List T) : Except Int V := (runs lf op1 op2 p []).bind fun l => match l with | v :: _ => .ok v | [] => .error 0
end machine
end Go.Proofs.YtemoonhnncopoaaGreatDoor.PX
end
section
namespace Go.Proofs.YtemoonhnncopoaaGreatDoor
open Go.RowKit
theorem laid3 {w w2 : World} {x y z : Value} {t : TypeId} (hb : Below (w.alloc (.cells #[x, y, z] t)).heap.size (w.alloc (.cells #[x, y, z] t)) w2) :
  w2.cell? ⟨w.heap.size, 0, none⟩ = some x ∧ w2.cell? ⟨w.heap.size, 1, none⟩ = some y ∧ w2.cell? ⟨w.heap.size, 2, none⟩ = some z ∧
   w2.frozen? ⟨w.heap.size, 0, none⟩ = false ∧ w2.frozen? ⟨w.heap.size, 1, none⟩ = false ∧ w2.frozen? ⟨w.heap.size, 2, none⟩ = false ∧ w.heap.size < w2.heap.size ∧ Below w.heap.size w w2 := by
 have h := (hb.block w.heap.size (by simp)).trans (blk_new _ _)
 have hz := hb.size
 simp at hz
 exact ⟨blk_cell h 0, blk_cell h 1, blk_cell h 2, blk_free h 0, blk_free h 1, blk_free h 2, by omega, ((Below.refl _ _).alloc (Nat.le_refl _) _).trans (hb.mono (by simp))⟩
theorem below_set3 {B g : Nat} {w W : World} (h : Below B w W) (hB : B ≤ g) (a b c : Value) : Below B w (((W.setCell ⟨g, 0, none⟩ a).setCell ⟨g, 1, none⟩ b).setCell ⟨g, 2, none⟩ c) :=
 ((h.setCell hB _).setCell hB _).setCell hB _
theorem below_then {B : Nat} {w w1 w2 : World} (h : Below B w w1) (hB : B ≤ w1.heap.size) (k : Below w1.heap.size w1 w2) : Below B w w2 := h.trans (k.mono hB)
theorem below_drewN' {B : Nat} {w w' : World} (h : Below B w w') (n : Nat) : Below B w (w'.drewN n) := by
 induction n generalizing w' with
 | zero => exact h
 | succ n ih =>
  have := ih h.drew
  rw [World.drewN_drew, Nat.add_comm] at this
  exact this
end Go.Proofs.YtemoonhnncopoaaGreatDoor
end
section
namespace Go.Proofs.YtemoonhnncopoaaGreatDoor
open Go.RowKit PX Go.Proofs.YtemoonhnncopoaaGreatDoorW.PrintWords
abbrev Toks (w : World) (B : Nat) (v : Value) (l : List T) : Prop := Kd.R PAll.k91 91 w B (fun _ => True) v l
abbrev ToksC (w : World) (A : Option Addr) (n : Nat) (l : List T) : Prop := Kd.C PAll.k91 w A n l
section
variable {P : Program} {ops : Array Oper} {rest : List Oper} {o : Oper} {a : Act} {Q : Exit → Act → World → Prop}
theorem tok_append {W : World} (hgd : o.guard = none) (s x : Operand)
  (ho : o.op = .call { callee := .builtin .append, args := #[s, x], argTypes := #[92, 92] })
  (B : Nat) (v : Value) (xs : List T) (k n c : Int) (hs : a.eval s = v) (N : Nat) (hx : a.eval x = .slice (some ⟨N, 0, none⟩) 1 1) (hN : N = W.heap.size)
  (HO : Toks W B v xs) (hB : B ≤ W.heap.size) (hl : xs.length < 1000000)
  (h : ∀ v1 w1, Toks w1 B v1 (xs ++ [⟨k, n, c⟩]) → W.grownBy w1 v.ownBlock → (v1.ownBlock = v.ownBlock ∨ ∃ b, v1.ownBlock = some b ∧ W.heap.size ≤ b) → wpList Tryz.prog ops Q rest (a.put o.dst v1) w1) :
  wpList Tryz.prog ops Q (o :: rest) a (W.alloc (.cells #[.int .i64 k, .int .i64 n, .int .i64 c] 91)) := by
 subst hN
 refine Kd.R_append PAll.k91 (w0 := W) B hgd s x 92 91 (.agg #[(.int .i64 0), (.int .i64 0), (.int .i64 0)]) 24 ho Tryz.underlying92 PAll.info91 rfl (by decide) (by omega) v xs (⟨k, n, c⟩ : T) [.int .i64 k, .int .i64 n, .int .i64 c]
  (fun _ => True) (fun _ => False) hs hx (PAll.k91_mkM _ _ _ (⟨k, n, c⟩ : T)) (fun _ hk => hk.elim) (fun _ _ => trivial) HO (Below.refl _ _) hB (by omega) ?_
 intro v1 w1 h1 _ h3 h4
 exact h v1 w1 h1 h3 h4
end
inductive Er where
 | none
 | code (c : Int)
 | spot (at_ c : Int)
def ErV (B : Nat) (w : World) (v : Value) : Er → Prop
 | .none => v = .nilIface
 | .code c => v = .iface 93 (.int .i64 c)
 | .spot a c => ∃ g, v = .iface 126 (.pointer (some ⟨g, 0, none⟩)) ∧ B ≤ g ∧ w.heap[g]? = some (.cells #[.int .i64 a, .int .i64 c] 128 (0, 0))
end Go.Proofs.YtemoonhnncopoaaGreatDoor
end
section
namespace Go.Proofs.YtemoonhnncopoaaGreatDoor.PX
structure St where
 at_ : Nat
 out : List T
 bad : Bool
namespace St
def adv (s : St) : St := { s with at_ := s.at_ + 1 }
def put (s : St) (k n : Int) : St := { s with out := s.out ++ [⟨k, n, 0⟩] }
def fail (s : St) : St := { s with bad := true }
def see (l : List T) (s : St) : Int := if s.bad = true ∨ l.length ≤ s.at_ then 0 else (l[s.at_]?.getD ⟨0, 0, 0⟩).f0
def num (l : List T) (s : St) : Int := (l[s.at_]?.getD ⟨0, 0, 0⟩).f1
end St
def level (k : Int) : Nat := if k = 13 then 1 else if k = 12 then 2 else if 8 ≤ k ∧ k ≤ 11 then 3 else if k = 3 ∨ k = 4 then 4 else if 5 ≤ k ∧ k ≤ 7 then 5 else 0
inductive Pr (l : List T) : Bool → Nat → St → St → Prop
 | row {v : Nat} {s s1 s2 : St} (hv : v = 1 ∨ v = 2 ∨ v = 4 ∨ v = 5) (h1 : Pr l false (v + 1) s s1) (h2 : Pr l true v s1 s2) : Pr l false v s s2
 | stop {v : Nat} {s : St} (h : level (s.see l) ≠ v) : Pr l true v s s
 | more {v : Nat} {s s1 s2 : St} (h : level (s.see l) = v) (h1 : Pr l false (v + 1) s.adv s1) (h2 : Pr l true v (s1.put (s.see l) 0) s2) : Pr l true v s s2
 | not_ {s s1 : St} (h : s.see l = 14) (h1 : Pr l false 3 s.adv s1) : Pr l false 3 s (s1.put 14 0)
 | sum {s s1 : St} (h : s.see l ≠ 14) (h1 : Pr l false 4 s s1) (h2 : level (s1.see l) ≠ 3) : Pr l false 3 s s1
 | cmp {s s1 s2 : St} (h : s.see l ≠ 14) (h1 : Pr l false 4 s s1) (h2 : level (s1.see l) = 3) (h3 : Pr l false 4 s1.adv s2) : Pr l false 3 s (s2.put (s1.see l) 0)
 | neg {s s1 : St} (h : s.see l = 4) (h1 : Pr l false 6 s.adv s1) : Pr l false 6 s (s1.put 19 0)
 | leaf {s : St} (h : s.see l = 1 ∨ s.see l = 2 ∨ s.see l = 15 ∨ s.see l = 16) : Pr l false 6 s (s.adv.put (s.see l) (s.num l))
 | open_ {s s1 : St} (h : s.see l = 17) (h1 : Pr l false 1 s.adv s1) (h2 : s1.see l = 18) : Pr l false 6 s s1.adv
 | openBad {s s1 : St} (h : s.see l = 17) (h1 : Pr l false 1 s.adv s1) (h2 : s1.see l ≠ 18) : Pr l false 6 s s1.fail
 | none_ {s : St} (h : ¬(s.see l = 4 ∨ s.see l = 1 ∨ s.see l = 2 ∨ s.see l = 15 ∨ s.see l = 16 ∨ s.see l = 17)) : Pr l false 6 s s.fail
theorem see_lt {l : List T} {s : St} (h : s.see l ≠ 0) : s.at_ < l.length := by
 unfold St.see at h; split at h
 ·exact absurd rfl h
 ·rename_i hc; omega
theorem see_at {l : List T} {s : St} {k : Int} (h : s.see l = k) (hk : k ≠ 0) : s.at_ < l.length := see_lt (by omega)
theorem level_see {k : Int} {v : Nat} (h : level k = v) (hv : v ≠ 0) : k ≠ 0 := by
 rintro rfl; simp [level] at h; omega
theorem adv_at (s : St) : s.adv.at_ = s.at_ + 1 := rfl
theorem adv_out (s : St) : s.adv.out = s.out := rfl
theorem put_at (s : St) (k n : Int) : (s.put k n).at_ = s.at_ := rfl
theorem put_out (s : St) (k n : Int) : (s.put k n).out.length = s.out.length + 1 := by simp [St.put]
theorem fail_at (s : St) : s.fail.at_ = s.at_ := rfl
theorem fail_out (s : St) : s.fail.out = s.out := rfl
theorem Pr.le {l : List T} {b : Bool} {v : Nat} {s s' : St} (h : Pr l b v s s') (hv : v ≠ 0) (hs : s.at_ ≤ l.length) : s.at_ ≤ s'.at_ ∧ s'.at_ ≤ l.length ∧ s'.out.length + s.at_ ≤ s.out.length + s'.at_ := by
 induction h with
 | row _ h1 h2 i1 i2 => have := i1 (by omega) hs; have := i2 hv (by omega); omega
 | stop h => omega
 | more h h1 h2 i1 i2 =>
  have := see_lt (level_see h hv)
  have a := i1 (by omega) (by rw [adv_at]; omega)
  have b := i2 hv (by rw [put_at]; omega)
  simp only [adv_at, adv_out, put_at, put_out] at a b ⊢; omega
 | not_ h h1 i1 =>
  have := see_at h (by omega)
  have a := i1 (by omega) (by rw [adv_at]; omega)
  simp only [adv_at, adv_out, put_at, put_out] at a ⊢; omega
 | sum h h1 h2 i1 => exact i1 (by omega) hs
 | cmp h h1 h2 h3 i1 i3 =>
  have a := i1 (by omega) hs
  have := see_lt (level_see h2 (by omega))
  have b := i3 (by omega) (by rw [adv_at]; omega)
  simp only [adv_at, adv_out, put_at, put_out] at a b ⊢; omega
 | neg h h1 i1 =>
  have := see_at h (by omega)
  have a := i1 (by omega) (by rw [adv_at]; omega)
  simp only [adv_at, adv_out, put_at, put_out] at a ⊢; omega
 | leaf h =>
  have := see_lt (l := l) (fun e => by rw [e] at h; omega)
  simp only [adv_at, adv_out, put_at, put_out]; omega
 | open_ h h1 h2 i1 =>
  have := see_at h (by omega)
  have a := i1 (by omega) (by rw [adv_at]; omega)
  have := see_at h2 (by omega)
  simp only [adv_at, adv_out] at a ⊢; omega
 | openBad h h1 h2 i1 =>
  have := see_at h (by omega)
  have a := i1 (by omega) (by rw [adv_at]; omega)
  simp only [adv_at, adv_out, fail_at, fail_out] at a ⊢; omega
 | none_ h => simp only [fail_at, fail_out]; omega
end Go.Proofs.YtemoonhnncopoaaGreatDoor.PX
end
section
namespace Go.Proofs.YtemoonhnncopoaaGreatDoor
open Go.RowKit PX Go.Proofs.YtemoonhnncopoaaGreatDoorW.PrintWords
theorem takes0 {t : T} (h : takes t = 0) : (t.f0 = 1 ∨ t.f0 = 2 ∨ t.f0 = 15 ∨ t.f0 = 16) ∧ 0 ≤ t.f1 ∧ (t.f0 = 2 → t.f1 ≤ 25) := by
 unfold takes at h
 split at h
 ·cases h
 ·split at h
  ·omega
  ·split at h
   ·cases h
   ·split at h
    ·omega
    ·split at h
     ·cases h
     ·split at h <;> cases h
theorem takes1 {t : T} (h : takes t = 1) : t.f0 = 14 ∨ t.f0 = 19 := by
 unfold takes at h
 split at h
 ·cases h
 ·split at h
  ·cases h
  ·split at h
   ·cases h
   ·split at h
    ·cases h
    ·split at h
     ·omega
     ·split at h <;> cases h
theorem takes2 {t : T} (h : takes t = 2) : 3 ≤ t.f0 ∧ t.f0 ≤ 13 := by
 unfold takes at h
 split at h
 ·cases h
 ·split at h
  ·cases h
  ·split at h
   ·cases h
   ·split at h
    ·cases h
    ·split at h
     ·cases h
     ·split at h
      ·omega
      ·cases h
theorem takes_f (K : Nat) (k n c : Int) : PAll.parse_takes.f (K + 5) k n c = some (takes ⟨k, n, c⟩) := by
 simp only [PAll.parse_takes.f, PAll.parse_takes.j0, PAll.parse_takes.j1, PAll.parse_takes.j2, PAll.parse_takes.j3, takes, decide_eq_true_eq, beq_iff_eq, if_true, if_false, Bool.false_eq_true]
 by_cases h1 : c = 0
 ·by_cases h2 : n < 0
  ·simp [h1, h2]
  ·by_cases h3 : k = 1
   ·simp [h1, h2, h3]
   ·by_cases h4 : k = 2
    ·subst h4
     by_cases h5 : n ≤ 25
     ·simp [h1, h2, h5]
     ·have h6 : n ≠ 0 := by omega
      simp [h1, h2, h5, h6]
    ·by_cases h6 : n = 0
     ·subst h6
      by_cases a15 : k = 15
      ·subst a15; simp [h1]
      by_cases a16 : k = 16
      ·subst a16; simp [h1]
      by_cases a14 : k = 14
      ·subst a14; simp [h1]
      by_cases a19 : k = 19
      ·subst a19; simp [h1]
      by_cases a3 : 3 ≤ k
      ·by_cases a13 : k ≤ 13
       ·simp [h1, h3, h4, a15, a16, a14, a19, a3, a13]
       ·simp [h1, h3, h4, a15, a16, a14, a19, a3, a13]
      ·simp [h1, h3, h4, a15, a16, a14, a19, a3]
     ·simp [h1, h2, h3, h4, h6]
 ·simp [h1]
theorem mayL_ev (l : List T) (hl : l.length ≤ 100) (d : Nat) : ∀ (q : Nat) (n : Int), q ≤ l.length → l.length - q = d → 0 ≤ n → n ≤ q → Ev (fun k => PAll.parse_May.l0 k n l l.length q) (mayGo (l.drop q) n == some 1) := by
 induction d with
 | zero =>
  intro q n hq hd hn hn2
  obtain rfl : q = l.length := by omega
  refine Ev.step (fun k => rfl) ?_
  simp only [PAll.parse_May.l0]
  refine ev_neg (by omega) ?_
  rw [List.drop_of_length_le (Nat.le_refl _)]
  have e : (mayGo [] n == some 1) = (n == 1) := by simp [mayGo]
  rw [e]
  exact Ev.now _
 | succ d ih =>
  intro q n hq hd hn hn2
  have hlt : q < l.length := by omega
  refine Ev.step (fun k => rfl) ?_
  simp only [PAll.parse_May.l0]
  refine ev_pos (by omega) (ev_pos (by omega) (ev_pos (by omega) ?_))
  have hti : PAll.rd_T91 l q = l[q] := by simp [PAll.rd_T91, List.getD_eq_getElem?_getD, List.getElem?_eq_getElem hlt]
  rw [hti, List.drop_eq_getElem_cons hlt]
  simp only [mayGo]
  have ht : Ev (fun k => PAll.parse_takes.f k l[q].f0 l[q].f1 l[q].f2) (takes l[q]) := Ev.of (fun k => PAll.parse_takes.mono _ _ _ k) (takes_f 0 _ _ _)
  refine Ev.bind ht ?_
  have hc := takes_cases l[q]
  by_cases h0 : takes l[q] < 0
  ·refine ev_pos h0 ?_
   rw [if_pos (.inl h0)]
   exact Ev.now _
  ·refine ev_neg h0 ?_
   by_cases h1 : takes l[q] > n
   ·refine ev_pos h1 ?_
    rw [if_pos (.inr h1)]
    exact Ev.now _
   ·refine ev_neg h1 ?_
    have e1 : wrap64 (1 - takes l[q]) = 1 - takes l[q] := w64 (by omega) (by omega)
    rw [if_neg (by omega), e1, w64 (by omega) (by omega), w64 (by omega) (by omega)]
    have := ih (q + 1) (n + (1 - takes l[q])) (by omega) (by omega) (by omega) (by omega)
    exact this
theorem may_f (l : List T) : ∃ k, PAll.parse_May.f k l = some (may l) := by
 by_cases h : l.length ≤ 100
 ·have := mayL_ev l h l.length 0 0 (by omega) (by omega) (by omega) (by omega)
  obtain ⟨k, hk⟩ := Ev.rounds this
  refine ⟨k, ?_⟩
  unfold PAll.parse_May.f
  rw [if_neg (by omega)]
  simpa [may, h] using hk
 ·refine ⟨0, ?_⟩
  unfold PAll.parse_May.f
  rw [if_pos (by omega)]
  simp [may, h]
theorem may_any (A : Option Addr) (c : Nat) (l : List T) (w : World) (hC : ToksC w A l.length l) (hc : l.length ≤ c) :
  Calls Tryz.prog 108 #[.slice A l.length c] w fun e w' => e = .returned (.bool (may l)) ∧ Below w.heap.size w w' := by
 obtain ⟨k, hk⟩ := may_f l
 exact PAll.parse_May.calls k A c l _ w hC hc hk
end Go.Proofs.YtemoonhnncopoaaGreatDoor
end
section
namespace Go.Proofs.YtemoonhnncopoaaGreatDoor
open Go.RowKit Go.Proofs.YtemoonhnncopoaaGreatDoorW.PrintWords
open PX (T V Tr takes runs val value mayGo may tree_of takes_cases)
def truthV (b : Bool) : V := (2, if b then 1 else 0)
def wholeV (n : Int) : V := (1, n)
def lookV (typed : Bool) (vars : Int) (env : List Int) (v : Int) : Option Int :=
 if typed then if v < vars then some 0 else none else if v < env.length then some (rd env v) else none
def leafE (look : Int → Option Int) (t : T) : Except Int V :=
 if t.f0 = 1 then .ok (wholeV t.f1) else if t.f0 = 2 then (match look t.f1 with | some n => .ok (wholeV n) | none => .error 4) else .ok (truthV (t.f0 == 15))
def oneE (t : T) (a : V) : Except Int V :=
 if t.f0 = 19 ∧ a.1 = 1 then .ok (wholeV (wrap64 (-a.2))) else if t.f0 = 14 ∧ a.1 = 2 then .ok (truthV (a.2 == 0)) else .error 8
def numE (k a b : Int) : Except Int V :=
 if k = 3 then .ok (wholeV (wrap64 (a + b))) else if k = 4 then .ok (wholeV (wrap64 (a - b))) else if k = 5 then .ok (wholeV (wrap64 (a * b)))
 else if k = 6 then (if b = 0 then .error 9 else .ok (wholeV (wrap64 (a.tdiv b)))) else if k = 7 then (if b = 0 then .error 9 else .ok (wholeV (a.tmod b)))
 else if k = 8 then .ok (truthV (decide (a < b))) else if k = 9 then .ok (truthV (decide (a ≤ b))) else .error 8
def bothE (k : Int) (a b : V) : Except Int V :=
 if a.1 ≠ b.1 then .error 8 else if k = 10 then .ok (truthV (a.2 == b.2)) else if k = 11 then .ok (truthV (!(a.2 == b.2)))
 else if a.1 = 1 then numE k a.2 b.2
 else if k = 12 then .ok (truthV (decide (wrap64 (a.2 + b.2) > 1))) else if k = 13 then .ok (truthV (decide (wrap64 (a.2 + b.2) > 0))) else .error 8
def zeroE (typed : Bool) : Except Int V → Except Int V
 | .error e => if e = 9 ∧ typed = true then .ok (wholeV 0) else .error e
 | .ok v => .ok v
def twoE (typed : Bool) (t : T) (a b : V) : Except Int V := zeroE typed (bothE t.f0 a b)
abbrev runsE (look : Int → Option Int) (typed : Bool) := runs (leafE look) oneE (twoE typed)
abbrev stepE (look : Int → Option Int) (typed : Bool) := PX.step (leafE look) oneE (twoE typed)
abbrev valueE (look : Int → Option Int) (typed : Bool) := value (leafE look) oneE (twoE typed)
end Go.Proofs.YtemoonhnncopoaaGreatDoor
end
section
namespace Go.Proofs.YtemoonhnncopoaaGreatDoor
open Go.RowKit Go.Proofs.YtemoonhnncopoaaGreatDoorW.PrintWords
open PX (T V)
theorem laid2 {w w2 : World} {x y : Value} {t : TypeId} (hb : Below (w.alloc (.cells #[x, y] t)).heap.size (w.alloc (.cells #[x, y] t)) w2) :
  w2.heap[w.heap.size]? = some (.cells #[x, y] t (0, 0)) ∧ w2.cell? ⟨w.heap.size, 0, none⟩ = some x ∧ w2.cell? ⟨w.heap.size, 1, none⟩ = some y ∧
   w2.frozen? ⟨w.heap.size, 0, none⟩ = false ∧ w2.frozen? ⟨w.heap.size, 1, none⟩ = false ∧ w.heap.size < w2.heap.size ∧ Below w.heap.size w w2 := by
 have h := (hb.block w.heap.size (by simp)).trans (blk_new _ _)
 have hz := hb.size
 simp at hz
 exact ⟨h, blk_cell h 0, blk_cell h 1, blk_free h 0, blk_free h 1, by omega, ((Below.refl _ _).alloc (Nat.le_refl _) _).trans (hb.mono (by simp))⟩
theorem below_set2 {B g : Nat} {w W : World} (h : Below B w W) (hB : B ≤ g) (a b : Value) : Below B w ((W.setCell ⟨g, 0, none⟩ a).setCell ⟨g, 1, none⟩ b) :=
 (h.setCell hB _).setCell hB _
theorem blk_set2 {w : World} {g : Nat} {x y : Value} {t : TypeId} {fr : Nat × Nat} (h : w.heap[g]? = some (.cells #[x, y] t fr)) (a b : Value) : ((w.setCell ⟨g, 0, none⟩ a).setCell ⟨g, 1, none⟩ b).heap[g]? = some (.cells #[a, b] t fr) :=
 blk_set (blk_set h 0 a) 1 b
def agV (v : V) : Value := .agg #[.int .i64 v.1, .int .i64 v.2]
def retE (e : Except Int V) : Value := match e with | .ok v => .tuple #[agV v, .nilIface] | .error c => .tuple #[agV (0, 0), .iface 93 (.int .i64 c)]
theorem whole_any (n : Int) (w : World) : Calls Tryz.prog 112 #[.int .i64 n] w fun e w' => e = .returned (agV (wholeV n)) ∧ Below w.heap.size w w' :=
 PAll.expr_whole.calls n 1 n w rfl
theorem truth_any (b : Bool) (w : World) : Calls Tryz.prog 143 #[.bool b] w fun e w' => e = .returned (agV (truthV b)) ∧ Below w.heap.size w w' :=
 (PAll.expr_truth.calls b 2 (if b then 1 else 0) w (by cases b <;> rfl))
theorem alone_f (k : Int) (a : V) : PAll.expr_alone.f 3 k a.1 a.2 = some (match oneE ⟨k, 0, 0⟩ a with | .ok v => (v.1, v.2, none) | .error c => (0, 0, some c)) := by
 simp only [PAll.expr_alone.f, PAll.expr_alone.j0, PAll.num_Neg.f, PAll.expr_whole.f, PAll.expr_truth.f, oneE, Option.bind_some, beq_iff_eq]
 by_cases h19 : k = 19
 ·subst h19
  by_cases h1 : a.1 = 1
  ·simp [h1, wholeV]
  ·simp [h1]
 ·by_cases h14 : k = 14
  ·subst h14
   by_cases h2 : a.1 = 2
   ·by_cases h0 : a.2 = 0
    ·simp [h2, h0, truthV]
    ·simp [h2, h0, truthV]
   ·simp [h2]
  ·simp [h19, h14]
theorem oneE_kind (t : T) (a : V) : oneE t a = oneE ⟨t.f0, 0, 0⟩ a := rfl
theorem alone_any (k : Int) (a : V) (w : World) : Calls Tryz.prog 110 #[.int .i64 k, agV a] w fun e w' => e = .returned (retE (oneE ⟨k, 0, 0⟩ a)) ∧ Below w.heap.size w w' := by
 have h := alone_f k a
 cases hx : oneE ⟨k, 0, 0⟩ a with
 | ok v => rw [hx] at h; exact PAll.expr_alone.calls 3 k a.1 a.2 _ _ _ w h
 | error c => rw [hx] at h; exact PAll.expr_alone.calls 3 k a.1 a.2 _ _ _ w h
theorem run_add (args : Array Value) (w : World) : (callFunc 166 args).run Tryz.prog w = .ok (.enter 166 args) w := by
 simp [callFunc, Tryz.func166]; rfl
theorem run_sub (args : Array Value) (w : World) : (callFunc 167 args).run Tryz.prog w = .ok (.enter 167 args) w := by
 simp [callFunc, Tryz.func167]; rfl
theorem run_mul (args : Array Value) (w : World) : (callFunc 168 args).run Tryz.prog w = .ok (.enter 168 args) w := by
 simp [callFunc, Tryz.func168]; rfl
theorem run_div (args : Array Value) (w : World) : (callFunc 169 args).run Tryz.prog w = .ok (.enter 169 args) w := by
 simp [callFunc, Tryz.func169]; rfl
theorem run_mod (args : Array Value) (w : World) : (callFunc 170 args).run Tryz.prog w = .ok (.enter 170 args) w := by
 simp [callFunc, Tryz.func170]; rfl
theorem plain_any (f : FuncId) (hrun : ∀ (args : Array Value) (w : World), (callFunc f args).run Tryz.prog w = .ok (.enter f args) w) (a b r : Int) (hf : ∀ w, Calls Tryz.prog f #[.int .i64 a, .int .i64 b] w fun e w' => e = .returned (.int .i64 r) ∧ Below w.heap.size w w')
  (ga gb : Nat) (w : World) (ha : w.cell? ⟨ga, 0, none⟩ = some (.int .i64 a)) (hb : w.cell? ⟨gb, 0, none⟩ = some (.int .i64 b)) :
  Calls Tryz.prog 164 #[.func (.func f) #[] #[], .pointer (some ⟨ga, 0, none⟩), .pointer (some ⟨gb, 0, none⟩)] w fun e w' => e = .returned (retE (.ok (wholeV r))) ∧ Below w.heap.size w w' := by
 have HF := Lib.hid hf
 clear hf
 have a' := (((Below.refl w.heap.size w).alloc (Nat.le_refl _) (.cells #[.int .i64 0, .int .i64 0] 35)).cell (p := ⟨ga, 0, none⟩) (World.block_lt_of_cell? w _ ha)).trans ha
 have b' := (((Below.refl w.heap.size w).alloc (Nat.le_refl _) (.cells #[.int .i64 0, .int .i64 0] 35)).cell (p := ⟨gb, 0, none⟩) (World.block_lt_of_cell? w _ hb)).trans hb
 go_enter Tryz.func164, Tryz.ntmps164
 go_wp2_with fail
 refine (HF.out _).mono ?_
 rintro e w1 ⟨rfl, hb1⟩
 go_wp2_with fail
 refine (whole_any _ _).mono ?_
 rintro e w2 ⟨rfl, hb2⟩
 obtain ⟨hk, c0, c1, f0, f1, hlt, hbw⟩ := laid2 (hb1.trans (hb2.mono hb1.size))
 have HK := Lib.hid hk
 clear hk hb1 hb2 a' b'
 simp only [agV, wholeV]
 go_wp2_with fail
 refine bodyPost_ret (results_ct rfl _ _ w.heap.size 35 #[.int .i64 _, .int .i64 _] (0, 0) _ rfl (blk_set2 HK.out _ _) Tryz.underlying35 rfl (by kernel_rfl)) rfl ?_
 exact ⟨rfl, below_set2 hbw (Nat.le_refl _) _ _⟩
def optE (r : Int) (c : Option Int) : Except Int V := match c with | none => .ok (wholeV r) | some x => .error x
def errOf (e : Option Int) : Value := match e with | none => .nilIface | some c => .iface 93 (.int .i64 c)
theorem run_plain (args : Array Value) (w : World) : (callFunc 164 args).run Tryz.prog w = .ok (.enter 164 args) w := by
 simp [callFunc, Tryz.func164]; rfl
theorem run_part (args : Array Value) (w : World) : (callFunc 165 args).run Tryz.prog w = .ok (.enter 165 args) w := by
 simp [callFunc, Tryz.func165]; rfl
theorem part_any (f : FuncId) (hrun : ∀ (args : Array Value) (w : World), (callFunc f args).run Tryz.prog w = .ok (.enter f args) w) (a b r : Int) (c : Option Int) (hf : ∀ w, Calls Tryz.prog f #[.int .i64 a, .int .i64 b] w fun e w' => e = .returned (.tuple #[.int .i64 r, errOf c]) ∧ Below w.heap.size w w')
  (ga gb : Nat) (w : World) (ha : w.cell? ⟨ga, 0, none⟩ = some (.int .i64 a)) (hb : w.cell? ⟨gb, 0, none⟩ = some (.int .i64 b)) :
  Calls Tryz.prog 165 #[.func (.func f) #[] #[], .pointer (some ⟨ga, 0, none⟩), .pointer (some ⟨gb, 0, none⟩)] w fun e w' => e = .returned (retE (optE r c)) ∧ Below w.heap.size w w' := by
 have HF := Lib.hid hf
 clear hf
 have a' := (((Below.refl w.heap.size w).alloc (Nat.le_refl _) (.cells #[.int .i64 0, .int .i64 0] 35)).cell (p := ⟨ga, 0, none⟩) (World.block_lt_of_cell? w _ ha)).trans ha
 have b' := (((Below.refl w.heap.size w).alloc (Nat.le_refl _) (.cells #[.int .i64 0, .int .i64 0] 35)).cell (p := ⟨gb, 0, none⟩) (World.block_lt_of_cell? w _ hb)).trans hb
 cases c with
 | none =>
  go_enter Tryz.func165, Tryz.ntmps165
  go_wp2_with fail
  refine (HF.out _).mono ?_
  rintro e w1 ⟨rfl, hb1⟩
  simp only [errOf]
  go_wp2_with fail
  refine (whole_any _ _).mono ?_
  rintro e w2 ⟨rfl, hb2⟩
  obtain ⟨hk, c0, c1, f0, f1, hlt, hbw⟩ := laid2 (hb1.trans (hb2.mono hb1.size))
  have HK := Lib.hid hk
  clear hk hb1 hb2 a' b'
  simp only [agV, wholeV]
  go_wp2_with fail
  refine bodyPost_ret (results_ct rfl _ _ w.heap.size 35 #[.int .i64 _, .int .i64 _] (0, 0) _ rfl (blk_set2 HK.out _ _) Tryz.underlying35 rfl (by kernel_rfl)) rfl ?_
  exact ⟨rfl, below_set2 hbw (Nat.le_refl _) _ _⟩
 | some x =>
  go_enter Tryz.func165, Tryz.ntmps165
  go_wp2_with fail
  refine (HF.out _).mono ?_
  rintro e w1 ⟨rfl, hb1⟩
  simp only [errOf]
  obtain ⟨hk, c0, c1, f0, f1, hlt, hbw⟩ := laid2 hb1
  have HK := Lib.hid hk
  clear hk hb1 a' b'
  go_wp2_with fail
  refine bodyPost_ret (results_ct rfl _ _ w.heap.size 35 #[.int .i64 _, .int .i64 _] (0, 0) _ rfl (blk_set2 HK.out _ _) Tryz.underlying35 rfl (by kernel_rfl)) rfl ?_
  exact ⟨rfl, below_set2 hbw (Nat.le_refl _) _ _⟩
theorem laid112 {w w2 : World} {x y : Value} {t t' : TypeId} {z : Value} {z' : Value}
  (hb : Below (((w.alloc (.cells #[x] t)).alloc (.cells #[y] t)).alloc (.cells #[z, z'] t')).heap.size (((w.alloc (.cells #[x] t)).alloc (.cells #[y] t)).alloc (.cells #[z, z'] t')) w2) :
  w2.heap[w.heap.size + 1 + 1]? = some (.cells #[z, z'] t' (0, 0)) ∧ w2.cell? ⟨w.heap.size, 0, none⟩ = some x ∧ w2.cell? ⟨w.heap.size + 1, 0, none⟩ = some y ∧ w2.cell? ⟨w.heap.size + 1 + 1, 0, none⟩ = some z ∧ w2.cell? ⟨w.heap.size + 1 + 1, 1, none⟩ = some z' ∧
   w2.frozen? ⟨w.heap.size + 1 + 1, 0, none⟩ = false ∧ w2.frozen? ⟨w.heap.size + 1 + 1, 1, none⟩ = false ∧ w.heap.size + 1 + 1 < w2.heap.size ∧ Below w.heap.size w w2 := by
 have hz := hb.size
 simp at hz
 have e1 : (w.alloc (.cells #[x] t)).heap.size = w.heap.size + 1 := by simp
 have e2 : ((w.alloc (.cells #[x] t)).alloc (.cells #[y] t)).heap.size = w.heap.size + 1 + 1 := by simp
 have h2 := (hb.block (w.heap.size + 1 + 1) (by simp)).trans (e2 ▸ blk_new ((w.alloc (.cells #[x] t)).alloc (.cells #[y] t)) (.cells #[z, z'] t'))
 have h1 := (hb.block (w.heap.size + 1) (by simp)).trans (blk_alloc _ (e1 ▸ blk_new (w.alloc (.cells #[x] t)) (.cells #[y] t)))
 have h0 := (hb.block w.heap.size (by simp; omega)).trans (blk_alloc _ (blk_alloc _ (blk_new w (.cells #[x] t))))
 exact ⟨h2, blk_cell h0 0, blk_cell h1 0, blk_cell h2 0, blk_cell h2 1, blk_free h2 0, blk_free h2 1, by omega, ((((Below.refl _ _).alloc (Nat.le_refl _) _).alloc (by simp) _).alloc (by simp; omega) _).trans (hb.mono (by simp; omega))⟩
theorem numbers_any (k a b : Int) (w : World) : Calls Tryz.prog 145 #[.int .i64 k, .int .i64 a, .int .i64 b] w fun e w' => e = .returned (retE (numE k a b)) ∧ Below w.heap.size w w' := by
 have hmf : ∀ (fn : Fn) (first cap : Array Value) (w : World), (Instr.makeFunc fn first cap).run Tryz.prog w = .ok (.func fn first cap) w := fun _ _ _ _ => rfl
 have r1 := run_plain
 have r2 := run_part
 obtain ⟨_, a0, b0, _, _, _, _, _, _⟩ := laid112 (Below.refl (((w.alloc (.cells #[.int .i64 a] 2)).alloc (.cells #[.int .i64 b] 2)).alloc (.cells #[.int .i64 0, .int .i64 0] 35)).heap.size (((w.alloc (.cells #[.int .i64 a] 2)).alloc (.cells #[.int .i64 b] 2)).alloc (.cells #[.int .i64 0, .int .i64 0] 35)))
 by_cases h3 : k = 3
 ·subst h3
  go_enter Tryz.func145, Tryz.ntmps145
  go_wp2_with fail
  refine (plain_any 166 run_add a b (wrap64 (a + b)) (fun w => (PAll.num_Add.calls a b _ w rfl).mono fun e w' ⟨h, hd⟩ => ⟨h, hd.below⟩) _ _ _ a0 b0).mono ?_
  rintro e w1 ⟨rfl, hb1⟩
  obtain ⟨hk, c0, c1, d0, d1, f0, f1, hlt, hbw⟩ := laid112 hb1
  have HK := Lib.hid hk
  clear hk hb1 a0 b0
  simp only [retE, agV, wholeV]
  go_wp2_with fail
  refine bodyPost_ret (results_ct rfl _ _ (w.heap.size + 1 + 1) 35 #[.int .i64 _, .int .i64 _] (0, 0) _ rfl (blk_set2 HK.out _ _) Tryz.underlying35 rfl (by kernel_rfl)) rfl ?_
  exact ⟨by rw [numE, if_pos rfl]; rfl, below_set2 hbw (by omega) _ _⟩
 by_cases h4 : k = 4
 ·subst h4
  go_enter Tryz.func145, Tryz.ntmps145
  go_wp2_with fail
  refine (plain_any 167 run_sub a b (wrap64 (a - b)) (fun w => (PAll.num_Sub.calls a b _ w rfl).mono fun e w' ⟨h, hd⟩ => ⟨h, hd.below⟩) _ _ _ a0 b0).mono ?_
  rintro e w1 ⟨rfl, hb1⟩
  obtain ⟨hk, c0, c1, d0, d1, f0, f1, hlt, hbw⟩ := laid112 hb1
  have HK := Lib.hid hk
  clear hk hb1 a0 b0
  simp only [retE, agV, wholeV]
  go_wp2_with fail
  refine bodyPost_ret (results_ct rfl _ _ (w.heap.size + 1 + 1) 35 #[.int .i64 _, .int .i64 _] (0, 0) _ rfl (blk_set2 HK.out _ _) Tryz.underlying35 rfl (by kernel_rfl)) rfl ?_
  exact ⟨rfl, below_set2 hbw (by omega) _ _⟩
 by_cases h5 : k = 5
 ·subst h5
  go_enter Tryz.func145, Tryz.ntmps145
  go_wp2_with fail
  refine (plain_any 168 run_mul a b (wrap64 (a * b)) (fun w => (PAll.num_Mul.calls a b _ w rfl).mono fun e w' ⟨h, hd⟩ => ⟨h, hd.below⟩) _ _ _ a0 b0).mono ?_
  rintro e w1 ⟨rfl, hb1⟩
  obtain ⟨hk, c0, c1, d0, d1, f0, f1, hlt, hbw⟩ := laid112 hb1
  have HK := Lib.hid hk
  clear hk hb1 a0 b0
  simp only [retE, agV, wholeV]
  go_wp2_with fail
  refine bodyPost_ret (results_ct rfl _ _ (w.heap.size + 1 + 1) 35 #[.int .i64 _, .int .i64 _] (0, 0) _ rfl (blk_set2 HK.out _ _) Tryz.underlying35 rfl (by kernel_rfl)) rfl ?_
  exact ⟨rfl, below_set2 hbw (by omega) _ _⟩
 by_cases h6 : k = 6
 ·subst h6
  by_cases hz : b = 0
  ·subst hz
   go_enter Tryz.func145, Tryz.ntmps145
   go_wp2_with fail
   refine (part_any 169 run_div a 0 (0) (some 9) (fun w => (PAll.num_Div.calls a 0 0 (some 9) w rfl).mono fun e w' ⟨h, hd⟩ => ⟨h, hd.below⟩) _ _ _ a0 b0).mono ?_
   rintro e w1 ⟨rfl, hb1⟩
   obtain ⟨hk, c0, c1, d0, d1, f0, f1, hlt, hbw⟩ := laid112 hb1
   have HK := Lib.hid hk
   clear hk hb1 a0 b0
   simp only [optE, retE, agV, wholeV]
   go_wp2_with fail
   refine bodyPost_ret (results_ct rfl _ _ (w.heap.size + 1 + 1) 35 #[.int .i64 _, .int .i64 _] (0, 0) _ rfl (blk_set2 HK.out _ _) Tryz.underlying35 rfl (by kernel_rfl)) rfl ?_
   exact ⟨rfl, below_set2 hbw (by omega) _ _⟩
  ·have hN : numE 6 a b = .ok (wholeV (wrap64 (a.tdiv b))) := by simp [numE, hz]
   rw [hN]
   clear hN
   go_enter Tryz.func145, Tryz.ntmps145
   go_wp2_with fail
   refine (part_any 169 run_div a b (wrap64 (a.tdiv b)) (none) (fun w => (PAll.num_Div.calls a b (wrap64 (a.tdiv b)) none w (by unfold PAll.num_Div.f; rw [if_neg hz])).mono fun e w' ⟨h, hd⟩ => ⟨h, hd.below⟩) _ _ _ a0 b0).mono ?_
   rintro e w1 ⟨rfl, hb1⟩
   obtain ⟨hk, c0, c1, d0, d1, f0, f1, hlt, hbw⟩ := laid112 hb1
   have HK := Lib.hid hk
   clear hk hb1 a0 b0
   simp only [optE, retE, agV, wholeV]
   go_wp2_with fail
   refine bodyPost_ret (results_ct rfl _ _ (w.heap.size + 1 + 1) 35 #[.int .i64 _, .int .i64 _] (0, 0) _ rfl (blk_set2 HK.out _ _) Tryz.underlying35 rfl (by kernel_rfl)) rfl ?_
   exact ⟨rfl, below_set2 hbw (by omega) _ _⟩
 by_cases h7 : k = 7
 ·subst h7
  by_cases hz : b = 0
  ·subst hz
   go_enter Tryz.func145, Tryz.ntmps145
   go_wp2_with fail
   refine (part_any 170 run_mod a 0 (0) (some 9) (fun w => (PAll.num_Mod.calls a 0 0 (some 9) w rfl).mono fun e w' ⟨h, hd⟩ => ⟨h, hd.below⟩) _ _ _ a0 b0).mono ?_
   rintro e w1 ⟨rfl, hb1⟩
   obtain ⟨hk, c0, c1, d0, d1, f0, f1, hlt, hbw⟩ := laid112 hb1
   have HK := Lib.hid hk
   clear hk hb1 a0 b0
   simp only [optE, retE, agV, wholeV]
   go_wp2_with fail
   refine bodyPost_ret (results_ct rfl _ _ (w.heap.size + 1 + 1) 35 #[.int .i64 _, .int .i64 _] (0, 0) _ rfl (blk_set2 HK.out _ _) Tryz.underlying35 rfl (by kernel_rfl)) rfl ?_
   exact ⟨rfl, below_set2 hbw (by omega) _ _⟩
  ·have hN : numE 7 a b = .ok (wholeV (a.tmod b)) := by simp [numE, hz]
   rw [hN]
   clear hN
   go_enter Tryz.func145, Tryz.ntmps145
   go_wp2_with fail
   refine (part_any 170 run_mod a b (a.tmod b) (none) (fun w => (PAll.num_Mod.calls a b (a.tmod b) none w (by unfold PAll.num_Mod.f; rw [if_neg hz])).mono fun e w' ⟨h, hd⟩ => ⟨h, hd.below⟩) _ _ _ a0 b0).mono ?_
   rintro e w1 ⟨rfl, hb1⟩
   obtain ⟨hk, c0, c1, d0, d1, f0, f1, hlt, hbw⟩ := laid112 hb1
   have HK := Lib.hid hk
   clear hk hb1 a0 b0
   simp only [optE, retE, agV, wholeV]
   go_wp2_with fail
   refine bodyPost_ret (results_ct rfl _ _ (w.heap.size + 1 + 1) 35 #[.int .i64 _, .int .i64 _] (0, 0) _ rfl (blk_set2 HK.out _ _) Tryz.underlying35 rfl (by kernel_rfl)) rfl ?_
   exact ⟨rfl, below_set2 hbw (by omega) _ _⟩
 by_cases h8 : k = 8
 ·subst h8
  have hN : numE 8 a b = .ok (truthV (decide (a < b))) := rfl
  rw [hN]
  clear hN
  go_enter Tryz.func145, Tryz.ntmps145
  go_wp2_with fail
  refine (truth_any _ _).mono ?_
  rintro e w1 ⟨rfl, hb1⟩
  obtain ⟨hk, c0, c1, d0, d1, f0, f1, hlt, hbw⟩ := laid112 hb1
  have HK := Lib.hid hk
  clear hk hb1 a0 b0
  simp only [agV]
  go_wp2_with fail
  refine bodyPost_ret (results_ct rfl _ _ (w.heap.size + 1 + 1) 35 #[.int .i64 _, .int .i64 _] (0, 0) _ rfl (blk_set2 HK.out _ _) Tryz.underlying35 rfl (by kernel_rfl)) rfl ?_
  exact ⟨rfl, below_set2 hbw (by omega) _ _⟩
 by_cases h9 : k = 9
 ·subst h9
  have hN : numE 9 a b = .ok (truthV (decide (a ≤ b))) := rfl
  rw [hN]
  clear hN
  go_enter Tryz.func145, Tryz.ntmps145
  go_wp2_with fail
  refine (truth_any _ _).mono ?_
  rintro e w1 ⟨rfl, hb1⟩
  obtain ⟨hk, c0, c1, d0, d1, f0, f1, hlt, hbw⟩ := laid112 hb1
  have HK := Lib.hid hk
  clear hk hb1 a0 b0
  simp only [agV]
  go_wp2_with fail
  refine bodyPost_ret (results_ct rfl _ _ (w.heap.size + 1 + 1) 35 #[.int .i64 _, .int .i64 _] (0, 0) _ rfl (blk_set2 HK.out _ _) Tryz.underlying35 rfl (by kernel_rfl)) rfl ?_
  exact ⟨rfl, below_set2 hbw (by omega) _ _⟩
 have hN : numE k a b = .error 8 := by simp [numE, h3, h4, h5, h6, h7, h8, h9]
 rw [hN]
 have n3 : (k == 3) = false := beq_eq_false_iff_ne.mpr h3
 have n4 : (k == 4) = false := beq_eq_false_iff_ne.mpr h4
 have n5 : (k == 5) = false := beq_eq_false_iff_ne.mpr h5
 have n6 : (k == 6) = false := beq_eq_false_iff_ne.mpr h6
 have n7 : (k == 7) = false := beq_eq_false_iff_ne.mpr h7
 have n8 : (k == 8) = false := beq_eq_false_iff_ne.mpr h8
 have n9 : (k == 9) = false := beq_eq_false_iff_ne.mpr h9
 clear hN h3 h4 h5 h6 h7 h8 h9
 obtain ⟨hk, c0, c1, d0, d1, f0, f1, hlt, hbw⟩ := laid112 (Below.refl (((w.alloc (.cells #[.int .i64 a] 2)).alloc (.cells #[.int .i64 b] 2)).alloc (.cells #[.int .i64 0, .int .i64 0] 35)).heap.size (((w.alloc (.cells #[.int .i64 a] 2)).alloc (.cells #[.int .i64 b] 2)).alloc (.cells #[.int .i64 0, .int .i64 0] 35)))
 have HK := Lib.hid hk
 clear hk
 go_enter Tryz.func145, Tryz.ntmps145
 go_wp2_with fail
 refine bodyPost_ret (results_ct rfl _ _ (w.heap.size + 1 + 1) 35 #[.int .i64 _, .int .i64 _] (0, 0) _ rfl HK.out Tryz.underlying35 rfl (by kernel_rfl)) rfl ?_
 exact ⟨rfl, hbw⟩
end Go.Proofs.YtemoonhnncopoaaGreatDoor
end
