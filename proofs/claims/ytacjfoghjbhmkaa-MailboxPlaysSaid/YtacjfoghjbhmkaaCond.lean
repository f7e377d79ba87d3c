/- sync.Cond where nobody waits: Broadcast. -/
import Derived.Test.YtacjfoghjbhmkaaMu
namespace Go.Proofs.Ytacjfoghjbhmkaa
open Go.RowKit
theorem lit0 (v : Value) (h2 : 0 < 1) (h : (#[v]).size = 1) : (#[v]).getLit 0 h h2 = v := rfl
theorem check_new (w : World) (c : Addr) (hc : w.cell? c = some (.int .u64 0)) (hz : w.frozen? c = false) :
    (callFunc 63 #[.pointer (some c)]).run Try.prog w = .ok (.value (.tuple #[])) (w.setCell c (.pointer (some c))) := by
  rw [run_callFunc_extern Try.func63 (by kernel_rfl) (by kernel_rfl) (by kernel_rfl) (by kernel_rfl)]
  change (Sem.run Try.prog (Extern.SyncCond.check #[.pointer (some c)]) w).andThen _ = _
  delta Extern.SyncCond.check Extern.SyncCond.check.match_3
  simp [lit0, Extern.SyncCond.isSelf, asAddr, hc, hz, run_store Try.prog w c (.pointer (some c)) .atomic rfl, Result.andThen, Extern.SyncCond.none_]
theorem check_old (w : World) (c : Addr) (hc : w.cell? c = some (.pointer (some c))) :
    (callFunc 63 #[.pointer (some c)]).run Try.prog w = .ok (.value (.tuple #[])) w := by
  rw [run_callFunc_extern Try.func63 (by kernel_rfl) (by kernel_rfl) (by kernel_rfl) (by kernel_rfl)]
  change (Sem.run Try.prog (Extern.SyncCond.check #[.pointer (some c)]) w).andThen _ = _
  delta Extern.SyncCond.check Extern.SyncCond.check.match_3
  simp [lit0, Extern.SyncCond.isSelf, asAddr, hc, Result.andThen, Extern.SyncCond.none_]
theorem notify_none (w : World) (b o : Nat) (h0 : w.cell? ⟨b, o, none⟩ = some (.int .u32 0)) (h1 : w.cell? ⟨b, o + 1, none⟩ = some (.int .u32 0)) :
    (callFunc 64 #[.pointer (some ⟨b, o, none⟩)]).run Try.prog w = .ok (.value (.tuple #[])) w := by
  rw [run_callFunc_extern Try.func64 (by kernel_rfl) (by kernel_rfl) (by kernel_rfl) (by kernel_rfl)]
  change (Sem.run Try.prog (Extern.SyncCond.notifyAll #[.pointer (some ⟨b, o, none⟩)]) w).andThen _ = _
  have e : (IntKind.u32.wrap 0).toNat = 0 := rfl
  simp [Extern.SyncCond.notifyAll, Extern.SyncCond.list, Extern.SyncCond.counter, Addr.add, h0, h1, Result.andThen, Extern.SyncCond.none_, e]
/-- A Cond at block c where nobody waits (its lock is in cell 0). -/
def IsCond (w : World) (c : Nat) (l : Value) : Prop := ∃ k, (k = .int .u64 0 ∨ k = .pointer (some ⟨c, 6, none⟩)) ∧
  w.heap[c]? = some (.cells #[l, .int .u32 0, .int .u32 0, .int .u64 0, .pointer none, .pointer none, k] 126 (0, 0))
theorem broadcast (w : World) (c : Nat) (l : Value) (h : IsCond w c l) :
    Calls Try.prog 43 #[.pointer (some ⟨c, 0, none⟩)] w fun e w' => e = .returned (.tuple #[]) ∧ IsCond w' c l ∧ Chg (· = c) w w' := by
  obtain ⟨k, hk, h⟩ := h
  have H := Lib.hid h
  have hz := blk_free h
  have h1 := blk_cell h 1
  have h2 := blk_cell h 2
  have h6 := blk_cell h 6
  simp at h1 h2 h6
  clear h
  rcases hk with rfl | rfl
  · have hch := check_new w ⟨c, 6, none⟩ h6 (hz 6)
    have hn := notify_none (w.setCell ⟨c, 6, none⟩ (.pointer (some ⟨c, 6, none⟩))) c 1 (by simp [go_sem, h1]) (by simp [go_sem, h2])
    go_enter Try.func43, Try.ntmps43
    go_wp2
    go_end0
    refine ⟨rfl, ⟨_, Or.inr rfl, ?_⟩, ?_⟩
    · exact blk_set H 6 _
    · exact Chg.setCell (Chg.refl (· = c) w) (p := ⟨c, 6, none⟩) (fun _ => rfl) _
  · have hch := check_old w ⟨c, 6, none⟩ h6
    have hn := notify_none w c 1 h1 h2
    go_enter Try.func43, Try.ntmps43
    go_wp2
    go_end0
    exact ⟨rfl, ⟨_, Or.inr rfl, H⟩, Chg.refl _ _⟩
end Go.Proofs.Ytacjfoghjbhmkaa
