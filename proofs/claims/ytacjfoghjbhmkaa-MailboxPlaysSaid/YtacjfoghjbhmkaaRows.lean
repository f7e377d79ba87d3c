/-
  No cell of these rows narrows 'for every input' (looked for: loops, veiled, ifaces, maps, wideKeys, modest, calm, conditions, laid).
  DERIVED. THE GIVEN ROWS OF THIS SEAT. 6 by the template 'for every input the law returns true; each argument reads behind the call as it read before'; 0 by the template 'total and deterministic' (their statements: YtacjfoghjbhmkaaTotals.lean).
  GIVEN WITH THE SEED: the statements are not yours to turn. If you find one false, say at which input.
  Laid BY PROGRAM, IN A SANDBOX (cutbox-rows.mjs): the forced cells as the released guide's own fill.sh prints them over the translation 7f4107d4a104ec3b… (all of the seat's roots in one cut). By AI agents, Wed Nov 11 2026. No macro, syntax, notation, axiom, sorry.
-/
import Derived.Test.YtacjfoghjbhmkaaChecked
import GoSem.Claim
import GoSem.ClaimJoined
import GoSem.ClaimMapViews
import Derived.JoinedTies
import Derived.KernelRfl
namespace Go.Proofs.Ytacjfoghjbhmkaa
/- THE CELL 'sum', in the pinned program and in every row, IS THE sha256 OF THE DUMP (.gsa) THAT YtacjfoghjbhmkaaProg.lean LOADS. Nothing in Lean hashes anything: it is a label: what it is worth is what the hold of that sum in a sandbox is worth. -/
noncomputable def Try.pinned : Pinned := { name := "ytacjfoghjbhmkaa", sum := "7f4107d4a104ec3be4fb42bf16351b13eab38021da7c7f842dfbdadb3376efc3", checked := Try.checked }
namespace Rows
def none {H : Type} : Left H := { results := [], args := [] }

/-- 'spinetlaw16.MailboxTakes': WHATEVER THE INPUT: true; the input reads as it did. -/
def mailboxTakesSpec : ChangeSpec := { name := "mailboxTakes", fn := fun _ => fun
  | [d] => { results := [.lit (.bool true)], args := [d] }
  | _ => none }
def mailboxTakesRow : OpenClaim := { program := "ytacjfoghjbhmkaa", sum := "7f4107d4a104ec3be4fb42bf16351b13eab38021da7c7f842dfbdadb3376efc3", func := "spinet/spinetlaw16.MailboxTakes", spec := "mailboxTakes", inPlace := ["sync.NewCond", "(*internal/sync.Mutex).Lock", "internal/race.Disable", "sync/atomic.CompareAndSwapInt32", "internal/race.Enable", "internal/race.Acquire", "(*internal/sync.Mutex).lockSlow", "internal/sync.runtime_canSpin", "internal/sync.runtime_doSpin", "internal/sync.throw", "internal/sync.runtime_nanotime", "internal/sync.runtime_SemacquireMutex", "sync/atomic.AddInt32", "(*internal/sync.Mutex).Unlock", "internal/race.ReleaseMerge", "(*internal/sync.Mutex).unlockSlow", "internal/sync.fatal", "internal/sync.runtime_Semrelease", "(*sync.Cond).Wait", "(*sync.copyChecker).check", "sync.runtime_notifyListAdd", "internal/race.Read", "sync.runtime_notifyListWait", "(*sync.Cond).Broadcast", "sync.runtime_notifyListNotifyAll"], unfollowed := true, recurses := true, apart := false }
def MailboxTakesSaid : Prop := mailboxTakesRow.holds Try.pinned (OpenSpec.ofChange mailboxTakesSpec)

/-- ITS FALSE NEIGHBOUR: 'it returns false'. Refute it at one input. -/
def mailboxTakesWrong : ChangeSpec := { name := "mailboxTakes", fn := fun _ => fun
  | [d] => { results := [.lit (.bool false)], args := [d] }
  | _ => none }
def MailboxTakesWrongFalsely : Prop := mailboxTakesRow.holds Try.pinned (OpenSpec.ofChange mailboxTakesWrong)

/-- 'spinetlaw16.MailboxPlays': WHATEVER THE INPUT: true; the input reads as it did. -/
def mailboxPlaysSpec : ChangeSpec := { name := "mailboxPlays", fn := fun _ => fun
  | [d1, d2] => { results := [.lit (.bool true)], args := [d1, d2] }
  | _ => none }
def mailboxPlaysRow : OpenClaim := { program := "ytacjfoghjbhmkaa", sum := "7f4107d4a104ec3be4fb42bf16351b13eab38021da7c7f842dfbdadb3376efc3", func := "spinet/spinetlaw16.MailboxPlays", spec := "mailboxPlays", inPlace := ["sync.NewCond", "(*internal/sync.Mutex).Lock", "internal/race.Disable", "sync/atomic.CompareAndSwapInt32", "internal/race.Enable", "internal/race.Acquire", "(*internal/sync.Mutex).lockSlow", "internal/sync.runtime_canSpin", "internal/sync.runtime_doSpin", "internal/sync.throw", "internal/sync.runtime_nanotime", "internal/sync.runtime_SemacquireMutex", "sync/atomic.AddInt32", "(*internal/sync.Mutex).Unlock", "internal/race.ReleaseMerge", "(*internal/sync.Mutex).unlockSlow", "internal/sync.fatal", "internal/sync.runtime_Semrelease", "(*sync.Cond).Wait", "(*sync.copyChecker).check", "sync.runtime_notifyListAdd", "internal/race.Read", "sync.runtime_notifyListWait", "(*sync.Cond).Broadcast", "sync.runtime_notifyListNotifyAll"], unfollowed := true, recurses := true, apart := false }
def MailboxPlaysSaid : Prop := mailboxPlaysRow.holds Try.pinned (OpenSpec.ofChange mailboxPlaysSpec)

/-- ITS FALSE NEIGHBOUR: 'it returns false'. Refute it at one input. -/
def mailboxPlaysWrong : ChangeSpec := { name := "mailboxPlays", fn := fun _ => fun
  | [d1, d2] => { results := [.lit (.bool false)], args := [d1, d2] }
  | _ => none }
def MailboxPlaysWrongFalsely : Prop := mailboxPlaysRow.holds Try.pinned (OpenSpec.ofChange mailboxPlaysWrong)

/-- 'spinetlaw21.PoolPlays': WHATEVER THE INPUT: true; the input reads as it did. -/
def poolPlaysSpec : ChangeSpec := { name := "poolPlays", fn := fun _ => fun
  | [d1, d2, d3, d4] => { results := [.lit (.bool true)], args := [d1, d2, d3, d4] }
  | _ => none }
def poolPlaysRow : OpenClaim := { program := "ytacjfoghjbhmkaa", sum := "7f4107d4a104ec3be4fb42bf16351b13eab38021da7c7f842dfbdadb3376efc3", func := "spinet/spinetlaw21.PoolPlays", spec := "poolPlays", apart := false }
def PoolPlaysSaid : Prop := poolPlaysRow.holds Try.pinned (OpenSpec.ofChange poolPlaysSpec)

/-- ITS FALSE NEIGHBOUR: 'it returns false'. Refute it at one input. -/
def poolPlaysWrong : ChangeSpec := { name := "poolPlays", fn := fun _ => fun
  | [d1, d2, d3, d4] => { results := [.lit (.bool false)], args := [d1, d2, d3, d4] }
  | _ => none }
def PoolPlaysWrongFalsely : Prop := poolPlaysRow.holds Try.pinned (OpenSpec.ofChange poolPlaysWrong)

/-- 'spinetlaw21.PoolOrders': WHATEVER THE INPUT: true; the input reads as it did. -/
def poolOrdersSpec : ChangeSpec := { name := "poolOrders", fn := fun _ => fun
  | [d1, d2, d3] => { results := [.lit (.bool true)], args := [d1, d2, d3] }
  | _ => none }
def poolOrdersRow : OpenClaim := { program := "ytacjfoghjbhmkaa", sum := "7f4107d4a104ec3be4fb42bf16351b13eab38021da7c7f842dfbdadb3376efc3", func := "spinet/spinetlaw21.PoolOrders", spec := "poolOrders", apart := false }
def PoolOrdersSaid : Prop := poolOrdersRow.holds Try.pinned (OpenSpec.ofChange poolOrdersSpec)

/-- ITS FALSE NEIGHBOUR: 'it returns false'. Refute it at one input. -/
def poolOrdersWrong : ChangeSpec := { name := "poolOrders", fn := fun _ => fun
  | [d1, d2, d3] => { results := [.lit (.bool false)], args := [d1, d2, d3] }
  | _ => none }
def PoolOrdersWrongFalsely : Prop := poolOrdersRow.holds Try.pinned (OpenSpec.ofChange poolOrdersWrong)

/-- 'spinetlaw17.WheelOnce': WHATEVER THE INPUT: true; the input reads as it did. -/
def wheelOnceSpec : ChangeSpec := { name := "wheelOnce", fn := fun _ => fun
  | [d1, d2] => { results := [.lit (.bool true)], args := [d1, d2] }
  | _ => none }
def wheelOnceRow : OpenClaim := { program := "ytacjfoghjbhmkaa", sum := "7f4107d4a104ec3be4fb42bf16351b13eab38021da7c7f842dfbdadb3376efc3", func := "spinet/spinetlaw17.WheelOnce", spec := "wheelOnce", unfollowed := true, recurses := true, apart := false }
def WheelOnceSaid : Prop := wheelOnceRow.holds Try.pinned (OpenSpec.ofChange wheelOnceSpec)

/-- ITS FALSE NEIGHBOUR: 'it returns false'. Refute it at one input. -/
def wheelOnceWrong : ChangeSpec := { name := "wheelOnce", fn := fun _ => fun
  | [d1, d2] => { results := [.lit (.bool false)], args := [d1, d2] }
  | _ => none }
def WheelOnceWrongFalsely : Prop := wheelOnceRow.holds Try.pinned (OpenSpec.ofChange wheelOnceWrong)

/-- 'spinetlaw17.WheelPlays': WHATEVER THE INPUT: true; the input reads as it did. -/
def wheelPlaysSpec : ChangeSpec := { name := "wheelPlays", fn := fun _ => fun
  | [d] => { results := [.lit (.bool true)], args := [d] }
  | _ => none }
def wheelPlaysRow : OpenClaim := { program := "ytacjfoghjbhmkaa", sum := "7f4107d4a104ec3be4fb42bf16351b13eab38021da7c7f842dfbdadb3376efc3", func := "spinet/spinetlaw17.WheelPlays", spec := "wheelPlays", unfollowed := true, recurses := true, apart := false }
def WheelPlaysSaid : Prop := wheelPlaysRow.holds Try.pinned (OpenSpec.ofChange wheelPlaysSpec)

/-- ITS FALSE NEIGHBOUR: 'it returns false'. Refute it at one input. -/
def wheelPlaysWrong : ChangeSpec := { name := "wheelPlays", fn := fun _ => fun
  | [d] => { results := [.lit (.bool false)], args := [d] }
  | _ => none }
def WheelPlaysWrongFalsely : Prop := wheelPlaysRow.holds Try.pinned (OpenSpec.ofChange wheelPlaysWrong)

/- THE SECOND FORM. 'bulk': how many values and letters a reading holds, each counted each time it is reached (what is shared counts as often as it is met; a slice's spare places count too). A statement '..UptoSaid' is the law's where the arguments, and the package variables that the reading takes, are together of bulk at most 1048576: NARROWER than '..Said'. Prove '..Said' where nothing that the law and all that it calls make is longer than what came in: it says more and counts as full. Else prove '..UptoSaid'. A law counts once. -/
mutual
def uptoBulk {H : Type} : DataW H → Nat
  | .lit (.string bytes) => bytes.length + 1
  | .lit _ => 1
  | .nil => 1
  | .ptr d => uptoBulk d + 1
  | .slice elems spare => uptoBulkAll elems + uptoBulkAll spare + 1
  | .agg parts => uptoBulkAll parts + 1
  | .iface _ d => uptoBulk d + 1
  | .map entries => uptoBulkEntries entries + 1
  | .held _ => 1
def uptoBulkAll {H : Type} : List (DataW H) → Nat
  | [] => 0
  | d :: r => uptoBulk d + uptoBulkAll r
def uptoBulkEntries {H : Type} : List (Lit × DataW H) → Nat
  | [] => 0
  | x :: r => uptoBulkEntry x + uptoBulkEntries r
def uptoBulkEntry {H : Type} : Lit × DataW H → Nat
  | (.string bytes, d) => bytes.length + uptoBulk d + 1
  | (_, d) => uptoBulk d + 1
 end
def uptoSmall : (H : Type) → List (DataW H) → Bool := fun _ ds => decide (uptoBulkAll ds ≤ 1048576)
def OpenSpec.upto (s : _root_.Go.ChangeSpec) : _root_.Go.OpenSpec := { _root_.Go.OpenSpec.ofChange s with cond := some uptoSmall }

/-- 'spinetlaw16.MailboxTakes', WHERE WHAT IT READS IS OF BULK AT MOST 1048576: true; the input reads as it did. -/
def mailboxTakesUptoRow : OpenClaim := { program := "ytacjfoghjbhmkaa", sum := "7f4107d4a104ec3be4fb42bf16351b13eab38021da7c7f842dfbdadb3376efc3", func := "spinet/spinetlaw16.MailboxTakes", spec := "mailboxTakes", inPlace := ["sync.NewCond", "(*internal/sync.Mutex).Lock", "internal/race.Disable", "sync/atomic.CompareAndSwapInt32", "internal/race.Enable", "internal/race.Acquire", "(*internal/sync.Mutex).lockSlow", "internal/sync.runtime_canSpin", "internal/sync.runtime_doSpin", "internal/sync.throw", "internal/sync.runtime_nanotime", "internal/sync.runtime_SemacquireMutex", "sync/atomic.AddInt32", "(*internal/sync.Mutex).Unlock", "internal/race.ReleaseMerge", "(*internal/sync.Mutex).unlockSlow", "internal/sync.fatal", "internal/sync.runtime_Semrelease", "(*sync.Cond).Wait", "(*sync.copyChecker).check", "sync.runtime_notifyListAdd", "internal/race.Read", "sync.runtime_notifyListWait", "(*sync.Cond).Broadcast", "sync.runtime_notifyListNotifyAll"], unfollowed := true, recurses := true, apart := false, narrowed := true }
def MailboxTakesUptoSaid : Prop := mailboxTakesUptoRow.holds Try.pinned (OpenSpec.upto mailboxTakesSpec)

/-- 'spinetlaw16.MailboxPlays', WHERE WHAT IT READS IS OF BULK AT MOST 1048576: true; the input reads as it did. -/
def mailboxPlaysUptoRow : OpenClaim := { program := "ytacjfoghjbhmkaa", sum := "7f4107d4a104ec3be4fb42bf16351b13eab38021da7c7f842dfbdadb3376efc3", func := "spinet/spinetlaw16.MailboxPlays", spec := "mailboxPlays", inPlace := ["sync.NewCond", "(*internal/sync.Mutex).Lock", "internal/race.Disable", "sync/atomic.CompareAndSwapInt32", "internal/race.Enable", "internal/race.Acquire", "(*internal/sync.Mutex).lockSlow", "internal/sync.runtime_canSpin", "internal/sync.runtime_doSpin", "internal/sync.throw", "internal/sync.runtime_nanotime", "internal/sync.runtime_SemacquireMutex", "sync/atomic.AddInt32", "(*internal/sync.Mutex).Unlock", "internal/race.ReleaseMerge", "(*internal/sync.Mutex).unlockSlow", "internal/sync.fatal", "internal/sync.runtime_Semrelease", "(*sync.Cond).Wait", "(*sync.copyChecker).check", "sync.runtime_notifyListAdd", "internal/race.Read", "sync.runtime_notifyListWait", "(*sync.Cond).Broadcast", "sync.runtime_notifyListNotifyAll"], unfollowed := true, recurses := true, apart := false, narrowed := true }
def MailboxPlaysUptoSaid : Prop := mailboxPlaysUptoRow.holds Try.pinned (OpenSpec.upto mailboxPlaysSpec)

/-- 'spinetlaw21.PoolPlays', WHERE WHAT IT READS IS OF BULK AT MOST 1048576: true; the input reads as it did. -/
def poolPlaysUptoRow : OpenClaim := { program := "ytacjfoghjbhmkaa", sum := "7f4107d4a104ec3be4fb42bf16351b13eab38021da7c7f842dfbdadb3376efc3", func := "spinet/spinetlaw21.PoolPlays", spec := "poolPlays", apart := false, narrowed := true }
def PoolPlaysUptoSaid : Prop := poolPlaysUptoRow.holds Try.pinned (OpenSpec.upto poolPlaysSpec)

/-- 'spinetlaw21.PoolOrders', WHERE WHAT IT READS IS OF BULK AT MOST 1048576: true; the input reads as it did. -/
def poolOrdersUptoRow : OpenClaim := { program := "ytacjfoghjbhmkaa", sum := "7f4107d4a104ec3be4fb42bf16351b13eab38021da7c7f842dfbdadb3376efc3", func := "spinet/spinetlaw21.PoolOrders", spec := "poolOrders", apart := false, narrowed := true }
def PoolOrdersUptoSaid : Prop := poolOrdersUptoRow.holds Try.pinned (OpenSpec.upto poolOrdersSpec)

/-- 'spinetlaw17.WheelOnce', WHERE WHAT IT READS IS OF BULK AT MOST 1048576: true; the input reads as it did. -/
def wheelOnceUptoRow : OpenClaim := { program := "ytacjfoghjbhmkaa", sum := "7f4107d4a104ec3be4fb42bf16351b13eab38021da7c7f842dfbdadb3376efc3", func := "spinet/spinetlaw17.WheelOnce", spec := "wheelOnce", unfollowed := true, recurses := true, apart := false, narrowed := true }
def WheelOnceUptoSaid : Prop := wheelOnceUptoRow.holds Try.pinned (OpenSpec.upto wheelOnceSpec)

/-- 'spinetlaw17.WheelPlays', WHERE WHAT IT READS IS OF BULK AT MOST 1048576: true; the input reads as it did. -/
def wheelPlaysUptoRow : OpenClaim := { program := "ytacjfoghjbhmkaa", sum := "7f4107d4a104ec3be4fb42bf16351b13eab38021da7c7f842dfbdadb3376efc3", func := "spinet/spinetlaw17.WheelPlays", spec := "wheelPlays", unfollowed := true, recurses := true, apart := false, narrowed := true }
def WheelPlaysUptoSaid : Prop := wheelPlaysUptoRow.holds Try.pinned (OpenSpec.upto wheelPlaysSpec)

end Rows
end Go.Proofs.Ytacjfoghjbhmkaa
