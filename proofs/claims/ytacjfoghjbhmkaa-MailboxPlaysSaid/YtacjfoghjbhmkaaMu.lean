/- The numbers under which this dump holds the library's lock. -/
import Derived.Test.YtacjfoghjbhmkaaBase
import Derived.Conc.MuLone
namespace Go.Proofs.Ytacjfoghjbhmkaa
open Go.RowKit
abbrev muLink : Go.Conc.Locks.MuLink := { lock := 41, unlock := 42, ilock := 61, iunlock := 62, lockSlow := 79, unlockSlow := 82, disable := 75, enable := 77, acquire := 78, relMerge := 80, cas32 := 76, add32 := 81, tMutex := 83, tIMutex := 81, tPMutex := 88, tPIMutex := 139, tPI32 := 141, tUP := 121, tNoCopy := 78, tU32 := 79 }
theorem muLib : Go.Conc.Locks.MuLib Try.prog muLink :=
  ⟨Try.func41, Try.func42, Try.func61, Try.func62, Try.func75, Try.func77, Try.func78, Try.func80, Try.func76, Try.func81, Try.underlying81, Try.runUnderlying81, Try.sizeOf81, Try.isAgg81, Try.zeroValue81, Try.underlying83, Try.runUnderlying83, Try.sizeOf83, Try.isAgg83, Try.zeroValue83, Try.underlying88, Try.runUnderlying88, Try.sizeOf88, Try.isAgg88, Try.zeroValue88, Try.underlying139, Try.runUnderlying139, Try.sizeOf139, Try.isAgg139, Try.zeroValue139, Try.underlying141, Try.runUnderlying141, Try.sizeOf141, Try.isAgg141, Try.zeroValue141, Try.underlying121, Try.runUnderlying121, Try.sizeOf121, Try.isAgg121, Try.zeroValue121, Try.underlying78, Try.runUnderlying78, Try.sizeOf78, Try.isAgg78, Try.zeroValue78, Try.underlying21, Try.runUnderlying21, Try.sizeOf21, Try.isAgg21, Try.zeroValue21, (by kernel_rfl)⟩
end Go.Proofs.Ytacjfoghjbhmkaa
