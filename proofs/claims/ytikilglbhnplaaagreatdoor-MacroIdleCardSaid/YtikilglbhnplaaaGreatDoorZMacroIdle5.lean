/- Texts of this claim, merged (PAllOut). -/
import Derived.Test.YtikilglbhnplaaaGreatDoorZMacroIdle2
section
namespace Go.Proofs.YtikilglbhnplaaaGreatDoor.PAll
open Go.RowKit Go.Proofs.YtikilglbhnplaaaGreatDoorW.PrintWords Go.Proofs.YtikilglbhnplaaaGreatDoorW.PrintLast Go.Proofs.YtikilglbhnplaaaGreatDoorW.PrintMore
structure S185 where
 f0 : Int
 f1 : Int
 f2 : Int
 f3 : Int
def k185 : Kd S185 := Kd.iso (Kd.pair (Kd.int .i64) (Kd.pair (Kd.int .i64) (Kd.pair (Kd.int .i64) (Kd.int .i64)))) (fun x : S185 => (x.f0, x.f1, x.f2, x.f3))
theorem k185_mkM (w : World) (base : Nat) (ok : Nat → Prop) (x : S185) : k185.M w base ok x [.int .i64 x.f0, .int .i64 x.f1, .int .i64 x.f2, .int .i64 x.f3] := ⟨[.int .i64 x.f0], [.int .i64 x.f1, .int .i64 x.f2, .int .i64 x.f3], rfl, rfl, ⟨[.int .i64 x.f1], [.int .i64 x.f2, .int .i64 x.f3], rfl, rfl, ⟨[.int .i64 x.f2], [.int .i64 x.f3], rfl, rfl, rfl⟩⟩⟩
end Go.Proofs.YtikilglbhnplaaaGreatDoor.PAll
end
