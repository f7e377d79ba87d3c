/- Tokens with numbers as they may be. -/
import Derived.Test.YtldcplgfkcionaaDoorPX
set_option linter.unusedVariables false
set_option linter.unusedSimpArgs false
namespace Go.Proofs.YtldcplgfkcionaaDoor
open PX
/-- Numbers as int64 has them. -/
def Wide (l : List T) : Prop := ∀ t ∈ l, -9223372036854775808 ≤ t.f1 ∧ t.f1 ≤ 9223372036854775807
end Go.Proofs.YtldcplgfkcionaaDoor
