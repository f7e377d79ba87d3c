/- What tokens and values are, to the plain texts. -/
import Derived.Test.YtldcplgfkcionaaDoorPAllT
set_option linter.unusedVariables false
namespace Go.Proofs.YtldcplgfkcionaaDoor.PX
/-- A token: its kind (f0), its number (f1), its place (f2). -/
abbrev T := PAll.S40
/-- A value: its kind, its number. -/
abbrev V := Int × Int
end Go.Proofs.YtldcplgfkcionaaDoor.PX
