/- TapeNone's plain law. -/
import Derived.Test.YtnfnalalpligiaaTLawNone
import Derived.Test.YtnfnalalpligiaaHOps
namespace Go.Proofs.Ytnfnalalpligiaa.X
open Go.RowKit Go.Proofs.YtnfnalalpligiaaW.PrintWords
set_option linter.unusedVariables false
theorem pure_TapeNone (l0 : List (Int)) (a1 : Int) (hb : (B22 (l0)) + (1) ≤ 1048576) (g0 : G22 (l0)) (g1 : (Lit.int .i64 a1).wf = true) : exequaturlaw10_TapeNone.f l0 a1 = some true := rfl
end Go.Proofs.Ytnfnalalpligiaa.X
