/- TapeBurns' plain law. -/
import Derived.Test.YtnfnalalpligiaaTLawBurns
import Derived.Test.YtnfnalalpligiaaHOps
namespace Go.Proofs.Ytnfnalalpligiaa.X
open Go.RowKit Go.Proofs.YtnfnalalpligiaaW.PrintWords
set_option linter.unusedVariables false
theorem pure_TapeBurns (l0 : List (Int)) (a1 : Int) (hb : (B22 (l0)) + (1) ≤ 1048576) (g0 : G22 (l0)) (g1 : (Lit.int .u8 a1).wf = true) : exequaturlaw10_TapeBurns.f l0 a1 = some true := rfl
end Go.Proofs.Ytnfnalalpligiaa.X
