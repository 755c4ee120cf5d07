/- TapePlays' plain law. -/
import Derived.Test.YtnfnalalpligiaaTLawPlays
import Derived.Test.YtnfnalalpligiaaHOps
import Derived.DataShut
namespace Go.Proofs.Ytnfnalalpligiaa.X
open Go.RowKit Go.Proofs.YtnfnalalpligiaaW.PrintWords
set_option linter.unusedVariables false
theorem pure_TapePlays (l0 : List (S37)) (hb : (B33 (l0)) ≤ 1048576) (g0 : G33 (l0)) : exequaturlaw10_TapePlays.f l0 = some true := by
  unfold exequaturlaw10_TapePlays.f
  rw [if_pos]
  intro x hx
  have h2 := ((Lit.wf_int_iff .i64 x.f1).1 (g0 x hx).2.1).2
  rw [show IntKind.i64.max = 9223372036854775807 from rfl] at h2
  exact h2
end Go.Proofs.Ytnfnalalpligiaa.X
