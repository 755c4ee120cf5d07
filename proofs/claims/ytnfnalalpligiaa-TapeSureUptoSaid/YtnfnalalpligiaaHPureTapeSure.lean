/- TapeSure's plain law. -/
import Derived.Test.YtnfnalalpligiaaTLawSure
import Derived.Test.YtnfnalalpligiaaHOps
import Derived.DataShut
namespace Go.Proofs.Ytnfnalalpligiaa.X
open Go.RowKit Go.Proofs.YtnfnalalpligiaaW.PrintWords
set_option linter.unusedVariables false
theorem pure_TapeSure (l0 : List (Int)) (l1 : List (Int)) (a2 : Int) (a3 : Int) (hb : (B22 (l0)) + (B22 (l1)) + (1) + (1) ≤ 1048576) (g0 : G22 (l0)) (g1 : G22 (l1)) (g2 : (Lit.int .i64 a2).wf = true) (g3 : (Lit.int .u8 a3).wf = true) : exequaturlaw10_TapeSure.f l0 l1 a2 a3 = some true := by
  unfold exequaturlaw10_TapeSure.f
  rw [if_pos]
  have h2 := ((Lit.wf_int_iff .i64 a2).1 g2).2
  have h3 := (Lit.wf_int_iff .u8 a3).1 g3
  rw [show IntKind.i64.max = 9223372036854775807 from rfl] at h2
  rw [show IntKind.u8.max = 255 from rfl, show IntKind.u8.min = 0 from rfl] at h3
  omega
end Go.Proofs.Ytnfnalalpligiaa.X
