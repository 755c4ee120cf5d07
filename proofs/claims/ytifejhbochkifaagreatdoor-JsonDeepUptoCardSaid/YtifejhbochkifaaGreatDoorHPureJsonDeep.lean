/- Ours: the plain law of JsonDeep. -/
import Derived.Test.YtifejhbochkifaaGreatDoorTLawDeep
namespace Go.Proofs.YtifejhbochkifaaGreatDoor.X
open Go.RowKit Go.Proofs.YtifejhbochkifaaGreatDoorW.PrintWords Go.Proofs.YtifejhbochkifaaGreatDoor.Spec
set_option linter.unusedVariables false
theorem pure_JsonDeep (a0 : Int) (a1 : Int) (hb : (1) + (1) ≤ 1048576) (g0 : (Lit.int .u8 a0).wf = true) (g1 : (Lit.int .u8 a1).wf = true) : exequaturlaw05_JsonDeep.f a0 a1 = some true := by
 have h0 : 0 ≤ a0 ∧ a0 ≤ 255 := by simpa [Lit.wf, IntKind.min, IntKind.max, IntKind.bits, IntKind.signed] using g0
 have h1 : 0 ≤ a1 ∧ a1 ≤ 255 := by simpa [Lit.wf, IntKind.min, IntKind.max, IntKind.bits, IntKind.signed] using g1
 unfold exequaturlaw05_JsonDeep.f
 rw [if_pos ⟨h0.1, h0.2, h1.1, h1.2⟩]
end Go.Proofs.YtifejhbochkifaaGreatDoor.X
