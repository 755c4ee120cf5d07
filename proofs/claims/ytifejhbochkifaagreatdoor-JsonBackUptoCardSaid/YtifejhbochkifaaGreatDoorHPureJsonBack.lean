/- Ours: the plain law of JsonBack. -/
import Derived.Test.YtifejhbochkifaaGreatDoorTLawBack
import Derived.Test.YtifejhbochkifaaGreatDoorHOps
namespace Go.Proofs.YtifejhbochkifaaGreatDoor.X
open Go.RowKit Go.Proofs.YtifejhbochkifaaGreatDoorW.PrintWords Go.Proofs.YtifejhbochkifaaGreatDoor.Spec
set_option linter.unusedVariables false
theorem pure_JsonBack (x0 : S25) (hb : B25 x0 ≤ 1048576) (g0 : G25 x0) : exequaturlaw05_JsonBack.f x0.f0 x0.f1 x0.f2 x0.f3 x0.f4 = some true := by
 unfold exequaturlaw05_JsonBack.f
 exact if_pos hb
end Go.Proofs.YtifejhbochkifaaGreatDoor.X
