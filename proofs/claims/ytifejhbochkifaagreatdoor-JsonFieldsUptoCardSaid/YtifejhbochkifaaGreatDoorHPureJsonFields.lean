/- Ours: the plain law of JsonFields. -/
import Derived.Test.YtifejhbochkifaaGreatDoorTLawFields
import Derived.Test.YtifejhbochkifaaGreatDoorHOps
namespace Go.Proofs.YtifejhbochkifaaGreatDoor.X
open Go.RowKit Go.Proofs.YtifejhbochkifaaGreatDoorW.PrintWords Go.Proofs.YtifejhbochkifaaGreatDoor.Spec
set_option linter.unusedVariables false
theorem pure_JsonFields (x0 : S25) (x1 : S25) (a2 : ByteArray) (hb : (B25 (x0)) + (B25 (x1)) + ((a2).size + 1) ≤ 1048576) (g0 : G25 x0) (g1 : G25 x1) : exequaturlaw05_JsonFields.f x0.f0 x0.f1 x0.f2 x0.f3 x0.f4 x1.f0 x1.f1 x1.f2 x1.f3 x1.f4 a2 = some true := rfl
end Go.Proofs.YtifejhbochkifaaGreatDoor.X
