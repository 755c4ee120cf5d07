/- Ours: the plain law of JsonReads. -/
import Derived.Test.YtifejhbochkifaaGreatDoorTLawReads
namespace Go.Proofs.YtifejhbochkifaaGreatDoor.X
open Go.RowKit Go.Proofs.YtifejhbochkifaaGreatDoorW.PrintWords Go.Proofs.YtifejhbochkifaaGreatDoor.Spec
set_option linter.unusedVariables false
theorem pure_JsonReads (a0 : ByteArray) (hb : ((a0).size + 1) ≤ 1048576) : exequaturlaw05_JsonReads.f a0 = some true := rfl
end Go.Proofs.YtifejhbochkifaaGreatDoor.X
