-- Lean text made by rows.py (ours). Lean checks it.
import Derived.Test.YtifejhbochkifaaGreatDoorHRow
namespace Go.Proofs.YtifejhbochkifaaGreatDoor.X
open Go.RowKit Go.Proofs.YtifejhbochkifaaGreatDoorW.PrintWords
set_option linter.unusedVariables false
set_option maxRecDepth 100000
end Go.Proofs.YtifejhbochkifaaGreatDoor.X
