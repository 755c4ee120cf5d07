-- Lean text made by rows.py (ours). Lean checks it.
import Derived.Test.YtifejhbochkifaaGreatDoorHRowN
namespace Go.Proofs.YtifejhbochkifaaGreatDoor.X
open Go.RowKit Go.Proofs.YtifejhbochkifaaGreatDoorW.PrintWords
set_option linter.unusedVariables false
set_option maxRecDepth 100000
def B25 (x : S25) : Nat := bulkN 9 x
def G25 (x : S25) : Prop := True
theorem op25 : Op 25 k25 B25 G25 := op_value
def B22 (l : List S25) : Nat := (l.map fun x => B25 (x)).sum + 1
def G22 (l : List S25) : Prop := ∀ x ∈ l, G25 (x)
theorem op22 : Op 22 (Kd.slice 25 k25) B22 G22 := op_slice z25 Tryz.underlying22 op25 (by kernel_rfl)
def B23 (l : List ByteArray) : Nat := (l.map fun x => (x).size + 1).sum + 1
def G23 (l : List ByteArray) : Prop := ∀ x ∈ l, True
theorem op23 : Op 23 (Kd.slice 9 Kd.string) B23 G23 := op_slice (⟨#[]⟩ : ByteArray) Tryz.underlying23 (op_string Tryz.underlying9) (by kernel_rfl)
end Go.Proofs.YtifejhbochkifaaGreatDoor.X
