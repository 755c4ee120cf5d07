-- Lean text made by rows.py (ours). Lean checks it.
import Derived.Test.YtkjheoilidpckaaDoorHRow
namespace Go.Proofs.YtkjheoilidpckaaDoor.X
open Go.RowKit Go.Proofs.YtkjheoilidpckaaDoorW.PrintWords
set_option linter.unusedVariables false
set_option maxRecDepth 100000
def B22 (l : List ByteArray) : Nat := (l.map fun x => (x).size + 1).sum + 1
def G22 (l : List ByteArray) : Prop := ∀ x ∈ l, True
theorem op22 : Op 22 (Kd.slice 9 Kd.string) B22 G22 := op_slice (⟨#[]⟩ : ByteArray) Tryd.underlying22 (op_string Tryd.underlying9) (by kernel_rfl)
end Go.Proofs.YtkjheoilidpckaaDoor.X
