-- Lean text made by rows.py (ours). Lean checks it.
import Derived.Test.YtnfnalalpligiaaHRow
namespace Go.Proofs.Ytnfnalalpligiaa.X
open Go.RowKit Go.Proofs.YtnfnalalpligiaaW.PrintWords
set_option linter.unusedVariables false
set_option maxRecDepth 100000
def B22 (l : List Int) : Nat := (l.map fun x => 1).sum + 1
def G22 (l : List Int) : Prop := ∀ x ∈ l, (Lit.int .u8 x).wf = true
theorem op22 : Op 22 (Kd.slice 5 (Kd.int .u8)) B22 G22 := op_slice 0 Try.underlying22 (op_int Try.underlying5) (by kernel_rfl)
end Go.Proofs.Ytnfnalalpligiaa.X
