-- Lean text made by rows.py (ours). Lean checks it.
import Derived.Test.YtibfhaekomflpaaDoorHRow
namespace Go.Proofs.YtibfhaekomflpaaDoor.X
open Go.RowKit Go.Proofs.YtibfhaekomflpaaDoorW.PrintWords
set_option linter.unusedVariables false
set_option maxRecDepth 100000
def B30 (x : S30) : Nat := ((x.f0).size + 1) + ((x.f1).size + 1) + 1
def G30 (x : S30) : Prop := (True) ∧ (True)
theorem op30 : Op 30 k30 B30 G30 := op_struct Tryd.underlying30 (by kernel_rfl) (opf_cons (op_string Tryd.underlying9) rfl (by kernel_rfl) (opf_one (op_string Tryd.underlying9) rfl (by kernel_rfl))) (fun x : S30 => (x.f0, x.f1)) (fun p => ⟨p.1, p.2⟩) (fun _ => rfl)
def B22 (l : List S30) : Nat := (l.map fun x => B30 (x)).sum + 1
def G22 (l : List S30) : Prop := ∀ x ∈ l, G30 (x)
theorem op22 : Op 22 (Kd.slice 30 k30) B22 G22 := op_slice z30 Tryd.underlying22 op30 (by kernel_rfl)
end Go.Proofs.YtibfhaekomflpaaDoor.X
