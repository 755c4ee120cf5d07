-- Lean text made by rows.py (ours). Lean checks it.
import Derived.Test.YtnfnalalpligiaaHRow
namespace Go.Proofs.Ytnfnalalpligiaa.X
open Go.RowKit Go.Proofs.YtnfnalalpligiaaW.PrintWords
set_option linter.unusedVariables false
set_option maxRecDepth 100000
def B22 (l : List Int) : Nat := (l.map fun x => 1).sum + 1
def G22 (l : List Int) : Prop := ∀ x ∈ l, (Lit.int .u8 x).wf = true
theorem op22 : Op 22 (Kd.slice 5 (Kd.int .u8)) B22 G22 := op_slice 0 Try.underlying22 (op_int Try.underlying5) (by kernel_rfl)
structure S37 where
  f0 : Int
  f1 : Int
  f2 : List (Int)
def z37 : S37 := ⟨0, 0, []⟩
def k37 : Kd S37 := Kd.iso (Kd.pair (Kd.int .i64) (Kd.pair (Kd.int .i64) (Kd.slice 5 (Kd.int .u8)))) (fun x : S37 => (x.f0, x.f1, x.f2))
def B37 (x : S37) : Nat := (1) + ((1) + (B22 (x.f2))) + 1
def G37 (x : S37) : Prop := ((Lit.int .i64 x.f0).wf = true) ∧ (((Lit.int .i64 x.f1).wf = true) ∧ (G22 (x.f2)))
theorem op37 : Op 37 k37 B37 G37 := op_struct Try.underlying37 (by kernel_rfl) (opf_cons (op_int Try.underlying3) rfl (by kernel_rfl) (opf_cons (op_int Try.underlying3) rfl (by kernel_rfl) (opf_one op22 rfl (by kernel_rfl)))) (fun x : S37 => (x.f0, x.f1, x.f2)) (fun p => ⟨p.1, p.2.1, p.2.2⟩) (fun _ => rfl)
def B33 (l : List S37) : Nat := (l.map fun x => B37 (x)).sum + 1
def G33 (l : List S37) : Prop := ∀ x ∈ l, G37 (x)
theorem op33 : Op 33 (Kd.slice 37 k37) B33 G33 := op_slice z37 Try.underlying33 op37 (by kernel_rfl)
end Go.Proofs.Ytnfnalalpligiaa.X
