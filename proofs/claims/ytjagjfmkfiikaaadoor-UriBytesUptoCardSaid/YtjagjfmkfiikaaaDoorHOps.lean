-- Lean text made by rows.py (ours). Lean checks it.
import Derived.Test.YtjagjfmkfiikaaaDoorHRow
namespace Go.Proofs.YtjagjfmkfiikaaaDoor.X
open Go.RowKit Go.Proofs.YtjagjfmkfiikaaaDoorW.PrintWords
set_option linter.unusedVariables false
set_option maxRecDepth 100000
def B25 (x : S25) : Nat := ((x.f0).size + 1) + ((x.f1).size + 1) + 1
def G25 (x : S25) : Prop := (True) ∧ (True)
theorem op25 : Op 25 k25 B25 G25 := op_struct Tryd.underlying25 (by kernel_rfl) (opf_cons (op_string Tryd.underlying9) rfl (by kernel_rfl) (opf_one (op_string Tryd.underlying9) rfl (by kernel_rfl))) (fun x : S25 => (x.f0, x.f1)) (fun p => ⟨p.1, p.2⟩) (fun _ => rfl)
def B22 (l : List S25) : Nat := (l.map fun x => B25 (x)).sum + 1
def G22 (l : List S25) : Prop := ∀ x ∈ l, G25 (x)
theorem op22 : Op 22 (Kd.slice 25 k25) B22 G22 := op_slice z25 Tryd.underlying22 op25 (by kernel_rfl)
structure S31 where
  f0 : ByteArray
  f1 : ByteArray
  f2 : ByteArray
  f3 : ByteArray
def z31 : S31 := ⟨(⟨#[]⟩ : ByteArray), (⟨#[]⟩ : ByteArray), (⟨#[]⟩ : ByteArray), (⟨#[]⟩ : ByteArray)⟩
def k31 : Kd S31 := Kd.iso (Kd.pair Kd.string (Kd.pair Kd.string (Kd.pair Kd.string Kd.string))) (fun x : S31 => (x.f0, x.f1, x.f2, x.f3))
theorem k31_open {w : World} {x : S31} {cs : List Value} (h : k31.K w x cs) : cs = [.string x.f0, .string x.f1, .string x.f2, .string x.f3] := by
  obtain ⟨_, _, rfl, h0, ⟨_, _, rfl, h1, ⟨_, _, rfl, h2, h3⟩⟩⟩ := h
  cases h0
  cases h1
  cases h2
  cases h3
  rfl
def B31 (x : S31) : Nat := ((x.f0).size + 1) + (((x.f1).size + 1) + (((x.f2).size + 1) + ((x.f3).size + 1))) + 1
def G31 (x : S31) : Prop := (True) ∧ ((True) ∧ ((True) ∧ (True)))
theorem op31 : Op 31 k31 B31 G31 := op_struct Tryd.underlying31 (by kernel_rfl) (opf_cons (op_string Tryd.underlying9) rfl (by kernel_rfl) (opf_cons (op_string Tryd.underlying9) rfl (by kernel_rfl) (opf_cons (op_string Tryd.underlying9) rfl (by kernel_rfl) (opf_one (op_string Tryd.underlying9) rfl (by kernel_rfl))))) (fun x : S31 => (x.f0, x.f1, x.f2, x.f3)) (fun p => ⟨p.1, p.2.1, p.2.2.1, p.2.2.2⟩) (fun _ => rfl)
end Go.Proofs.YtjagjfmkfiikaaaDoor.X
