-- Lean text made by rows.py (ours). Lean checks it.
import Derived.Test.YtkcgalpagpgfhaaDoorHRow
namespace Go.Proofs.YtkcgalpagpgfhaaDoor.X
open Go.RowKit Go.Proofs.YtkcgalpagpgfhaaDoorW.PrintWords
set_option linter.unusedVariables false
set_option maxRecDepth 100000
def B23 (l : List ByteArray) : Nat := (l.map fun x => (x).size + 1).sum + 1
def G23 (l : List ByteArray) : Prop := ∀ x ∈ l, True
theorem op23 : Op 23 (Kd.slice 9 Kd.string) B23 G23 := op_slice (⟨#[]⟩ : ByteArray) Tryd.underlying23 (op_string Tryd.underlying9) (by kernel_rfl)
def B25 (x : S25) : Nat := ((x.f0).size + 1) + (((x.f1).size + 1) + (B23 (x.f2))) + 1
def G25 (x : S25) : Prop := (True) ∧ ((True) ∧ (G23 (x.f2)))
theorem op25 : Op 25 k25 B25 G25 := op_struct Tryd.underlying25 (by kernel_rfl) (opf_cons (op_string Tryd.underlying9) rfl (by kernel_rfl) (opf_cons (op_string Tryd.underlying9) rfl (by kernel_rfl) (opf_one op23 rfl (by kernel_rfl)))) (fun x : S25 => (x.f0, x.f1, x.f2)) (fun p => ⟨p.1, p.2.1, p.2.2⟩) (fun _ => rfl)
def B28 (x : S28) : Nat := ((x.f0).size + 1) + ((x.f1).size + 1) + 1
def G28 (x : S28) : Prop := (True) ∧ (True)
theorem op28 : Op 28 k28 B28 G28 := op_struct Tryd.underlying28 (by kernel_rfl) (opf_cons (op_string Tryd.underlying9) rfl (by kernel_rfl) (opf_one (op_string Tryd.underlying9) rfl (by kernel_rfl))) (fun x : S28 => (x.f0, x.f1)) (fun p => ⟨p.1, p.2⟩) (fun _ => rfl)
def B26 (l : List S25) : Nat := (l.map fun x => B25 (x)).sum + 1
def G26 (l : List S25) : Prop := ∀ x ∈ l, G25 (x)
theorem op26 : Op 26 (Kd.slice 25 k25) B26 G26 := op_slice z25 Tryd.underlying26 op25 (by kernel_rfl)
def B40 (x : S40) : Nat := ((x.f0).size + 1) + (((x.f1).size + 1) + (((x.f2).size + 1) + (((x.f3).size + 1) + (((x.f4).size + 1) + ((1) + ((x.f6).size + 1)))))) + 1
def G40 (x : S40) : Prop := (True) ∧ ((True) ∧ ((True) ∧ ((True) ∧ ((True) ∧ ((True) ∧ (True))))))
theorem op40 : Op 40 k40 B40 G40 := op_struct Tryd.underlying40 (by kernel_rfl) (opf_cons (op_string Tryd.underlying9) rfl (by kernel_rfl) (opf_cons (op_string Tryd.underlying9) rfl (by kernel_rfl) (opf_cons (op_string Tryd.underlying9) rfl (by kernel_rfl) (opf_cons (op_string Tryd.underlying9) rfl (by kernel_rfl) (opf_cons (op_string Tryd.underlying9) rfl (by kernel_rfl) (opf_cons (op_bool Tryd.underlying4) rfl (by kernel_rfl) (opf_one (op_string Tryd.underlying9) rfl (by kernel_rfl)))))))) (fun x : S40 => (x.f0, x.f1, x.f2, x.f3, x.f4, x.f5, x.f6)) (fun p => ⟨p.1, p.2.1, p.2.2.1, p.2.2.2.1, p.2.2.2.2.1, p.2.2.2.2.2.1, p.2.2.2.2.2.2⟩) (fun _ => rfl)
def B29 (l : List S40) : Nat := (l.map fun x => B40 (x)).sum + 1
def G29 (l : List S40) : Prop := ∀ x ∈ l, G40 (x)
theorem op29 : Op 29 (Kd.slice 40 k40) B29 G29 := op_slice z40 Tryd.underlying29 op40 (by kernel_rfl)
def B31 (x : S31) : Nat := ((x.f0).size + 1) + ((B28 (x.f1)) + ((B26 (x.f2)) + (B29 (x.f3)))) + 1
def G31 (x : S31) : Prop := (True) ∧ ((G28 (x.f1)) ∧ ((G26 (x.f2)) ∧ (G29 (x.f3))))
theorem op31 : Op 31 k31 B31 G31 := op_struct Tryd.underlying31 (by kernel_rfl) (opf_cons (op_string Tryd.underlying9) rfl (by kernel_rfl) (opf_cons op28 rfl (by kernel_rfl) (opf_cons op26 rfl (by kernel_rfl) (opf_one op29 rfl (by kernel_rfl))))) (fun x : S31 => (x.f0, x.f1, x.f2, x.f3)) (fun p => ⟨p.1, p.2.1, p.2.2.1, p.2.2.2⟩) (fun _ => rfl)
end Go.Proofs.YtkcgalpagpgfhaaDoor.X
