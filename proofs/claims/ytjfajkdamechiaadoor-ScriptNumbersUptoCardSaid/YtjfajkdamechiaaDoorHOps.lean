-- Lean text made by rows.py (ours). Lean checks it.
import Derived.Test.YtjfajkdamechiaaDoorHRow
namespace Go.Proofs.YtjfajkdamechiaaDoor.X
open Go.RowKit Go.Proofs.YtjfajkdamechiaaDoorW.PrintWords
set_option linter.unusedVariables false
set_option maxRecDepth 100000
def B34 (x : S34) : Nat := ((x.f0).size + 1) + (((x.f1).size + 1) + (((x.f2).size + 1) + (((x.f3).size + 1) + (((x.f4).size + 1) + ((x.f5).size + 1))))) + 1
def G34 (x : S34) : Prop := (True) ∧ ((True) ∧ ((True) ∧ ((True) ∧ ((True) ∧ (True)))))
theorem op34 : Op 34 k34 B34 G34 := op_struct Tryd.underlying34 (by kernel_rfl) (opf_cons (op_string Tryd.underlying9) rfl (by kernel_rfl) (opf_cons (op_string Tryd.underlying9) rfl (by kernel_rfl) (opf_cons (op_string Tryd.underlying9) rfl (by kernel_rfl) (opf_cons (op_string Tryd.underlying9) rfl (by kernel_rfl) (opf_cons (op_string Tryd.underlying9) rfl (by kernel_rfl) (opf_one (op_string Tryd.underlying9) rfl (by kernel_rfl))))))) (fun x : S34 => (x.f0, x.f1, x.f2, x.f3, x.f4, x.f5)) (fun p => ⟨p.1, p.2.1, p.2.2.1, p.2.2.2.1, p.2.2.2.2.1, p.2.2.2.2.2⟩) (fun _ => rfl)
def B31 (l : List ByteArray) : Nat := (l.map fun x => (x).size + 1).sum + 1
def G31 (l : List ByteArray) : Prop := ∀ x ∈ l, True
theorem op31 : Op 31 (Kd.slice 9 Kd.string) B31 G31 := op_slice (⟨#[]⟩ : ByteArray) Tryd.underlying31 (op_string Tryd.underlying9) (by kernel_rfl)
def B36 (x : S36) : Nat := (1) + ((1) + ((B34 (x.f2)) + (((x.f3).size + 1) + (((x.f4).size + 1) + (((x.f5).size + 1) + (((x.f6).size + 1) + (B31 (x.f7)))))))) + 1
def G36 (x : S36) : Prop := ((Lit.int .i64 x.f0).wf = true) ∧ (((Lit.int .i64 x.f1).wf = true) ∧ ((G34 (x.f2)) ∧ ((True) ∧ ((True) ∧ ((True) ∧ ((True) ∧ (G31 (x.f7))))))))
theorem op36 : Op 36 k36 B36 G36 := op_struct Tryd.underlying36 (by kernel_rfl) (opf_cons (op_int Tryd.underlying3) rfl (by kernel_rfl) (opf_cons (op_int Tryd.underlying3) rfl (by kernel_rfl) (opf_cons op34 rfl (by kernel_rfl) (opf_cons (op_string Tryd.underlying9) rfl (by kernel_rfl) (opf_cons (op_string Tryd.underlying9) rfl (by kernel_rfl) (opf_cons (op_string Tryd.underlying9) rfl (by kernel_rfl) (opf_cons (op_string Tryd.underlying9) rfl (by kernel_rfl) (opf_one op31 rfl (by kernel_rfl))))))))) (fun x : S36 => (x.f0, x.f1, x.f2, x.f3, x.f4, x.f5, x.f6, x.f7)) (fun p => ⟨p.1, p.2.1, p.2.2.1, p.2.2.2.1, p.2.2.2.2.1, p.2.2.2.2.2.1, p.2.2.2.2.2.2.1, p.2.2.2.2.2.2.2⟩) (fun _ => rfl)
def B22 (l : List S36) : Nat := (l.map fun x => B36 (x)).sum + 1
def G22 (l : List S36) : Prop := ∀ x ∈ l, G36 (x)
theorem op22 : Op 22 (Kd.slice 36 k36) B22 G22 := op_slice z36 Tryd.underlying22 op36 (by kernel_rfl)
end Go.Proofs.YtjfajkdamechiaaDoor.X
