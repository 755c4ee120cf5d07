-- Lean text made by rows.py (ours). Lean checks it.
import Derived.Test.YtkjheoilidpckaaDoorHRow
namespace Go.Proofs.YtkjheoilidpckaaDoor.X
open Go.RowKit Go.Proofs.YtkjheoilidpckaaDoorW.PrintWords
set_option linter.unusedVariables false
set_option maxRecDepth 100000
def B22 (l : List ByteArray) : Nat := (l.map fun x => (x).size + 1).sum + 1
def G22 (l : List ByteArray) : Prop := ∀ x ∈ l, True
theorem op22 : Op 22 (Kd.slice 9 Kd.string) B22 G22 := op_slice (⟨#[]⟩ : ByteArray) Tryd.underlying22 (op_string Tryd.underlying9) (by kernel_rfl)
structure S35 where
  f0 : ByteArray
  f1 : ByteArray
  f2 : ByteArray
  f3 : ByteArray
  f4 : ByteArray
  f5 : ByteArray
  f6 : ByteArray
  f7 : ByteArray
  f8 : ByteArray
  f9 : ByteArray
  f10 : ByteArray
  f11 : Int
  f12 : ByteArray
def z35 : S35 := ⟨(⟨#[]⟩ : ByteArray), (⟨#[]⟩ : ByteArray), (⟨#[]⟩ : ByteArray), (⟨#[]⟩ : ByteArray), (⟨#[]⟩ : ByteArray), (⟨#[]⟩ : ByteArray), (⟨#[]⟩ : ByteArray), (⟨#[]⟩ : ByteArray), (⟨#[]⟩ : ByteArray), (⟨#[]⟩ : ByteArray), (⟨#[]⟩ : ByteArray), 0, (⟨#[]⟩ : ByteArray)⟩
def k35 : Kd S35 := Kd.iso (Kd.pair Kd.string (Kd.pair Kd.string (Kd.pair Kd.string (Kd.pair Kd.string (Kd.pair Kd.string (Kd.pair Kd.string (Kd.pair Kd.string (Kd.pair Kd.string (Kd.pair Kd.string (Kd.pair Kd.string (Kd.pair Kd.string (Kd.pair (Kd.int .i64) Kd.string)))))))))))) (fun x : S35 => (x.f0, x.f1, x.f2, x.f3, x.f4, x.f5, x.f6, x.f7, x.f8, x.f9, x.f10, x.f11, x.f12))
theorem k35_open {w : World} {x : S35} {cs : List Value} (h : k35.K w x cs) : cs = [.string x.f0, .string x.f1, .string x.f2, .string x.f3, .string x.f4, .string x.f5, .string x.f6, .string x.f7, .string x.f8, .string x.f9, .string x.f10, .int .i64 x.f11, .string x.f12] := by
  obtain ⟨_, _, rfl, h0, ⟨_, _, rfl, h1, ⟨_, _, rfl, h2, ⟨_, _, rfl, h3, ⟨_, _, rfl, h4, ⟨_, _, rfl, h5, ⟨_, _, rfl, h6, ⟨_, _, rfl, h7, ⟨_, _, rfl, h8, ⟨_, _, rfl, h9, ⟨_, _, rfl, h10, ⟨_, _, rfl, h11, h12⟩⟩⟩⟩⟩⟩⟩⟩⟩⟩⟩⟩ := h
  cases h0
  cases h1
  cases h2
  cases h3
  cases h4
  cases h5
  cases h6
  cases h7
  cases h8
  cases h9
  cases h10
  cases h11
  cases h12
  rfl
def B35 (x : S35) : Nat := ((x.f0).size + 1) + (((x.f1).size + 1) + (((x.f2).size + 1) + (((x.f3).size + 1) + (((x.f4).size + 1) + (((x.f5).size + 1) + (((x.f6).size + 1) + (((x.f7).size + 1) + (((x.f8).size + 1) + (((x.f9).size + 1) + (((x.f10).size + 1) + ((1) + ((x.f12).size + 1)))))))))))) + 1
def G35 (x : S35) : Prop := (True) ∧ ((True) ∧ ((True) ∧ ((True) ∧ ((True) ∧ ((True) ∧ ((True) ∧ ((True) ∧ ((True) ∧ ((True) ∧ ((True) ∧ (((Lit.int .i64 x.f11).wf = true) ∧ (True))))))))))))
theorem op35 : Op 35 k35 B35 G35 := op_struct Tryd.underlying35 (by kernel_rfl) (opf_cons (op_string Tryd.underlying9) rfl (by kernel_rfl) (opf_cons (op_string Tryd.underlying9) rfl (by kernel_rfl) (opf_cons (op_string Tryd.underlying9) rfl (by kernel_rfl) (opf_cons (op_string Tryd.underlying9) rfl (by kernel_rfl) (opf_cons (op_string Tryd.underlying9) rfl (by kernel_rfl) (opf_cons (op_string Tryd.underlying9) rfl (by kernel_rfl) (opf_cons (op_string Tryd.underlying9) rfl (by kernel_rfl) (opf_cons (op_string Tryd.underlying9) rfl (by kernel_rfl) (opf_cons (op_string Tryd.underlying9) rfl (by kernel_rfl) (opf_cons (op_string Tryd.underlying9) rfl (by kernel_rfl) (opf_cons (op_string Tryd.underlying9) rfl (by kernel_rfl) (opf_cons (op_int Tryd.underlying3) rfl (by kernel_rfl) (opf_one (op_string Tryd.underlying9) rfl (by kernel_rfl)))))))))))))) (fun x : S35 => (x.f0, x.f1, x.f2, x.f3, x.f4, x.f5, x.f6, x.f7, x.f8, x.f9, x.f10, x.f11, x.f12)) (fun p => ⟨p.1, p.2.1, p.2.2.1, p.2.2.2.1, p.2.2.2.2.1, p.2.2.2.2.2.1, p.2.2.2.2.2.2.1, p.2.2.2.2.2.2.2.1, p.2.2.2.2.2.2.2.2.1, p.2.2.2.2.2.2.2.2.2.1, p.2.2.2.2.2.2.2.2.2.2.1, p.2.2.2.2.2.2.2.2.2.2.2.1, p.2.2.2.2.2.2.2.2.2.2.2.2⟩) (fun _ => rfl)
structure S41 where
  f0 : ByteArray
  f1 : ByteArray
  f2 : ByteArray
  f3 : ByteArray
  f4 : ByteArray
  f5 : ByteArray
  f6 : ByteArray
  f7 : Int
  f8 : ByteArray
  f9 : ByteArray
  f10 : ByteArray
  f11 : Int
def z41 : S41 := ⟨(⟨#[]⟩ : ByteArray), (⟨#[]⟩ : ByteArray), (⟨#[]⟩ : ByteArray), (⟨#[]⟩ : ByteArray), (⟨#[]⟩ : ByteArray), (⟨#[]⟩ : ByteArray), (⟨#[]⟩ : ByteArray), 0, (⟨#[]⟩ : ByteArray), (⟨#[]⟩ : ByteArray), (⟨#[]⟩ : ByteArray), 0⟩
def k41 : Kd S41 := Kd.iso (Kd.pair Kd.string (Kd.pair Kd.string (Kd.pair Kd.string (Kd.pair Kd.string (Kd.pair Kd.string (Kd.pair Kd.string (Kd.pair Kd.string (Kd.pair (Kd.int .i64) (Kd.pair Kd.string (Kd.pair Kd.string (Kd.pair Kd.string (Kd.int .i64)))))))))))) (fun x : S41 => (x.f0, x.f1, x.f2, x.f3, x.f4, x.f5, x.f6, x.f7, x.f8, x.f9, x.f10, x.f11))
theorem k41_open {w : World} {x : S41} {cs : List Value} (h : k41.K w x cs) : cs = [.string x.f0, .string x.f1, .string x.f2, .string x.f3, .string x.f4, .string x.f5, .string x.f6, .int .i64 x.f7, .string x.f8, .string x.f9, .string x.f10, .int .i64 x.f11] := by
  obtain ⟨_, _, rfl, h0, ⟨_, _, rfl, h1, ⟨_, _, rfl, h2, ⟨_, _, rfl, h3, ⟨_, _, rfl, h4, ⟨_, _, rfl, h5, ⟨_, _, rfl, h6, ⟨_, _, rfl, h7, ⟨_, _, rfl, h8, ⟨_, _, rfl, h9, ⟨_, _, rfl, h10, h11⟩⟩⟩⟩⟩⟩⟩⟩⟩⟩⟩ := h
  cases h0
  cases h1
  cases h2
  cases h3
  cases h4
  cases h5
  cases h6
  cases h7
  cases h8
  cases h9
  cases h10
  cases h11
  rfl
def B41 (x : S41) : Nat := ((x.f0).size + 1) + (((x.f1).size + 1) + (((x.f2).size + 1) + (((x.f3).size + 1) + (((x.f4).size + 1) + (((x.f5).size + 1) + (((x.f6).size + 1) + ((1) + (((x.f8).size + 1) + (((x.f9).size + 1) + (((x.f10).size + 1) + (1))))))))))) + 1
def G41 (x : S41) : Prop := (True) ∧ ((True) ∧ ((True) ∧ ((True) ∧ ((True) ∧ ((True) ∧ ((True) ∧ (((Lit.int .i64 x.f7).wf = true) ∧ ((True) ∧ ((True) ∧ ((True) ∧ ((Lit.int .i64 x.f11).wf = true)))))))))))
theorem op41 : Op 41 k41 B41 G41 := op_struct Tryd.underlying41 (by kernel_rfl) (opf_cons (op_string Tryd.underlying9) rfl (by kernel_rfl) (opf_cons (op_string Tryd.underlying9) rfl (by kernel_rfl) (opf_cons (op_string Tryd.underlying9) rfl (by kernel_rfl) (opf_cons (op_string Tryd.underlying9) rfl (by kernel_rfl) (opf_cons (op_string Tryd.underlying9) rfl (by kernel_rfl) (opf_cons (op_string Tryd.underlying9) rfl (by kernel_rfl) (opf_cons (op_string Tryd.underlying9) rfl (by kernel_rfl) (opf_cons (op_int Tryd.underlying3) rfl (by kernel_rfl) (opf_cons (op_string Tryd.underlying9) rfl (by kernel_rfl) (opf_cons (op_string Tryd.underlying9) rfl (by kernel_rfl) (opf_cons (op_string Tryd.underlying9) rfl (by kernel_rfl) (opf_one (op_int Tryd.underlying3) rfl (by kernel_rfl))))))))))))) (fun x : S41 => (x.f0, x.f1, x.f2, x.f3, x.f4, x.f5, x.f6, x.f7, x.f8, x.f9, x.f10, x.f11)) (fun p => ⟨p.1, p.2.1, p.2.2.1, p.2.2.2.1, p.2.2.2.2.1, p.2.2.2.2.2.1, p.2.2.2.2.2.2.1, p.2.2.2.2.2.2.2.1, p.2.2.2.2.2.2.2.2.1, p.2.2.2.2.2.2.2.2.2.1, p.2.2.2.2.2.2.2.2.2.2.1, p.2.2.2.2.2.2.2.2.2.2.2⟩) (fun _ => rfl)
structure S47 where
  f0 : ByteArray
  f1 : ByteArray
  f2 : ByteArray
  f3 : ByteArray
  f4 : ByteArray
  f5 : ByteArray
  f6 : ByteArray
  f7 : ByteArray
  f8 : ByteArray
  f9 : ByteArray
  f10 : List (ByteArray)
  f11 : Bool
def z47 : S47 := ⟨(⟨#[]⟩ : ByteArray), (⟨#[]⟩ : ByteArray), (⟨#[]⟩ : ByteArray), (⟨#[]⟩ : ByteArray), (⟨#[]⟩ : ByteArray), (⟨#[]⟩ : ByteArray), (⟨#[]⟩ : ByteArray), (⟨#[]⟩ : ByteArray), (⟨#[]⟩ : ByteArray), (⟨#[]⟩ : ByteArray), [], false⟩
def k47 : Kd S47 := Kd.iso (Kd.pair Kd.string (Kd.pair Kd.string (Kd.pair Kd.string (Kd.pair Kd.string (Kd.pair Kd.string (Kd.pair Kd.string (Kd.pair Kd.string (Kd.pair Kd.string (Kd.pair Kd.string (Kd.pair Kd.string (Kd.pair (Kd.slice 9 Kd.string) Kd.bool))))))))))) (fun x : S47 => (x.f0, x.f1, x.f2, x.f3, x.f4, x.f5, x.f6, x.f7, x.f8, x.f9, x.f10, x.f11))
theorem k47_open {w : World} {x : S47} {cs : List Value} (h : k47.K w x cs) : ∃ A10 c10, cs = [.string x.f0, .string x.f1, .string x.f2, .string x.f3, .string x.f4, .string x.f5, .string x.f6, .string x.f7, .string x.f8, .string x.f9, .slice A10 x.f10.length c10, .bool x.f11] ∧ x.f10.length ≤ c10 ∧ Kd.C Kd.string w A10 x.f10.length x.f10 := by
  obtain ⟨_, _, rfl, h0, ⟨_, _, rfl, h1, ⟨_, _, rfl, h2, ⟨_, _, rfl, h3, ⟨_, _, rfl, h4, ⟨_, _, rfl, h5, ⟨_, _, rfl, h6, ⟨_, _, rfl, h7, ⟨_, _, rfl, h8, ⟨_, _, rfl, h9, ⟨_, _, rfl, h10, h11⟩⟩⟩⟩⟩⟩⟩⟩⟩⟩⟩ := h
  cases h0
  cases h1
  cases h2
  cases h3
  cases h4
  cases h5
  cases h6
  cases h7
  cases h8
  cases h9
  obtain ⟨A10, c10, rfl, l10, g10⟩ := h10
  cases h11
  exact ⟨A10, c10, rfl, l10, g10⟩
def B47 (x : S47) : Nat := ((x.f0).size + 1) + (((x.f1).size + 1) + (((x.f2).size + 1) + (((x.f3).size + 1) + (((x.f4).size + 1) + (((x.f5).size + 1) + (((x.f6).size + 1) + (((x.f7).size + 1) + (((x.f8).size + 1) + (((x.f9).size + 1) + ((B22 (x.f10)) + (1))))))))))) + 1
def G47 (x : S47) : Prop := (True) ∧ ((True) ∧ ((True) ∧ ((True) ∧ ((True) ∧ ((True) ∧ ((True) ∧ ((True) ∧ ((True) ∧ ((True) ∧ ((G22 (x.f10)) ∧ (True)))))))))))
theorem op47 : Op 47 k47 B47 G47 := op_struct Tryd.underlying47 (by kernel_rfl) (opf_cons (op_string Tryd.underlying9) rfl (by kernel_rfl) (opf_cons (op_string Tryd.underlying9) rfl (by kernel_rfl) (opf_cons (op_string Tryd.underlying9) rfl (by kernel_rfl) (opf_cons (op_string Tryd.underlying9) rfl (by kernel_rfl) (opf_cons (op_string Tryd.underlying9) rfl (by kernel_rfl) (opf_cons (op_string Tryd.underlying9) rfl (by kernel_rfl) (opf_cons (op_string Tryd.underlying9) rfl (by kernel_rfl) (opf_cons (op_string Tryd.underlying9) rfl (by kernel_rfl) (opf_cons (op_string Tryd.underlying9) rfl (by kernel_rfl) (opf_cons (op_string Tryd.underlying9) rfl (by kernel_rfl) (opf_cons op22 rfl (by kernel_rfl) (opf_one (op_bool Tryd.underlying4) rfl (by kernel_rfl))))))))))))) (fun x : S47 => (x.f0, x.f1, x.f2, x.f3, x.f4, x.f5, x.f6, x.f7, x.f8, x.f9, x.f10, x.f11)) (fun p => ⟨p.1, p.2.1, p.2.2.1, p.2.2.2.1, p.2.2.2.2.1, p.2.2.2.2.2.1, p.2.2.2.2.2.2.1, p.2.2.2.2.2.2.2.1, p.2.2.2.2.2.2.2.2.1, p.2.2.2.2.2.2.2.2.2.1, p.2.2.2.2.2.2.2.2.2.2.1, p.2.2.2.2.2.2.2.2.2.2.2⟩) (fun _ => rfl)
end Go.Proofs.YtkjheoilidpckaaDoor.X
