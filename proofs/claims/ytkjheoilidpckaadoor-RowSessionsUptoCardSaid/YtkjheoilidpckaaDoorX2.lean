-- Lean text made by xprint.py (ours) out of the seat's translation. Lean checks it.
import Derived.Test.YtkjheoilidpckaaDoorX0
namespace Go.Proofs.YtkjheoilidpckaaDoor.X
open Go.RowKit Go.Proofs.YtkjheoilidpckaaDoorW.PrintWords Go.Proofs.YtkjheoilidpckaaDoorW.PrintLast Go.Proofs.YtkjheoilidpckaaDoorW.PrintMore
attribute [local go_sem] max2_int min2_int max_two min_two max_three min_three max_four min_four   -- for this text's walks alone
set_option linter.unusedVariables false
set_option linter.unusedSimpArgs false

theorem eqA41 (d : Nat) (w : World) (x0 y0 : ByteArray) (x1 y1 : ByteArray) (x2 y2 : ByteArray) (x3 y3 : ByteArray) (x4 y4 : ByteArray) (x5 y5 : ByteArray) (x6 y6 : ByteArray) (x7 y7 : Int) (x8 y8 : ByteArray) (x9 y9 : ByteArray) (x10 y10 : ByteArray) (x11 y11 : Int) :
    (Op.equalIn (d + 2) 41 (.agg #[.string x0, .string x1, .string x2, .string x3, .string x4, .string x5, .string x6, .int .i64 x7, .string x8, .string x9, .string x10, .int .i64 x11]) (.agg #[.string y0, .string y1, .string y2, .string y3, .string y4, .string y5, .string y6, .int .i64 y7, .string y8, .string y9, .string y10, .int .i64 y11])).run Tryd.prog w = .ok (x0.toList == y0.toList && (x1.toList == y1.toList && (x2.toList == y2.toList && (x3.toList == y3.toList && (x4.toList == y4.toList && (x5.toList == y5.toList && (x6.toList == y6.toList && (x7 == y7 && (x8.toList == y8.toList && (x9.toList == y9.toList && (x10.toList == y10.toList && (x11 == y11)))))))))))) w := by
  refine eqA_of Tryd.underlying41 (by kernel_rfl) ?_
  refine eqf_cons (by rfl) (by go_simp; rfl) (by go_simp; rfl) (by go_simp) ?_
  refine eqf_cons (by rfl) (by go_simp; rfl) (by go_simp; rfl) (by go_simp) ?_
  refine eqf_cons (by rfl) (by go_simp; rfl) (by go_simp; rfl) (by go_simp) ?_
  refine eqf_cons (by rfl) (by go_simp; rfl) (by go_simp; rfl) (by go_simp) ?_
  refine eqf_cons (by rfl) (by go_simp; rfl) (by go_simp; rfl) (by go_simp) ?_
  refine eqf_cons (by rfl) (by go_simp; rfl) (by go_simp; rfl) (by go_simp) ?_
  refine eqf_cons (by rfl) (by go_simp; rfl) (by go_simp; rfl) (by go_simp) ?_
  refine eqf_cons (by rfl) (by go_simp; rfl) (by go_simp; rfl) (by go_simp) ?_
  refine eqf_cons (by rfl) (by go_simp; rfl) (by go_simp; rfl) (by go_simp) ?_
  refine eqf_cons (by rfl) (by go_simp; rfl) (by go_simp; rfl) (by go_simp) ?_
  refine eqf_cons (by rfl) (by go_simp; rfl) (by go_simp; rfl) (by go_simp) ?_
  exact eqf_last (by rfl) (by go_simp; rfl) (by go_simp; rfl) (by go_simp)
end Go.Proofs.YtkjheoilidpckaaDoor.X
