/- row.Family, told without a footprint. -/
import Derived.Test.YtkjheoilidpckaaDoorX22
namespace Go.Proofs.YtkjheoilidpckaaDoor.X
open Go.RowKit Go.Proofs.YtkjheoilidpckaaDoorW.PrintWords Go.Proofs.YtkjheoilidpckaaDoorW.PrintLast Go.Proofs.YtkjheoilidpckaaDoorW.PrintMore
set_option linter.unusedVariables false
def row_FamilyC.f := row_Family.f
theorem row_FamilyC.calls (a0_0 : ByteArray) (a0_1 : ByteArray) (a0_2 : ByteArray) (a0_3 : ByteArray) (a0_4 : ByteArray) (a0_5 : ByteArray) (a0_6 : ByteArray) (a0_7 : ByteArray) (a0_8 : ByteArray) (a0_9 : ByteArray) (A0_10 : Option Addr) (c0_10 : Nat) (l0_10 : List ByteArray) (a0_11 : Bool) (r : ByteArray) (w : World) (hr0_10 : Kd.C Kd.string w A0_10 l0_10.length l0_10) (hc0_10 : l0_10.length ≤ c0_10) (h : row_FamilyC.f a0_0 a0_1 a0_2 a0_3 a0_4 a0_5 a0_6 a0_7 a0_8 a0_9 l0_10 a0_11 = some r) (hG : GOK w := by first | assumption | exact hG | exact GOK.drewN _ hG | exact GOK.below hG (by repeat (first | (with_reducible first | exact HB.out | apply below_alloc | apply pw_below_drewN | apply below_drew1 | refine below_set ?_ (Aside0.out (by assumption))) | exact HB.out))) :
    Calls Tryd.prog 23 #[.agg #[.string a0_0, .string a0_1, .string a0_2, .string a0_3, .string a0_4, .string a0_5, .string a0_6, .string a0_7, .string a0_8, .string a0_9, .slice A0_10 l0_10.length c0_10, .bool a0_11]] w fun e w' => e = .returned (.string r) ∧ Below w.heap.size w w' :=
  row_Family.calls a0_0 a0_1 a0_2 a0_3 a0_4 a0_5 a0_6 a0_7 a0_8 a0_9 (fun k => k < w.heap.size) A0_10 c0_10 l0_10 a0_11 r w (Kd.V_mk hc0_10 (Kd.C_F Kd.heap_string hr0_10)) h hG
end Go.Proofs.YtkjheoilidpckaaDoor.X
