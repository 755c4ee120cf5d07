/- The library's Itoa under the printer's second name. -/
import Derived.Test.YtkjheoilidpckaaDoorHTx
namespace Go.Proofs.YtkjheoilidpckaaDoor.X
open Go.RowKit Go.Proofs.YtkjheoilidpckaaDoorW.PrintWords Go.Proofs.YtkjheoilidpckaaDoorW.PrintLast Go.Proofs.YtkjheoilidpckaaDoorW.PrintMore Go.Proofs.YtkjheoilidpckaaDoor.Spec
set_option linter.unusedVariables false
def strconv_Itoa_28.f (n : Int) : Option ByteArray := strconv_Itoa.f n
theorem strconv_Itoa_28.calls (a0 : Int) (r : ByteArray) (w : World) (h : strconv_Itoa_28.f a0 = some r) (hG : GOK w := by first | assumption | exact hG | exact GOK.drewN _ hG | exact GOK.below hG (by repeat (first | (with_reducible first | exact HB.out | apply below_alloc | apply pw_below_drewN | apply below_drew1 | refine below_set ?_ (Aside0.out (by assumption))) | exact HB.out))) :
    Calls Tryd.prog 28 #[.int .i64 a0] w fun e w' => e = .returned (.string r) ∧ Below w.heap.size w w' := strconv_Itoa.calls a0 r w h hG
end Go.Proofs.YtkjheoilidpckaaDoor.X
