/- Ours: the plain law of ClientOwn. -/
import Derived.Test.YtkcgalpagpgfhaaDoorTLawOwn
namespace Go.Proofs.YtkcgalpagpgfhaaDoor.X
open Go.RowKit Go.Proofs.YtkcgalpagpgfhaaDoorW.PrintWords Go.Proofs.YtkcgalpagpgfhaaDoor.Spec
set_option linter.unusedVariables false
theorem pure_ClientOwn (a0 : ByteArray) (a1 : ByteArray) (hb : ((a0).size + 1) + ((a1).size + 1) ≤ 1048576) : exequaturlaw16_ClientOwn.f a0 a1 = some true := by
  unfold exequaturlaw16_ClientOwn.f
  rw [if_pos ⟨by omega, by omega⟩]
end Go.Proofs.YtkcgalpagpgfhaaDoor.X
