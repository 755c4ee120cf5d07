/- Ours: the plain law of ClientAuths. -/
import Derived.Test.YtkcgalpagpgfhaaDoorTLawAuths
namespace Go.Proofs.YtkcgalpagpgfhaaDoor.X
open Go.RowKit Go.Proofs.YtkcgalpagpgfhaaDoorW.PrintWords Go.Proofs.YtkcgalpagpgfhaaDoor.Spec
set_option linter.unusedVariables false
theorem pure_ClientAuths (a0 : ByteArray) (a1 : ByteArray) (a2 : Int) (hb : ((a0).size + 1) + ((a1).size + 1) + (1) ≤ 1048576) (g2 : (Lit.int .u8 a2).wf = true) : exequaturlaw16_ClientAuths.f a0 a1 a2 = some true := by
  have hg : 0 ≤ a2 ∧ a2 ≤ 255 := by
    unfold Lit.wf at g2
    rw [Bool.and_eq_true] at g2
    exact ⟨of_decide_eq_true g2.1, of_decide_eq_true g2.2⟩
  unfold exequaturlaw16_ClientAuths.f
  rw [if_pos ⟨by omega, by omega, hg.1, hg.2⟩]
end Go.Proofs.YtkcgalpagpgfhaaDoor.X
