/- Ours: the plain law of ScriptNumbers: what its walk wants of the arguments. -/
import Derived.Test.YtjfajkdamechiaaDoorTLawNumbers
namespace Go.Proofs.YtjfajkdamechiaaDoor.X
open Go.RowKit Go.Proofs.YtjfajkdamechiaaDoorW.PrintWords Go.Proofs.YtjfajkdamechiaaDoor.Spec
set_option linter.unusedVariables false
theorem pure_ScriptNumbers (a0 : Int) (a1 : Int) (a2 : ByteArray) (hb : (1) + (1) + ((a2).size + 1) ≤ 1048576) (g0 : (Lit.int .i64 a0).wf = true) (g1 : (Lit.int .i64 a1).wf = true) : exequaturlaw24_ScriptNumbers.f a0 a1 a2 = some true := by
  unfold exequaturlaw24_ScriptNumbers.f
  rw [if_pos ⟨wf_i64 g0, wf_i64 g1, by omega⟩]
end Go.Proofs.YtjfajkdamechiaaDoor.X
