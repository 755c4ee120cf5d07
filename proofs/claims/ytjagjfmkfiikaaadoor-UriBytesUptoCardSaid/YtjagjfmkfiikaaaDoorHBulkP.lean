/- Ours: what the bulk of pairs gives. -/
import Derived.Test.YtjagjfmkfiikaaaDoorHOps
import Derived.Test.YtjagjfmkfiikaaaDoorHRefB
namespace Go.Proofs.YtjagjfmkfiikaaaDoor.X
open Go.RowKit Go.Proofs.YtjagjfmkfiikaaaDoorW.PrintWords Go.Proofs.YtjagjfmkfiikaaaDoor.Spec
set_option linter.unusedVariables false
theorem B_le {l : List Pr} {p : Pr} (h : p ∈ l) : B25 p ≤ (l.map fun x => B25 x).sum := by
  induction l with
  | nil => cases h
  | cons q r ih =>
    simp only [List.map_cons, List.sum_cons]
    rcases List.mem_cons.1 h with rfl | h
    · omega
    · have := ih h; omega
theorem len_le (l : List Pr) : l.length ≤ (l.map fun x => B25 x).sum := by
  induction l with
  | nil => simp
  | cons q r ih => simp only [List.map_cons, List.sum_cons, List.length_cons]; have : 1 ≤ B25 q := by unfold B25; omega
                   omega
theorem small_of {l : List Pr} (hb : B22 l ≤ 1048576) : (∀ p ∈ l, psz p ≤ 1048576) ∧ l.length ≤ 1048576 := by
  unfold B22 at hb
  constructor
  · intro p hp
    have := B_le hp
    have hB : B25 p = psz p + 3 := by unfold B25 psz; omega
    omega
  · have := len_le l; omega
end Go.Proofs.YtjagjfmkfiikaaaDoor.X
