/- The reference's JSON: what it answers. -/
import Derived.Test.YtifejhbochkifaaGreatDoorHRefJ
import Derived.Test.YtifejhbochkifaaGreatDoorX16
namespace Go.Proofs.YtifejhbochkifaaGreatDoor.X
open Go.RowKit Go.Proofs.YtifejhbochkifaaGreatDoorW.PrintWords Go.Proofs.YtifejhbochkifaaGreatDoor.Spec
set_option linter.unusedVariables false
theorem json_ev (v : V) (D : Nat) (hl : limB D v = true) (hz : fitsB 8 v = true → (rend 8 v).length ≤ 999999990) : Ev (fun k => exequaturref01_JSON.f k v.f0 v.f1 v.f2 v.f3 v.f4) (ba (if fitsB 8 v = true then rend 8 v else [])) := by
 refine Ev.bind (fits_ev 8 (by decide) v D hl) ?_
 cases h : fitsB 8 v with
 | true =>
  rw [if_pos rfl]
  have := Ev.bind (h := fun _ t => some t) (show_ev 8 v h (hz h)) (Ev.some _)
  first | exact this | exact Ev.if_neg (by decide) this | exact Ev.if_pos rfl this
 | false =>
  rw [if_neg (by decide)]
  first | exact Ev.some _ | exact Ev.if_pos rfl (Ev.some _) | exact Ev.if_neg (by decide) (Ev.some _)
end Go.Proofs.YtifejhbochkifaaGreatDoor.X
