/- Ours: the plain law of ClientRedirects. -/
import Derived.Test.YtkcgalpagpgfhaaDoorHPure
import Derived.Test.YtkcgalpagpgfhaaDoorX8
namespace Go.Proofs.YtkcgalpagpgfhaaDoor.X
open Go.RowKit Go.Proofs.YtkcgalpagpgfhaaDoorW.PrintWords Go.Proofs.YtkcgalpagpgfhaaDoor.Spec
set_option linter.unusedVariables false
theorem redirects_from (a b : ByteArray) (l : List ByteArray) (x : ByteArray) (hl : l.length ≤ 100) : ∀ n i, i + n = l.length → Ev (fun k => exequaturlaw16_ClientRedirects.l0 k x (i : Int) a b l) true := by
  intro n
  induction n with
  | zero =>
    intro i hi
    refine Ev.step (fun k => by rw [exequaturlaw16_ClientRedirects.l0]) ?_
    refine Ev.if_neg (by omega) (Ev.bind (Ev.some true) (Ev.if_pos rfl ?_))
    refine Ev.bind (redirect_f a b l x (by omega)) (Ev.bind (ref_Redirect a b l (by omega) x) (Ev.const ?_))
    rw [has_same, beq_self_eq_true]
  | succ n ih =>
    intro i hi
    have hlt : i < l.length := by omega
    have hr : rdOf ByteArray.empty l (i : Int) = l[i] := by simp [rdOf, hlt]
    refine Ev.step (fun k => by rw [exequaturlaw16_ClientRedirects.l0]) (Ev.if_pos (by omega) (Ev.if_pos (by omega) ?_))
    rw [hr]
    refine Ev.bind (redirect_f a b l l[i] (by omega)) ?_
    rw [has_mem _ _ (List.getElem_mem hlt)]
    refine Ev.if_pos rfl ?_
    rw [w64 (n := (i : Int) + 1) (by omega) (by omega), show (i : Int) + 1 = ((i + 1 : Nat) : Int) from by omega]
    exact ih (i + 1) (by omega)
theorem pure_ClientRedirects (x0 : S25) (a1 : ByteArray) (hb : (B25 (x0)) + ((a1).size + 1) ≤ 1048576) (g0 : G25 (x0)) : ∃ k, exequaturlaw16_ClientRedirects.f k x0.f0 x0.f1 x0.f2 a1 = some true := by
  refine Ev.get ?_
  unfold exequaturlaw16_ClientRedirects.f
  by_cases h : (x0.f2.length : Int) > 100
  · exact Ev.if_pos h (Ev.bind (Ev.some true) (Ev.some true))
  · exact Ev.if_neg h (redirects_from _ _ _ _ (by omega) x0.f2.length 0 (by omega))
end Go.Proofs.YtkcgalpagpgfhaaDoor.X
