/- Ours: the plain law of AskChecks. -/
import Derived.Test.YtmhaaggmfgojbaaDoorBH
import Derived.Test.YtmhaaggmfgojbaaDoorHAskR
import Derived.Test.YtmhaaggmfgojbaaDoorX13
namespace Go.Proofs.YtmhaaggmfgojbaaDoor.X
open Go.RowKit Go.Proofs.YtmhaaggmfgojbaaDoorW.PrintWords Go.Proofs.YtmhaaggmfgojbaaDoor.Spec
set_option linter.unusedVariables false
set_option linter.unusedSimpArgs false

theorem pure_AskChecks (x0 : S27) (a1 : ByteArray) (hb : (B27 (x0)) + ((a1).size + 1) ≤ 1048576) (g0 : G27 (x0)) : ∃ k, exequaturlaw17_AskChecks.f k x0.f0 x0.f1.f0 x0.f1.f1 x0.f2 x0.f3 a1 = some true := by
 have hc := config_small (x := x0) (by omega)
 refine ⟨1, ?_⟩
 have key : ∀ b, (b = false → x0.f2.length ≤ 20) → exequaturlaw17_AskChecks.j0 1 a1 b x0.f0 x0.f1.f0 x0.f1.f1 x0.f2 x0.f3 = some true := by
  intro b hl
  rw [exequaturlaw17_AskChecks.j0]
  cases b with
  | true => rw [if_pos rfl, answers_ok]; rfl
  | false =>
   have hl := hl rfl
   rw [if_neg (by simp)]
   cases hp : pairs_Parse.f a1 with
   | none => unfold pairs_Parse.f at hp; cases hp
   | some p =>
    obtain ⟨l, e⟩ := p
    obtain ⟨r, hr, _⟩ := ask_is x0.f0 x0.f1.f0 x0.f1.f1 x0.f2 x0.f3 a1 (by omega) hc l e hp
    unfold exequaturref13_Check.f
    rw [if_pos (by omega), hr, Option.bind_some, Option.bind_some, answers_ok, Option.bind_some, if_pos rfl, if_pos (by simp), if_pos rfl]
    simp
 unfold exequaturlaw17_AskChecks.f
 split
 ·exact key true (fun h => by cases h)
 ·rename_i h
  exact key _ (fun _ => by omega)
end Go.Proofs.YtmhaaggmfgojbaaDoor.X
