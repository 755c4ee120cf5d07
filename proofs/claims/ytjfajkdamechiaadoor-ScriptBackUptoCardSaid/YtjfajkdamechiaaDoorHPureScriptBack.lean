/- Ours: the plain law of ScriptBack. -/
import Derived.Test.YtjfajkdamechiaaDoorHPure
import Derived.Test.YtjfajkdamechiaaDoorX9
namespace Go.Proofs.YtjfajkdamechiaaDoor.X
open Go.RowKit Go.Proofs.YtjfajkdamechiaaDoorW.PrintWords Go.Proofs.YtjfajkdamechiaaDoor.Spec
set_option linter.unusedVariables false
set_option linter.unusedSimpArgs false

theorem pure_ScriptBack (l0 : List (S36)) (hb : (B22 (l0)) ≤ 1048576) (g0 : G22 (l0)) : ∃ k, exequaturlaw24_ScriptBack.f k l0 = some true := by
  obtain ⟨hok, hl, ht⟩ := wf_ok (by omega) g0
  refine Ev.get ?_
  unfold exequaturlaw24_ScriptBack.f
  refine Ev.bind (Ev.const (small_f l0 hok hl)) ?_
  by_cases hs : smallG 0 l0 = true
  · refine Ev.if_pos hs ?_
    refine Ev.bind (Ev.const (print_f l0 hok hl ht)) ?_
    have hq := parse_f (textL l0) (by omega)
    rw [parse_text l0 hok] at hq
    refine Ev.bind hq (Ev.bind answers_ev (Ev.if_pos rfl (Ev.bind (text_f l0 hok (by omega)) ?_)))
    refine Ev.if_pos rfl (Ev.if_pos rfl (Ev.if_pos rfl (Ev.bind (same_ev l0 hok hl) (Ev.some true))))
  · exact Ev.if_neg hs ends_ev
end Go.Proofs.YtjfajkdamechiaaDoor.X
