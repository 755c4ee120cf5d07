/- Ours: the plain law of ScriptEnds. -/
import Derived.Test.YtjfajkdamechiaaDoorHPure
import Derived.Test.YtjfajkdamechiaaDoorX12
namespace Go.Proofs.YtjfajkdamechiaaDoor.X
open Go.RowKit Go.Proofs.YtjfajkdamechiaaDoorW.PrintWords Go.Proofs.YtjfajkdamechiaaDoor.Spec
set_option linter.unusedVariables false
set_option linter.unusedSimpArgs false

theorem pure_ScriptEnds (l0 : List (S36)) (hb : (B22 (l0)) ≤ 1048576) (g0 : G22 (l0)) : ∃ k, exequaturlaw24_ScriptEnds.f k l0 = some true := by
  obtain ⟨hok, hl, ht⟩ := wf_ok (by omega) g0
  refine Ev.get ?_
  unfold exequaturlaw24_ScriptEnds.f
  refine Ev.bind (Ev.const (small_f l0 hok hl)) ?_
  have hno : ∀ b : Bool, b = true → Ev (fun k => exequaturlaw24_ScriptEnds.j0 k l0 b) true := fun b hbt =>
    Ev.step (fun k => by rw [exequaturlaw24_ScriptEnds.j0]) (Ev.if_pos hbt ends_ev)
  by_cases hs : smallG 0 l0 = true
  · refine Ev.if_pos hs ?_
    rcases List.eq_nil_or_concat l0 with h0 | ⟨ini, x, rfl⟩
    · exact hno _ (by rw [h0]; rfl)
    · rw [List.concat_eq_append] at *
      refine Ev.step (fun k => by rw [exequaturlaw24_ScriptEnds.j0]) ?_
      refine Ev.if_neg (by simp; omega) ?_
      refine Ev.bind (text_f _ hok (by omega)) ?_
      have e : textL (ini ++ [x]) = (textL ini ++ lineB x) ++ [10] := by rw [textL_append]; simp [textL, lineL]
      rw [e] at ht ⊢
      have hsz : (ba ((textL ini ++ lineB x) ++ [10])).size = (textL ini ++ lineB x).length + 1 := by rw [size_ba, List.length_append]; rfl
      have hz : (textL ini ++ lineB x).length + 1 ≤ 60000000 := by rw [List.length_append] at ht; exact ht
      have hw : wrap64 (((ba ((textL ini ++ lineB x) ++ [10])).size : Int) - 1) = ((textL ini ++ lineB x).length : Int) := by rw [hsz, w64 (by omega) (by omega)]; omega
      rw [hw]
      refine Ev.if_pos (by omega) (Ev.if_pos (by rw [hsz]; omega) ?_)
      have hex : (ba ((textL ini ++ lineB x) ++ [10])).extract 0 ((textL ini ++ lineB x).length : Int).toNat = ba (textL ini ++ lineB x) := by
        apply bl_inj
        rw [bl_ba, show bl ((ba ((textL ini ++ lineB x) ++ [10])).extract 0 ((textL ini ++ lineB x).length : Int).toNat) = ((ba ((textL ini ++ lineB x) ++ [10])).extract 0 ((textL ini ++ lineB x).length : Int).toNat).data.toList from rfl, Lib.extract_eq]
        have : (ba ((textL ini ++ lineB x) ++ [10])).data.toList = (textL ini ++ lineB x) ++ [10] := bl_ba _
        rw [this, Int.toNat_natCast, Nat.sub_zero, List.drop_zero, List.take_left]
      rw [hex]
      refine Ev.bind (parse_f _ (by omega)) ?_
      obtain ⟨f', h1, h2⟩ := parse_lines ini (lineB x) [] 1 ((textL ini ++ lineB x).length + 1) (fun s hs => hok s (List.mem_append_left _ hs)) (by omega)
      have hx := hok x (by simp)
      have hn0 : lineB x ≠ [] := by
        intro h
        have := congrArg List.length h
        simp [lineB] at this
      have hpr : parseR (textL ini ++ lineB x) = ([], 1 + (ini.length : Int), 11) := by
        unfold parseR
        rw [h2]
        cases f' with
        | zero => omega
        | succ f' =>
          rw [pG, if_neg hn0, pre_of_not_mem (line_no10 x), step_line x hx, if_pos rfl, if_neg (line_no10 x)]
      rw [hpr]
      refine Ev.bind answers_ev (Ev.if_pos rfl (Ev.if_pos rfl (Ev.if_pos (by simp; omega) ?_)))
      exact Ev.const rfl
  · exact Ev.if_neg hs (hno true rfl)
end Go.Proofs.YtjfajkdamechiaaDoor.X
