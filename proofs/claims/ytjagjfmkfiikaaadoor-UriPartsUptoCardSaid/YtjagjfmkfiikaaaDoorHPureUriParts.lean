/- Ours: the plain law of UriParts. -/
import Derived.Test.YtjagjfmkfiikaaaDoorHPureUriEq
import Derived.Test.YtjagjfmkfiikaaaDoorX10
namespace Go.Proofs.YtjagjfmkfiikaaaDoor.X
open Go.RowKit Go.Proofs.YtjagjfmkfiikaaaDoorW.PrintWords Go.Proofs.YtjagjfmkfiikaaaDoor.Spec
set_option linter.unusedVariables false
set_option linter.unusedSimpArgs false
theorem pre_drop (c : UInt8) (l : List UInt8) : pre c l ++ l.drop (pre c l).length = l := by
  by_cases h : c ∈ l
  · rw [drop_pre, if_pos h]; exact (pre_post h).symm
  · rw [pre_of_not_mem h]; simp
theorem toList_ba (l : List UInt8) : (ba l).toList = l := by rw [toList_bl, bl_ba]
theorem tail_back (sch : ByteArray) (r : List UInt8) (h0 : (tailU sch r).2.2.2.2 = 0) :
    bl (printS (tailU sch r).1 (tailU sch r).2.1 (tailU sch r).2.2.1 (tailU sch r).2.2.2.1) = bl sch ++ (css ++ r) ∨ bl (printS (tailU sch r).1 (tailU sch r).2.1 (tailU sch r).2.2.1 (tailU sch r).2.2.2.1) ++ [63] = bl sch ++ (css ++ r) := by
  unfold tailU at h0 ⊢
  by_cases hc : pre 47 (pre 63 r) = [] ∨ (pre 47 (pre 63 r)).all hostc = false
  · rw [if_pos hc] at h0; exact absurd h0 (by decide)
  rw [if_neg hc]
  simp only [printS, bl_ba, toList_ba]
  rw [← List.append_assoc (pre 47 (pre 63 r)), pre_drop]
  by_cases hm : (63 : UInt8) ∈ r
  · have hr := pre_post hm
    by_cases hq : post 63 r = []
    · right
      rw [if_pos hq]
      rw [hq] at hr
      conv => rhs; rw [hr]
      simp [css]
    · left
      rw [if_neg hq]
      conv => rhs; rw [hr]
      simp [css]
  · left
    rw [post_of_not_mem hm, if_pos rfl, pre_of_not_mem hm]
    simp [css]
theorem uri_back (l : List UInt8) (h0 : (uriU l).2.2.2.2 = 0) :
    bl (printS (uriU l).1 (uriU l).2.1 (uriU l).2.2.1 (uriU l).2.2.2.1) = l ∨ bl (printS (uriU l).1 (uriU l).2.1 (uriU l).2.2.1 (uriU l).2.2.2.1) ++ [63] = l := by
  unfold uriU at h0 ⊢
  split at h0
  · exact absurd h0 (by decide)
  split at h0
  · exact absurd h0 (by decide)
  rename_i ha hb
  rw [if_neg ha, if_neg hb]
  split at h0
  · rename_i h2
    rw [if_pos h2]
    have e : l = http ++ (css ++ l.drop 7) := by rw [← List.append_assoc, ← h2, List.take_append_drop]
    have := tail_back (ba http) (l.drop 7) h0
    rw [bl_ba, ← e] at this
    exact this
  · rename_i h2
    rw [if_neg h2]
    split at h0
    · rename_i h3
      rw [if_pos h3]
      have e : l = https ++ (css ++ l.drop 8) := by rw [← List.append_assoc, ← h3, List.take_append_drop]
      have := tail_back (ba https) (l.drop 8) h0
      rw [bl_ba, ← e] at this
      exact this
    · exact absurd h0 (by decide)

theorem uri_sizes (l : List UInt8) (hz : l.length ≤ 1048576) : (uriU l).1.size + (uriU l).2.1.size + (uriU l).2.2.1.size + (uriU l).2.2.2.1.size ≤ 4194309 := by
  have tl : ∀ (sch : ByteArray) (r : List UInt8), sch.size ≤ 5 → r.length ≤ 1048576 → (tailU sch r).1.size + (tailU sch r).2.1.size + (tailU sch r).2.2.1.size + (tailU sch r).2.2.2.1.size ≤ 4194309 := by
    intro sch r hs hr
    have h1 := pre_length_le 63 r
    have h2 := pre_length_le 47 (pre 63 r)
    have h3 : (post 63 r).length ≤ r.length := by
      by_cases hm : (63 : UInt8) ∈ r
      · have := congrArg List.length (pre_post hm); simp at this; omega
      · rw [post_of_not_mem hm]; simp
    unfold tailU
    split
    · decide
    · simp only [size_ba, List.length_drop]; omega
  unfold uriU
  split
  · decide
  split
  · decide
  split
  · exact tl _ _ (by decide) (by rw [List.length_drop]; omega)
  split
  · exact tl _ _ (by decide) (by rw [List.length_drop]; omega)
  · decide
theorem pure_UriParts (a0 : ByteArray) (hb : ((a0).size + 1) ≤ 1048576) : ∃ k, exequaturlaw03_UriParts.f k a0 = some true := by
  refine Ev.get (g := fun k => exequaturlaw03_UriParts.f k a0) ?_
  unfold exequaturlaw03_UriParts.f
  have hz := uri_sizes (bl a0) (by rw [bl_length]; omega)
  have hback := uri_back (bl a0)
  refine Ev.bind (prog_f a0) (Ev.bind (ref_f a0) (Ev.if_pos rfl (Ev.if_neg (by simp) ?_)))
  obtain ⟨u, hu⟩ : ∃ u, uriU (bl a0) = u := ⟨_, rfl⟩
  rw [hu] at hz hback ⊢
  have hp := print_f u.1 u.2.1 u.2.2.1 u.2.2.2.1 (by omega)
  refine Ev.bind (Ev.const hp) (Ev.bind (Ev.const (rprint_f u.1 u.2.1 u.2.2.1 u.2.2.2.1 (by omega))) ?_)
  rw [show ((printS u.1 u.2.1 u.2.2.1 u.2.2.2.1).toList != (printS u.1 u.2.1 u.2.2.1 u.2.2.2.1).toList) = false from bne_eq_false_iff_eq.mpr rfl]
  refine Ev.step (fun k => by rw [exequaturlaw03_UriParts.j0]) ?_
  refine Ev.if_neg (by simp) (Ev.bind answers_ok (Ev.if_pos rfl ?_))
  by_cases h0 : u.2.2.2.2 = 0
  · refine Ev.if_pos h0 (Ev.bind (Ev.const hp) ?_)
    rcases hback h0 with h | h
    · exact Ev.if_pos (by rw [toList_bl, toList_bl]; exact h) (Ev.some _)
    · by_cases he : (printS u.1 u.2.1 u.2.2.1 u.2.2.2.1).toList = a0.toList
      · exact Ev.if_pos he (Ev.some _)
      · refine Ev.if_neg he (Ev.bind (Ev.const hp) (Ev.if_pos ?_ ((Ev.some _).uni ?_)))
        · have := congrArg List.length h
          rw [List.length_append, bl_length, bl_length] at this
          simp at this; omega
        · rw [beq_iff_eq, toList_bl, toList_bl, bl_append, show bl (⟨#[63]⟩ : ByteArray) = [63] from rfl]; exact h
  · exact Ev.if_neg h0 (Ev.some _)
end Go.Proofs.YtjagjfmkfiikaaaDoor.X
