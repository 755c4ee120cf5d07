/- Ours: the plain law of RowSessions: printed by reads13.py. -/
import Derived.Test.YtkjheoilidpckaaDoorHRead
import Derived.Test.YtkjheoilidpckaaDoorX14
import Derived.Test.YtkjheoilidpckaaDoorX15
import Derived.Test.YtkjheoilidpckaaDoorX16
import Derived.Test.YtkjheoilidpckaaDoorX17
import Derived.Test.YtkjheoilidpckaaDoorX10
namespace Go.Proofs.YtkjheoilidpckaaDoor.X
open Go.RowKit Go.Proofs.YtkjheoilidpckaaDoorW.PrintWords Go.Proofs.YtkjheoilidpckaaDoor.Spec
set_option linter.unusedVariables false
set_option linter.unusedSimpArgs false
namespace RowSessions
def Ls (a0 : ByteArray) (a1 : ByteArray) (a2 : ByteArray) (a3 : ByteArray) (a4 : ByteArray) (a5 : ByteArray) (a6 : ByteArray) (a7 : Int) (a8 : ByteArray) (a9 : ByteArray) (a10 : ByteArray) (a11 : Int) : List ByteArray := [a0, a1, a2, a3, a4, a5, a6, ba (Lib.itoa a7), a8, a9, a10, ba (Lib.itoa a11)]
theorem prog_f (a0 : ByteArray) (a1 : ByteArray) (a2 : ByteArray) (a3 : ByteArray) (a4 : ByteArray) (a5 : ByteArray) (a6 : ByteArray) (a7 : Int) (a8 : ByteArray) (a9 : ByteArray) (a10 : ByteArray) (a11 : Int) (h70 : -9223372036854775808 ≤ a7) (h71 : a7 ≤ 9223372036854775807) (h110 : -9223372036854775808 ≤ a11) (h111 : a11 ≤ 9223372036854775807) (hs : (txL (Ls a0 a1 a2 a3 a4 a5 a6 a7 a8 a9 a10 a11)).length ≤ 1000000000) : row_Session.f a0 a1 a2 a3 a4 a5 a6 a7 a8 a9 a10 a11 = some (ba (txL (Ls a0 a1 a2 a3 a4 a5 a6 a7 a8 a9 a10 a11))) := by
  unfold row_Session.f
  rw [itoa_f a7 h70 h71]
  simp only [Option.bind_some]
  rw [itoa_f a11 h110 h111]
  simp only [Option.bind_some]
  rw [show row_Texts.f [a0, a1, a2, a3, a4, a5, a6, ba (Lib.itoa a7), a8, a9, a10, ba (Lib.itoa a11)] = some (ba (txL (Ls a0 a1 a2 a3 a4 a5 a6 a7 a8 a9 a10 a11))) from texts_of (Ls a0 a1 a2 a3 a4 a5 a6 a7 a8 a9 a10 a11) hs]
  rfl
theorem ref_f (a0 : ByteArray) (a1 : ByteArray) (a2 : ByteArray) (a3 : ByteArray) (a4 : ByteArray) (a5 : ByteArray) (a6 : ByteArray) (a7 : Int) (a8 : ByteArray) (a9 : ByteArray) (a10 : ByteArray) (a11 : Int) (h70 : -9223372036854775808 ≤ a7) (h71 : a7 ≤ 9223372036854775807) (h110 : -9223372036854775808 ≤ a11) (h111 : a11 ≤ 9223372036854775807) (hs : (txL (Ls a0 a1 a2 a3 a4 a5 a6 a7 a8 a9 a10 a11)).length ≤ 1000000000) : Ev (fun k => exequaturref13_Session.f k a0 a1 a2 a3 a4 a5 a6 a7 a8 a9 a10 a11) (ba (txL (Ls a0 a1 a2 a3 a4 a5 a6 a7 a8 a9 a10 a11))) := by
  unfold exequaturref13_Session.f
  refine Ev.bind (Ev.const (dec_int a7 h70 h71)) (Ev.bind (Ev.const (dec_int a11 h110 h111)) ?_)
  exact Ev.bind (ref_texts (Ls a0 a1 a2 a3 a4 a5 a6 a7 a8 a9 a10 a11) hs) (Ev.some _)
theorem read_f (a0 : ByteArray) (a1 : ByteArray) (a2 : ByteArray) (a3 : ByteArray) (a4 : ByteArray) (a5 : ByteArray) (a6 : ByteArray) (a7 : Int) (a8 : ByteArray) (a9 : ByteArray) (a10 : ByteArray) (a11 : Int) (h70 : -9223372036854775808 ≤ a7) (h71 : a7 ≤ 9223372036854775807) (h110 : -9223372036854775808 ≤ a11) (h111 : a11 ≤ 9223372036854775807) (hs : (txL (Ls a0 a1 a2 a3 a4 a5 a6 a7 a8 a9 a10 a11)).length ≤ 1000000000) : row_ReadSession.f (ba (txL (Ls a0 a1 a2 a3 a4 a5 a6 a7 a8 a9 a10 a11))) = some (a0, a1, a2, a3, a4, a5, a6, a7, a8, a9, a10, a11, 0) := by
  have hf : row_fields.f (ba (txL (Ls a0 a1 a2 a3 a4 a5 a6 a7 a8 a9 a10 a11))) 12 = some (Ls a0 a1 a2 a3 a4 a5 a6 a7 a8 a9 a10 a11, true) := by
    unfold row_fields.f
    rw [split_tx (Ls a0 a1 a2 a3 a4 a5 a6 a7 a8 a9 a10 a11) hs]
    rfl
  have hp := prog_f a0 a1 a2 a3 a4 a5 a6 a7 a8 a9 a10 a11 h70 h71 h110 h111 hs
  unfold row_ReadSession.f
  rw [hf, Option.bind_some, if_pos rfl]
  dsimp only
  have hl : (Ls a0 a1 a2 a3 a4 a5 a6 a7 a8 a9 a10 a11).length = 12 := rfl
  rw [hl]
  have e0 : rdOf ByteArray.empty (Ls a0 a1 a2 a3 a4 a5 a6 a7 a8 a9 a10 a11) 0 = a0 := rfl
  have e1 : rdOf ByteArray.empty (Ls a0 a1 a2 a3 a4 a5 a6 a7 a8 a9 a10 a11) 1 = a1 := rfl
  have e2 : rdOf ByteArray.empty (Ls a0 a1 a2 a3 a4 a5 a6 a7 a8 a9 a10 a11) 2 = a2 := rfl
  have e3 : rdOf ByteArray.empty (Ls a0 a1 a2 a3 a4 a5 a6 a7 a8 a9 a10 a11) 3 = a3 := rfl
  have e4 : rdOf ByteArray.empty (Ls a0 a1 a2 a3 a4 a5 a6 a7 a8 a9 a10 a11) 4 = a4 := rfl
  have e5 : rdOf ByteArray.empty (Ls a0 a1 a2 a3 a4 a5 a6 a7 a8 a9 a10 a11) 5 = a5 := rfl
  have e6 : rdOf ByteArray.empty (Ls a0 a1 a2 a3 a4 a5 a6 a7 a8 a9 a10 a11) 6 = a6 := rfl
  have e7 : rdOf ByteArray.empty (Ls a0 a1 a2 a3 a4 a5 a6 a7 a8 a9 a10 a11) 7 = ba (Lib.itoa a7) := rfl
  have e8 : rdOf ByteArray.empty (Ls a0 a1 a2 a3 a4 a5 a6 a7 a8 a9 a10 a11) 8 = a8 := rfl
  have e9 : rdOf ByteArray.empty (Ls a0 a1 a2 a3 a4 a5 a6 a7 a8 a9 a10 a11) 9 = a9 := rfl
  have e10 : rdOf ByteArray.empty (Ls a0 a1 a2 a3 a4 a5 a6 a7 a8 a9 a10 a11) 10 = a10 := rfl
  have e11 : rdOf ByteArray.empty (Ls a0 a1 a2 a3 a4 a5 a6 a7 a8 a9 a10 a11) 11 = ba (Lib.itoa a11) := rfl
  rw [e0, e1, e2, e3, e4, e5, e6, e7, e8, e9, e10, e11]
  simp only [number_itoa a7 h70 h71, number_itoa a11 h110 h111, Option.bind_some]
  repeat rw [if_pos (by decide)]
  rw [hp, Option.bind_some, if_pos rfl]
end RowSessions
open RowSessions
theorem pure_RowSessions (x0 : S41) (hb : (B41 (x0)) ≤ 1048576) (g0 : G41 (x0)) : ∃ k, exequaturlaw13_RowSessions.f k x0.f0 x0.f1 x0.f2 x0.f3 x0.f4 x0.f5 x0.f6 x0.f7 x0.f8 x0.f9 x0.f10 x0.f11 = some true := by
  obtain ⟨a0, a1, a2, a3, a4, a5, a6, a7, a8, a9, a10, a11⟩ := x0
  have g7 : (Lit.int .i64 a7).wf = true := g0.2.2.2.2.2.2.2.1
  obtain ⟨h70, h71⟩ := wf_i64 g7
  have g11 : (Lit.int .i64 a11).wf = true := g0.2.2.2.2.2.2.2.2.2.2.2
  obtain ⟨h110, h111⟩ := wf_i64 g11
  unfold B41 at hb
  dsimp only at hb ⊢
  have hz : (txL (Ls a0 a1 a2 a3 a4 a5 a6 a7 a8 a9 a10 a11)).length ≤ 1000000000 := by
    refine tx_le _ ?_
    have q : ∀ n : Int, (ba (Lib.itoa n)).size = (Lib.itoa n).length := fun n => size_ba _
    have q7 := Lib.itoa_length_le a7 h70 h71
    have q11 := Lib.itoa_length_le a11 h110 h111
    simp only [Ls, List.map_cons, List.map_nil, List.sum_cons, List.sum_nil, List.length_cons, List.length_nil, q]
    omega
  refine Ev.get (g := fun k => exequaturlaw13_RowSessions.f k a0 a1 a2 a3 a4 a5 a6 a7 a8 a9 a10 a11) ?_
  unfold exequaturlaw13_RowSessions.f
  refine Ev.bind (Ev.const (prog_f a0 a1 a2 a3 a4 a5 a6 a7 a8 a9 a10 a11 h70 h71 h110 h111 hz)) ?_
  by_cases h3 : ((ba (txL (Ls a0 a1 a2 a3 a4 a5 a6 a7 a8 a9 a10 a11))).size : Int) > 20000
  · exact Ev.if_pos h3 (Ev.bind (Ev.const answers_ok) (Ev.some _))
  · refine Ev.if_neg h3 (Ev.bind (Ev.const (read_f a0 a1 a2 a3 a4 a5 a6 a7 a8 a9 a10 a11 h70 h71 h110 h111 hz)) (Ev.bind (Ev.const answers_ok) (Ev.if_pos rfl (Ev.bind (ref_f a0 a1 a2 a3 a4 a5 a6 a7 a8 a9 a10 a11 h70 h71 h110 h111 hz) (Ev.if_pos rfl (Ev.if_pos rfl ((Ev.some _).uni ?_)))))))
    simp
end Go.Proofs.YtkjheoilidpckaaDoor.X
