/- Ours: the plain law of RowCodes: printed by reads13.py. -/
import Derived.Test.YtkjheoilidpckaaDoorHRead
import Derived.Test.YtkjheoilidpckaaDoorX11
import Derived.Test.YtkjheoilidpckaaDoorX12
import Derived.Test.YtkjheoilidpckaaDoorX13
import Derived.Test.YtkjheoilidpckaaDoorX10
namespace Go.Proofs.YtkjheoilidpckaaDoor.X
open Go.RowKit Go.Proofs.YtkjheoilidpckaaDoorW.PrintWords Go.Proofs.YtkjheoilidpckaaDoor.Spec
set_option linter.unusedVariables false
set_option linter.unusedSimpArgs false
namespace RowCodes
def Ls (a0 : ByteArray) (a1 : ByteArray) (a2 : ByteArray) (a3 : ByteArray) (a4 : ByteArray) (a5 : ByteArray) (a6 : ByteArray) (a7 : ByteArray) (a8 : ByteArray) (a9 : ByteArray) (a10 : ByteArray) (a11 : Int) (a12 : ByteArray) : List ByteArray := [a0, a1, a2, a3, a4, a5, a6, a7, a8, a9, a10, ba (Lib.itoa a11), a12]
theorem prog_f (a0 : ByteArray) (a1 : ByteArray) (a2 : ByteArray) (a3 : ByteArray) (a4 : ByteArray) (a5 : ByteArray) (a6 : ByteArray) (a7 : ByteArray) (a8 : ByteArray) (a9 : ByteArray) (a10 : ByteArray) (a11 : Int) (a12 : ByteArray) (h110 : -9223372036854775808 ≤ a11) (h111 : a11 ≤ 9223372036854775807) (hs : (txL (Ls a0 a1 a2 a3 a4 a5 a6 a7 a8 a9 a10 a11 a12)).length ≤ 1000000000) : row_Code.f a0 a1 a2 a3 a4 a5 a6 a7 a8 a9 a10 a11 a12 = some (ba (txL (Ls a0 a1 a2 a3 a4 a5 a6 a7 a8 a9 a10 a11 a12))) := by
  unfold row_Code.f
  rw [itoa_f a11 h110 h111]
  simp only [Option.bind_some]
  rw [show row_Texts.f [a0, a1, a2, a3, a4, a5, a6, a7, a8, a9, a10, ba (Lib.itoa a11), a12] = some (ba (txL (Ls a0 a1 a2 a3 a4 a5 a6 a7 a8 a9 a10 a11 a12))) from texts_of (Ls a0 a1 a2 a3 a4 a5 a6 a7 a8 a9 a10 a11 a12) hs]
  rfl
theorem ref_f (a0 : ByteArray) (a1 : ByteArray) (a2 : ByteArray) (a3 : ByteArray) (a4 : ByteArray) (a5 : ByteArray) (a6 : ByteArray) (a7 : ByteArray) (a8 : ByteArray) (a9 : ByteArray) (a10 : ByteArray) (a11 : Int) (a12 : ByteArray) (h110 : -9223372036854775808 ≤ a11) (h111 : a11 ≤ 9223372036854775807) (hs : (txL (Ls a0 a1 a2 a3 a4 a5 a6 a7 a8 a9 a10 a11 a12)).length ≤ 1000000000) : Ev (fun k => exequaturref13_Code.f k a0 a1 a2 a3 a4 a5 a6 a7 a8 a9 a10 a11 a12) (ba (txL (Ls a0 a1 a2 a3 a4 a5 a6 a7 a8 a9 a10 a11 a12))) := by
  unfold exequaturref13_Code.f
  refine Ev.bind (Ev.const (dec_int a11 h110 h111)) ?_
  exact Ev.bind (ref_texts (Ls a0 a1 a2 a3 a4 a5 a6 a7 a8 a9 a10 a11 a12) hs) (Ev.some _)
theorem read_f (a0 : ByteArray) (a1 : ByteArray) (a2 : ByteArray) (a3 : ByteArray) (a4 : ByteArray) (a5 : ByteArray) (a6 : ByteArray) (a7 : ByteArray) (a8 : ByteArray) (a9 : ByteArray) (a10 : ByteArray) (a11 : Int) (a12 : ByteArray) (h110 : -9223372036854775808 ≤ a11) (h111 : a11 ≤ 9223372036854775807) (hs : (txL (Ls a0 a1 a2 a3 a4 a5 a6 a7 a8 a9 a10 a11 a12)).length ≤ 1000000000) : row_ReadCode.f (ba (txL (Ls a0 a1 a2 a3 a4 a5 a6 a7 a8 a9 a10 a11 a12))) = some (a0, a1, a2, a3, a4, a5, a6, a7, a8, a9, a10, a11, a12, 0) := by
  have hf : row_fields.f (ba (txL (Ls a0 a1 a2 a3 a4 a5 a6 a7 a8 a9 a10 a11 a12))) 13 = some (Ls a0 a1 a2 a3 a4 a5 a6 a7 a8 a9 a10 a11 a12, true) := by
    unfold row_fields.f
    rw [split_tx (Ls a0 a1 a2 a3 a4 a5 a6 a7 a8 a9 a10 a11 a12) hs]
    rfl
  have hp := prog_f a0 a1 a2 a3 a4 a5 a6 a7 a8 a9 a10 a11 a12 h110 h111 hs
  unfold row_ReadCode.f
  rw [hf, Option.bind_some, if_pos rfl]
  dsimp only
  have hl : (Ls a0 a1 a2 a3 a4 a5 a6 a7 a8 a9 a10 a11 a12).length = 13 := rfl
  rw [hl]
  have e0 : rdOf ByteArray.empty (Ls a0 a1 a2 a3 a4 a5 a6 a7 a8 a9 a10 a11 a12) 0 = a0 := rfl
  have e1 : rdOf ByteArray.empty (Ls a0 a1 a2 a3 a4 a5 a6 a7 a8 a9 a10 a11 a12) 1 = a1 := rfl
  have e2 : rdOf ByteArray.empty (Ls a0 a1 a2 a3 a4 a5 a6 a7 a8 a9 a10 a11 a12) 2 = a2 := rfl
  have e3 : rdOf ByteArray.empty (Ls a0 a1 a2 a3 a4 a5 a6 a7 a8 a9 a10 a11 a12) 3 = a3 := rfl
  have e4 : rdOf ByteArray.empty (Ls a0 a1 a2 a3 a4 a5 a6 a7 a8 a9 a10 a11 a12) 4 = a4 := rfl
  have e5 : rdOf ByteArray.empty (Ls a0 a1 a2 a3 a4 a5 a6 a7 a8 a9 a10 a11 a12) 5 = a5 := rfl
  have e6 : rdOf ByteArray.empty (Ls a0 a1 a2 a3 a4 a5 a6 a7 a8 a9 a10 a11 a12) 6 = a6 := rfl
  have e7 : rdOf ByteArray.empty (Ls a0 a1 a2 a3 a4 a5 a6 a7 a8 a9 a10 a11 a12) 7 = a7 := rfl
  have e8 : rdOf ByteArray.empty (Ls a0 a1 a2 a3 a4 a5 a6 a7 a8 a9 a10 a11 a12) 8 = a8 := rfl
  have e9 : rdOf ByteArray.empty (Ls a0 a1 a2 a3 a4 a5 a6 a7 a8 a9 a10 a11 a12) 9 = a9 := rfl
  have e10 : rdOf ByteArray.empty (Ls a0 a1 a2 a3 a4 a5 a6 a7 a8 a9 a10 a11 a12) 10 = a10 := rfl
  have e11 : rdOf ByteArray.empty (Ls a0 a1 a2 a3 a4 a5 a6 a7 a8 a9 a10 a11 a12) 11 = ba (Lib.itoa a11) := rfl
  have e12 : rdOf ByteArray.empty (Ls a0 a1 a2 a3 a4 a5 a6 a7 a8 a9 a10 a11 a12) 12 = a12 := rfl
  rw [e0, e1, e2, e3, e4, e5, e6, e7, e8, e9, e10, e11, e12]
  simp only [number_itoa a11 h110 h111, Option.bind_some]
  repeat rw [if_pos (by decide)]
  rw [hp, Option.bind_some, if_pos rfl]
end RowCodes
open RowCodes
theorem pure_RowCodes (x0 : S35) (hb : (B35 (x0)) ≤ 1048576) (g0 : G35 (x0)) : ∃ k, exequaturlaw13_RowCodes.f k x0.f0 x0.f1 x0.f2 x0.f3 x0.f4 x0.f5 x0.f6 x0.f7 x0.f8 x0.f9 x0.f10 x0.f11 x0.f12 = some true := by
  obtain ⟨a0, a1, a2, a3, a4, a5, a6, a7, a8, a9, a10, a11, a12⟩ := x0
  have g11 : (Lit.int .i64 a11).wf = true := g0.2.2.2.2.2.2.2.2.2.2.2.1
  obtain ⟨h110, h111⟩ := wf_i64 g11
  unfold B35 at hb
  dsimp only at hb ⊢
  have hz : (txL (Ls a0 a1 a2 a3 a4 a5 a6 a7 a8 a9 a10 a11 a12)).length ≤ 1000000000 := by
    refine tx_le _ ?_
    have q : ∀ n : Int, (ba (Lib.itoa n)).size = (Lib.itoa n).length := fun n => size_ba _
    have q11 := Lib.itoa_length_le a11 h110 h111
    simp only [Ls, List.map_cons, List.map_nil, List.sum_cons, List.sum_nil, List.length_cons, List.length_nil, q]
    omega
  refine Ev.get (g := fun k => exequaturlaw13_RowCodes.f k a0 a1 a2 a3 a4 a5 a6 a7 a8 a9 a10 a11 a12) ?_
  unfold exequaturlaw13_RowCodes.f
  refine Ev.bind (Ev.const (prog_f a0 a1 a2 a3 a4 a5 a6 a7 a8 a9 a10 a11 a12 h110 h111 hz)) ?_
  by_cases h3 : ((ba (txL (Ls a0 a1 a2 a3 a4 a5 a6 a7 a8 a9 a10 a11 a12))).size : Int) > 20000
  · exact Ev.if_pos h3 (Ev.bind (Ev.const answers_ok) (Ev.some _))
  · refine Ev.if_neg h3 (Ev.bind (Ev.const (read_f a0 a1 a2 a3 a4 a5 a6 a7 a8 a9 a10 a11 a12 h110 h111 hz)) (Ev.bind (Ev.const answers_ok) (Ev.if_pos rfl (Ev.bind (ref_f a0 a1 a2 a3 a4 a5 a6 a7 a8 a9 a10 a11 a12 h110 h111 hz) (Ev.if_pos rfl (Ev.if_pos rfl ((Ev.some _).uni ?_)))))))
    simp
end Go.Proofs.YtkjheoilidpckaaDoor.X
