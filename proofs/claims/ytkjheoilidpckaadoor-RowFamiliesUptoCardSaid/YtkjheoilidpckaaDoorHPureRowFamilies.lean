/- Ours: the plain law of RowFamilies. -/
import Derived.Test.YtkjheoilidpckaaDoorHTexts
import Derived.Test.YtkjheoilidpckaaDoorHSlc
import Derived.Test.YtkjheoilidpckaaDoorHFamC
import Derived.Test.YtkjheoilidpckaaDoorX23
import Derived.Test.YtkjheoilidpckaaDoorX24
import Derived.Test.YtkjheoilidpckaaDoorX25
import Derived.Test.YtkjheoilidpckaaDoorX13
import Derived.Test.YtkjheoilidpckaaDoorX21
namespace Go.Proofs.YtkjheoilidpckaaDoor.X
open Go.RowKit Go.Proofs.YtkjheoilidpckaaDoorW.PrintWords Go.Proofs.YtkjheoilidpckaaDoor.Spec
set_option linter.unusedVariables false
set_option linter.unusedSimpArgs false
namespace RowFamilies
def fl (b : Bool) : ByteArray := if b = true then ⟨#[49]⟩ else ⟨#[48]⟩
def Ls (a0 a1 a2 a3 a4 a5 a6 a7 a8 a9 : ByteArray) (b : Bool) (old : List ByteArray) : List ByteArray := a0 :: a1 :: a2 :: a3 :: a4 :: a5 :: a6 :: a7 :: a8 :: a9 :: fl b :: old
variable (a0 a1 a2 a3 a4 a5 a6 a7 a8 a9 : ByteArray) (b : Bool) (old : List ByteArray)
theorem flag_f : row_flag.f b = some (fl b) := by cases b <;> rfl
theorem rflag_f : exequaturref13_flag.f b = some (fl b) := by cases b <;> rfl
theorem prog_f (hs : (txL (Ls a0 a1 a2 a3 a4 a5 a6 a7 a8 a9 b old)).length ≤ 100000000) :
    row_FamilyC.f a0 a1 a2 a3 a4 a5 a6 a7 a8 a9 old b = some (ba (txL (Ls a0 a1 a2 a3 a4 a5 a6 a7 a8 a9 b old))) := by
  have hc := tx_count (Ls a0 a1 a2 a3 a4 a5 a6 a7 a8 a9 b old)
  have hcat : slices_Concat_string_string.f [[a0, a1, a2, a3, a4, a5, a6, a7, a8, a9, fl b], old] = some (Ls a0 a1 a2 a3 a4 a5 a6 a7 a8 a9 b old) := by
    have e : ([[a0, a1, a2, a3, a4, a5, a6, a7, a8, a9, fl b], old] : List (List ByteArray)).flatten = Ls a0 a1 a2 a3 a4 a5 a6 a7 a8 a9 b old := by simp [Ls]
    unfold slices_Concat_string_string.f
    rw [e, if_pos ⟨by omega, by simp⟩]
  unfold row_FamilyC.f row_Family.f
  rw [flag_f, Option.bind_some, hcat, Option.bind_some, texts_of _ (by omega)]
  rfl
theorem ref_f (hs : (txL (Ls a0 a1 a2 a3 a4 a5 a6 a7 a8 a9 b old)).length ≤ 100000000) :
    Ev (fun k => exequaturref13_Family.f k a0 a1 a2 a3 a4 a5 a6 a7 a8 a9 old b) (ba (txL (Ls a0 a1 a2 a3 a4 a5 a6 a7 a8 a9 b old))) := by
  have hc := tx_count (Ls a0 a1 a2 a3 a4 a5 a6 a7 a8 a9 b old)
  have hl : (Ls a0 a1 a2 a3 a4 a5 a6 a7 a8 a9 b old).length = 11 + old.length := by simp only [Ls, List.length_cons]; omega
  unfold exequaturref13_Family.f
  refine Ev.bind (Ev.const (rflag_f b)) (Ev.bind (Ev.some _) (Ev.if_pos ?_ ?_))
  · simp only [List.length_cons, List.length_nil]; omega
  · exact Ev.bind (ref_texts (Ls a0 a1 a2 a3 a4 a5 a6 a7 a8 a9 b old) (by omega)) (Ev.some _)
theorem read_f (hs : (txL (Ls a0 a1 a2 a3 a4 a5 a6 a7 a8 a9 b old)).length ≤ 100000000) :
    row_ReadFamily.f (ba (txL (Ls a0 a1 a2 a3 a4 a5 a6 a7 a8 a9 b old))) = some (a0, a1, a2, a3, a4, a5, a6, a7, a8, a9, old, b, 0) := by
  have hc := tx_count (Ls a0 a1 a2 a3 a4 a5 a6 a7 a8 a9 b old)
  have hl : (Ls a0 a1 a2 a3 a4 a5 a6 a7 a8 a9 b old).length = 11 + old.length := by simp only [Ls, List.length_cons]; omega
  have hf : row_fields.f (ba (txL (Ls a0 a1 a2 a3 a4 a5 a6 a7 a8 a9 b old))) 11 = some (Ls a0 a1 a2 a3 a4 a5 a6 a7 a8 a9 b old, true) := by
    unfold row_fields.f
    rw [split_tx _ (by omega), Option.bind_some, if_pos rfl, hl]
    simp; omega
  have hp := prog_f a0 a1 a2 a3 a4 a5 a6 a7 a8 a9 b old hs
  have hcl : slices_Clone_string_string.f old = some old := by
    unfold slices_Clone_string_string.f
    rw [if_pos (by omega)]
  have hd : (Ls a0 a1 a2 a3 a4 a5 a6 a7 a8 a9 b old).drop 11 = old := rfl
  have e0 : rdOf ByteArray.empty (Ls a0 a1 a2 a3 a4 a5 a6 a7 a8 a9 b old) 0 = a0 := rfl
  have e1 : rdOf ByteArray.empty (Ls a0 a1 a2 a3 a4 a5 a6 a7 a8 a9 b old) 1 = a1 := rfl
  have e2 : rdOf ByteArray.empty (Ls a0 a1 a2 a3 a4 a5 a6 a7 a8 a9 b old) 2 = a2 := rfl
  have e3 : rdOf ByteArray.empty (Ls a0 a1 a2 a3 a4 a5 a6 a7 a8 a9 b old) 3 = a3 := rfl
  have e4 : rdOf ByteArray.empty (Ls a0 a1 a2 a3 a4 a5 a6 a7 a8 a9 b old) 4 = a4 := rfl
  have e5 : rdOf ByteArray.empty (Ls a0 a1 a2 a3 a4 a5 a6 a7 a8 a9 b old) 5 = a5 := rfl
  have e6 : rdOf ByteArray.empty (Ls a0 a1 a2 a3 a4 a5 a6 a7 a8 a9 b old) 6 = a6 := rfl
  have e7 : rdOf ByteArray.empty (Ls a0 a1 a2 a3 a4 a5 a6 a7 a8 a9 b old) 7 = a7 := rfl
  have e8 : rdOf ByteArray.empty (Ls a0 a1 a2 a3 a4 a5 a6 a7 a8 a9 b old) 8 = a8 := rfl
  have e9 : rdOf ByteArray.empty (Ls a0 a1 a2 a3 a4 a5 a6 a7 a8 a9 b old) 9 = a9 := rfl
  have e10 : rdOf ByteArray.empty (Ls a0 a1 a2 a3 a4 a5 a6 a7 a8 a9 b old) 10 = fl b := rfl
  have eb : ((fl b).toList == ([49] : List UInt8)) = b := by cases b <;> rw [toList_bl] <;> rfl
  unfold row_ReadFamily.f
  rw [hf, Option.bind_some, if_pos rfl]
  dsimp only
  rw [hl, hd, e0, e1, e2, e3, e4, e5, e6, e7, e8, e9, e10, eb]
  repeat rw [if_pos (by omega)]
  rw [hcl, Option.bind_some, show slices_Clip_string_string.f old = some old from rfl, Option.bind_some, hp, Option.bind_some, if_pos rfl]
end RowFamilies
open RowFamilies
theorem pure_RowFamilies (x0 : S47) (hb : (B47 (x0)) ≤ 1048576) (g0 : G47 (x0)) : ∃ k, exequaturlaw13_RowFamilies.f k x0.f0 x0.f1 x0.f2 x0.f3 x0.f4 x0.f5 x0.f6 x0.f7 x0.f8 x0.f9 x0.f10 x0.f11 = some true := by
  obtain ⟨a0, a1, a2, a3, a4, a5, a6, a7, a8, a9, old, b⟩ := x0
  unfold B47 at hb
  unfold B22 at hb
  dsimp only at hb ⊢
  have hz : (txL (Ls a0 a1 a2 a3 a4 a5 a6 a7 a8 a9 b old)).length ≤ 100000000 := by
    have h2 := txL_len (Ls a0 a1 a2 a3 a4 a5 a6 a7 a8 a9 b old) (fun x hx => by
      have hm := mem_le old
      have hf : (fl b).size = 1 := by cases b <;> rfl
      simp only [Ls, List.mem_cons] at hx
      rcases hx with rfl | rfl | rfl | rfl | rfl | rfl | rfl | rfl | rfl | rfl | rfl | hx
      case inr.inr.inr.inr.inr.inr.inr.inr.inr.inr.inr => have := hm x hx; omega
      all_goals omega)
    have h3 : (old.map fun x => x.size + 22).sum ≤ 22 * (old.map fun x => x.size + 1).sum := by
      clear h2 hb g0
      induction old with
      | nil => simp
      | cons x r ih => simp only [List.map_cons, List.sum_cons]; omega
    have hf : (fl b).size = 1 := by cases b <;> rfl
    simp only [Ls, List.map_cons, List.sum_cons] at h2
    unfold Ls
    omega
  refine Ev.get (g := fun k => exequaturlaw13_RowFamilies.f k a0 a1 a2 a3 a4 a5 a6 a7 a8 a9 old b) ?_
  unfold exequaturlaw13_RowFamilies.f
  refine Ev.bind (Ev.const (prog_f a0 a1 a2 a3 a4 a5 a6 a7 a8 a9 b old hz)) ?_
  by_cases h3 : ((ba (txL (Ls a0 a1 a2 a3 a4 a5 a6 a7 a8 a9 b old))).size : Int) > 20000
  · exact Ev.if_pos h3 (Ev.bind (Ev.const answers_ok) (Ev.some _))
  · have hF : Ev (fun k => exequaturref13_Families.f k a0 a1 a2 a3 a4 a5 a6 a7 a8 a9 old b a0 a1 a2 a3 a4 a5 a6 a7 a8 a9 old b) true := by
      unfold exequaturref13_Families.f
      refine Ev.bind (ref_f a0 a1 a2 a3 a4 a5 a6 a7 a8 a9 b old hz) (Ev.bind (ref_f a0 a1 a2 a3 a4 a5 a6 a7 a8 a9 b old hz) ((Ev.some _).uni ?_))
      simp
    have hold : old.length ≤ 1048576 := by have := len_le old; omega
    have hS := same_eq old old hold
    rw [decide_eq_true (rfl : old = old)] at hS
    refine Ev.if_neg h3 (Ev.bind (Ev.const (read_f a0 a1 a2 a3 a4 a5 a6 a7 a8 a9 b old hz)) (Ev.bind (Ev.const answers_ok) (Ev.if_pos rfl (Ev.bind (ref_f a0 a1 a2 a3 a4 a5 a6 a7 a8 a9 b old hz) (Ev.if_pos rfl (Ev.if_pos rfl (Ev.bind hF (Ev.if_pos rfl (Ev.bind hS (Ev.if_pos rfl ((Ev.some _).uni ?_)))))))))))
    simp
end Go.Proofs.YtkjheoilidpckaaDoor.X
