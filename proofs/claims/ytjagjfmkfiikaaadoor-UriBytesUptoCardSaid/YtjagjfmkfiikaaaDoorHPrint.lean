/- Ours: the parts of a URI as a text: what uri.Print and the reference's PrintURI answer. -/
import Derived.Test.YtjagjfmkfiikaaaDoorHRefA
import Derived.Test.YtjagjfmkfiikaaaDoorHBulkP
import Derived.Test.YtjagjfmkfiikaaaDoorHCutN
import Derived.Test.YtjagjfmkfiikaaaDoorX7
import Derived.Test.YtjagjfmkfiikaaaDoorX9
namespace Go.Proofs.YtjagjfmkfiikaaaDoor.X
open Go.RowKit Go.Proofs.YtjagjfmkfiikaaaDoorW.PrintWords Go.Proofs.YtjagjfmkfiikaaaDoor.Spec
set_option linter.unusedVariables false
set_option linter.unusedSimpArgs false

set_option maxRecDepth 100000 in
theorem answers_ok : Ev (fun k => exequaturlaw03_answers.f k) true :=
  Ev.of_mono (g := fun k => exequaturlaw03_answers.f k) (fun k => exequaturlaw03_answers.mono k) (K := 40) (by decide +kernel)

theorem bl_take (s : ByteArray) (n : Nat) : bl (s.extract 0 n) = (bl s).take n := by
  rw [show bl (s.extract 0 n) = (s.extract 0 n).data.toList from rfl, Lib.extract_eq]
  simp [bl]

/-! Print -/
def printS (a b c d : ByteArray) : ByteArray := ba (bl a ++ ([58, 47, 47] ++ (bl b ++ (bl c ++ if d.toList = [] then [] else 63 :: bl d))))
theorem z3 : (⟨#[58, 47, 47]⟩ : ByteArray).size = 3 := rfl
theorem z1 : (⟨#[63]⟩ : ByteArray).size = 1 := rfl
theorem print_f (a b c d : ByteArray) (hz : a.size + b.size + c.size + d.size ≤ 4611686018427387904) : uri_Print.f a b c d = some (printS a b c d) := by
  unfold uri_Print.f printS
  rw [if_pos (show a.size + 3 ≤ 9223372036854775807 by omega), if_pos (by simp only [size_app, z3]; omega), if_pos (by simp only [size_app, z3]; omega)]
  by_cases h : d.toList = ([] : List UInt8)
  · rw [if_pos h, if_pos h]
    refine congrArg some (bl_inj ?_)
    simp only [bl_append, bl_ba, show bl (⟨#[58, 47, 47]⟩ : ByteArray) = [58, 47, 47] from rfl]
    simp
  · rw [if_neg h, if_neg h, if_pos (by omega), if_pos (by simp only [size_app, z3, z1]; omega)]
    refine congrArg some (bl_inj ?_)
    simp only [bl_append, bl_ba, show bl (⟨#[58, 47, 47]⟩ : ByteArray) = [58, 47, 47] from rfl, show bl (⟨#[63]⟩ : ByteArray) = [63] from rfl]
    simp
theorem rprint_f (a b c d : ByteArray) (hz : a.size + b.size + c.size + d.size ≤ 4611686018427387904) : exequaturref01_PrintURI.f a b c d = some (printS a b c d) := by
  unfold exequaturref01_PrintURI.f printS
  rw [if_pos (show a.size + 3 ≤ 9223372036854775807 by omega), if_pos (by simp only [size_app, z3]; omega), if_pos (by simp only [size_app, z3]; omega)]
  by_cases h : d.toList = ([] : List UInt8)
  · rw [if_pos h, if_pos h]
    refine congrArg some (bl_inj ?_)
    simp only [bl_append, bl_ba, show bl (⟨#[58, 47, 47]⟩ : ByteArray) = [58, 47, 47] from rfl]
    simp
  · rw [if_neg h, if_neg h, if_pos (by simp only [size_app, z3]; omega), if_pos (by simp only [size_app, z3, z1]; omega)]
    refine congrArg some (bl_inj ?_)
    simp only [bl_append, bl_ba, show bl (⟨#[58, 47, 47]⟩ : ByteArray) = [58, 47, 47] from rfl, show bl (⟨#[63]⟩ : ByteArray) = [63] from rfl]
    simp
end Go.Proofs.YtjagjfmkfiikaaaDoor.X
