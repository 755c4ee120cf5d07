/- The library's Cut at whatever separator, in the printer's form, where the world's MaxLen is a number; and Trim at an ASCII set. -/
import Derived.Test.YtkcgalpagpgfhaaDoorHGokD
import Derived.Shelf.Strings.SlTrimAscii
import Derived.Shelf.Strings.Shaped
namespace Go.Proofs.YtkcgalpagpgfhaaDoor.X
open Go.RowKit Go.Proofs.YtkcgalpagpgfhaaDoorW.PrintWords Go.Proofs.YtkcgalpagpgfhaaDoorW.PrintLast Go.Proofs.YtkcgalpagpgfhaaDoorW.PrintMore Go.Proofs.YtkcgalpagpgfhaaDoor.Spec
set_option linter.unusedVariables false
set_option linter.unusedSimpArgs false

theorem cut_one (l : List UInt8) (c : UInt8) : Lib.cut l [c] = (pre c l, post c l, decide (c ∈ l)) := by
  unfold Lib.cut
  rw [indexByte_index, indexByte_eq]
  by_cases h : c ∈ l
  · rw [if_pos h, if_pos (by omega), decide_eq_true h]
    have hp := pre_post h
    have e : ((((pre c l).length : Nat) : Int)).toNat = (pre c l).length := by omega
    rw [e]
    have h1 : l.take (pre c l).length = pre c l := by
      have := congrArg (List.take (pre c l).length) hp
      rw [this, List.take_left]
    have h2 : l.drop ((pre c l).length + 1) = post c l := by
      have := congrArg (List.drop ((pre c l).length + 1)) hp
      rw [this, show (pre c l).length + 1 = (pre c l ++ [c]).length from by simp, show pre c l ++ c :: post c l = (pre c l ++ [c]) ++ post c l from by simp, List.drop_left]
    rw [h1]
    simp only [List.length_cons, List.length_nil, Nat.zero_add]
    rw [h2]
  · rw [if_neg h, if_neg (by omega), decide_eq_false h, pre_of_not_mem h, post_of_not_mem h]

def strings_Cut.f (a0 a1 : ByteArray) : Option (ByteArray × ByteArray × Bool) :=
  if a0.size < 4294967281 then some (ba (Lib.cut (bl a0) (bl a1)).1, ba (Lib.cut (bl a0) (bl a1)).2.1, (Lib.cut (bl a0) (bl a1)).2.2) else none
theorem strings_Cut.calls (a0 : ByteArray) (a1 : ByteArray) (r1 : ByteArray) (r2 : ByteArray) (r3 : Bool) (w : World) (h : strings_Cut.f a0 a1 = some (r1, r2, r3)) (hG : GOK w := by first | assumption | exact hG | exact GOK.drewN _ hG | exact GOK.below hG (by repeat (first | (with_reducible first | exact HB.out | apply below_alloc | apply pw_below_drewN | apply below_drew1 | refine below_set ?_ (Aside0.out (by assumption))) | exact HB.out))) :
    Calls Tryd.prog 40 #[.string a0, .string a1] w fun e w' => e = .returned (.tuple #[.string r1, .string r2, .bool r3]) ∧ Drawn0 w w' := by
  unfold strings_Cut.f at h
  split at h
  case isFalse => cases h
  rename_i hs
  simp only [Option.some.injEq, Prod.mk.injEq] at h
  obtain ⟨rfl, rfl, rfl⟩ := h
  obtain ⟨m, hm⟩ := hG.maxLen
  exact (Tryd.strings_Cut a0 a1 m w hs hm).mono fun e w' ⟨he, hw⟩ => ⟨he, drawn0_of_n hw⟩

def strings_Trim.f (a0 a1 : ByteArray) : Option ByteArray :=
  if a0.size ≤ 9223372036854775807 ∧ a1.size < 4294967281 ∧ (bl a1).all (fun b => decide (b.toNat < 128)) = true then some (ba (Lib.trimS (bl a0) (bl a1))) else none
theorem strings_Trim.calls (a0 : ByteArray) (a1 : ByteArray) (r : ByteArray) (w : World) (h : strings_Trim.f a0 a1 = some r) :
    Calls Tryd.prog 42 #[.string a0, .string a1] w fun e w' => e = .returned (.string r) ∧ Below w.heap.size w w' := by
  unfold strings_Trim.f at h
  split at h
  case isFalse => cases h
  rename_i hs
  obtain rfl := Option.some.inj h
  exact Any.strings_Trim_laid Tryd.lays160 (by kernel_rfl) a0 a1 w hs.1 hs.2.1 (ascii_of_all hs.2.2)
end Go.Proofs.YtkcgalpagpgfhaaDoor.X
