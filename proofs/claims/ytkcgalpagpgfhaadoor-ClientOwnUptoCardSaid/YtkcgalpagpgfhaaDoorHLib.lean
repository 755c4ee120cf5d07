/- The library's IndexByte, Cut at a separator of one byte, and Join, in the printer's form. -/
import Derived.Test.YtkcgalpagpgfhaaDoorX0
import Derived.Test.YtkcgalpagpgfhaaDoorShelf
import Derived.Test.YtkcgalpagpgfhaaDoorHSpec
import Derived.Lib.CutLaws
namespace Go.Proofs.YtkcgalpagpgfhaaDoor.X
open Go.RowKit Go.Proofs.YtkcgalpagpgfhaaDoorW.PrintWords Go.Proofs.YtkcgalpagpgfhaaDoorW.PrintLast Go.Proofs.YtkcgalpagpgfhaaDoorW.PrintMore Go.Proofs.YtkcgalpagpgfhaaDoor.Spec
set_option linter.unusedVariables false
set_option linter.unusedSimpArgs false

theorem drawn0_of_eq {w w' : World} (h : w' = w) : Drawn0 w w' := h ▸ Drawn0.refl w
theorem drawn0_of_n {w w' : World} (h : ∃ n, w' = w.drewN n) : Drawn0 w w' := ⟨h⟩

def strings_IndexByte.f (a0 : ByteArray) (a1 : Int) : Option Int := some (Lib.indexByte (bl a0) a1.toNat.toUInt8)
theorem strings_IndexByte.calls (a0 : ByteArray) (a1 : Int) (r : Int) (w : World) (h : strings_IndexByte.f a0 a1 = some r) :
    Calls Tryd.prog 49 #[.string a0, .int .u8 a1] w fun e w' => e = .returned (.int .i64 r) ∧ Drawn0 w w' := by
  obtain rfl := Option.some.inj h
  exact (Tryd.strings_IndexByte a0 a1 w).mono fun e w' ⟨he, hw⟩ => ⟨he, drawn0_of_eq hw⟩

set_option maxHeartbeats 2000000 in
set_option maxRecDepth 100000 in
theorem stringslite_Index_one (s : ByteArray) (c : UInt8) (w : World) :
    Calls Tryd.prog 60 #[.string s, .string ⟨#[c]⟩] w fun e w' => e = .returned (.int .i64 (Lib.indexByte s.data.toList c)) ∧ w' = w := by
  go_enter Tryd.func60, Tryd.ntmps60
  go_wp2_with (go_at_call 61; refine (Tryd.stringslite_IndexByte _ _ _).mono ?_; rintro e w' ⟨rfl, rfl⟩)
  · go_ret
    refine ⟨?_, rfl⟩
    have h : ([c] == s.toList) = true := by assumption
    have e : s.data.toList = [c] := by rw [← Lib.toList_data]; exact (beq_iff_eq.1 h).symm
    rw [e]
    simp [Lib.indexByte]
  · go_ret
    exact ⟨rfl, rfl⟩

theorem pre_extract (s : ByteArray) (c : UInt8) (hc : c ∈ bl s) : ba (pre c (bl s)) = s.extract 0 (pre c (bl s)).length := by
  apply bl_inj
  rw [bl_ba, show bl (s.extract 0 (pre c (bl s)).length) = (s.extract 0 (pre c (bl s)).length).data.toList from rfl, Lib.extract_eq]
  simp only [Nat.sub_zero, List.drop_zero]
  rw [show s.data.toList = bl s from rfl]
  conv => rhs; rw [show List.take (pre c (bl s)).length (bl s) = List.take (pre c (bl s)).length (pre c (bl s) ++ c :: post c (bl s)) from by rw [← pre_post hc]]
  simp
theorem post_extract (s : ByteArray) (c : UInt8) (hc : c ∈ bl s) : ba (post c (bl s)) = s.extract ((pre c (bl s)).length + 1) s.size := by
  have hp := congrArg List.length (pre_post hc)
  rw [List.length_append, List.length_cons, bl_length] at hp
  apply bl_inj
  rw [bl_ba, show bl (s.extract ((pre c (bl s)).length + 1) s.size) = (s.extract ((pre c (bl s)).length + 1) s.size).data.toList from rfl, Lib.extract_eq]
  rw [show s.data.toList = bl s from rfl]
  have : List.drop ((pre c (bl s)).length + 1) (bl s) = List.drop ((pre c (bl s)).length + 1) (pre c (bl s) ++ c :: post c (bl s)) := by rw [← pre_post hc]
  rw [this]
  simp
  rw [List.take_of_length_le (by omega)]

end Go.Proofs.YtkcgalpagpgfhaaDoor.X
