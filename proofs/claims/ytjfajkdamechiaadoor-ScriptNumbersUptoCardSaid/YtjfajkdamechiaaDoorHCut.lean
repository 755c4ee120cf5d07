/- The library's Cut at a separator of one byte, in the printer's form. -/
import Derived.Test.YtjfajkdamechiaaDoorHLib
namespace Go.Proofs.YtjfajkdamechiaaDoor.X
open Go.RowKit Go.Proofs.YtjfajkdamechiaaDoorW.PrintWords Go.Proofs.YtjfajkdamechiaaDoorW.PrintLast Go.Proofs.YtjfajkdamechiaaDoorW.PrintMore Go.Proofs.YtjfajkdamechiaaDoor.Spec
set_option linter.unusedVariables false
set_option linter.unusedSimpArgs false
def strings_Cut.f (a0 a1 : ByteArray) : Option (ByteArray × ByteArray × Bool) :=
  match bl a1 with
  | [c] => if a0.size ≤ 140737488355328 then some (ba (pre c (bl a0)), ba (post c (bl a0)), decide (c ∈ bl a0)) else none
  | _ => none
set_option maxHeartbeats 2000000 in
set_option maxRecDepth 100000 in
theorem stringslite_Cut_one (s : ByteArray) (c : UInt8) (w : World) (hs : s.size ≤ 140737488355328) :
    Calls Tryd.prog 25 #[.string s, .string ⟨#[c]⟩] w fun e w' => e = .returned (.tuple #[.string (ba (pre c (bl s))), .string (ba (post c (bl s))), .bool (decide (c ∈ bl s))]) ∧ Drawn0 w w' := by
  by_cases hc : c ∈ bl s
  · have hi : Lib.indexByte s.data.toList c = ((pre c (bl s)).length : Int) := by
      rw [show s.data.toList = bl s from rfl, indexByte_eq, if_pos hc]
    have hp := congrArg List.length (pre_post hc)
    rw [List.length_append, List.length_cons, bl_length] at hp
    have e1 := pre_extract s c hc
    have e2 := post_extract s c hc
    rw [e1, e2]
    generalize hi' : (pre c (bl s)).length = i at *
    have c1 : (0 : Int) ≤ ↑i := by omega
    have c2 : (↑i : Int) ≤ ↑s.size := by omega
    have c3 : (0 : Int) ≤ ↑i + 1 := by omega
    have c4 : (↑i + 1 : Int) ≤ ↑s.size := by omega
    have hd : decide (c ∈ bl s) = true := decide_eq_true hc
    rw [hd]
    have HI := Aside0.mk hi
    clear hp e1 e2 hi hi' hd hc
    go_enter Tryd.func25, Tryd.ntmps25
    go_wp2_with (go_at_call 36; refine (stringslite_Index_one _ _ _).mono ?_; rintro e w' ⟨rfl, rfl⟩; rw [HI.out])
    go_region
    go_wp2
    go_ret3
    exact ⟨rfl, ⟨1, rfl⟩⟩
  · have hi : Lib.indexByte s.data.toList c = -1 := by
      rw [show s.data.toList = bl s from rfl, indexByte_eq, if_neg hc]
    rw [pre_of_not_mem hc, post_of_not_mem hc, ba_bl, decide_eq_false hc]
    have HI := Aside0.mk hi
    clear hi hc
    go_enter Tryd.func25, Tryd.ntmps25
    go_wp2_with (go_at_call 36; refine (stringslite_Index_one _ _ _).mono ?_; rintro e w' ⟨rfl, rfl⟩; rw [HI.out])
    go_ret3
    exact ⟨rfl, Drawn0.refl _⟩
theorem strings_Cut.calls (a0 : ByteArray) (a1 : ByteArray) (r1 : ByteArray) (r2 : ByteArray) (r3 : Bool) (w : World) (h : strings_Cut.f a0 a1 = some (r1, r2, r3)) :
    Calls Tryd.prog 17 #[.string a0, .string a1] w fun e w' => e = .returned (.tuple #[.string r1, .string r2, .bool r3]) ∧ Drawn0 w w' := by
  unfold strings_Cut.f at h
  split at h
  · rename_i c hc
    split at h
    case isFalse => cases h
    rename_i hs
    simp only [Option.some.injEq, Prod.mk.injEq] at h
    obtain ⟨rfl, rfl, rfl⟩ := h
    obtain rfl : a1 = ⟨#[c]⟩ := bl_inj (by rw [hc]; rfl)
    go_enter Tryd.func17, Tryd.ntmps17
    go_wp2_with (go_at_call 25; refine (stringslite_Cut_one _ _ _ hs).mono ?_; rintro e w' ⟨rfl, hd⟩)
    go_ret3
    exact ⟨rfl, by assumption⟩
  · cases h

end Go.Proofs.YtjfajkdamechiaaDoor.X
