-- Lean text made by xprint.py (ours) out of the seat's translation. Lean checks it.
import Derived.Test.YtkjheoilidpckaaDoorX0
namespace Go.Proofs.YtkjheoilidpckaaDoor.X
open Go.RowKit Go.Proofs.YtkjheoilidpckaaDoorW.PrintWords Go.Proofs.YtkjheoilidpckaaDoorW.PrintLast Go.Proofs.YtkjheoilidpckaaDoorW.PrintMore
attribute [local go_sem] max2_int min2_int max_two min_two max_three min_three max_four min_four   -- for this text's walks alone
set_option linter.unusedVariables false
set_option linter.unusedSimpArgs false

/-! ### exequaturlaw13_few: function 10 -/
def exequaturlaw13_few.l0 : Nat → List ByteArray → Int → Int → Option (Bool)
  | 0, _, _, _ => none
  | k + 1, x0, x3, x4 => if x4 < (x0.length : Int) then (if x3 < 10000 then (if 0 ≤ x4 then (exequaturlaw13_few.l0 k x0 (wrap64 (x3 + ((rdOf ByteArray.empty x0 x4).size : Int))) (wrap64 (x4 + 1))) else (none)) else (some (decide (x3 < 10000)))) else (some (decide (x3 < 10000)))
def exequaturlaw13_few.f (k : Nat) (l0 : List ByteArray) : Option (Bool) := exequaturlaw13_few.l0 k l0 (l0.length : Int) 0
theorem exequaturlaw13_few.mono_l : ∀ k, (∀ y0 y1 y2, LeO (exequaturlaw13_few.l0 k y0 y1 y2) (exequaturlaw13_few.l0 (k + 1) y0 y1 y2))
  | 0 => fun _ _ _ r h => by simp [exequaturlaw13_few.l0] at h
  | k + 1 => by
    have ih0 := exequaturlaw13_few.mono_l k
    · intro y0 y1 y2
      unfold exequaturlaw13_few.l0
      repeat' first
      | (with_reducible exact ih0 _ _ _)
      | (with_reducible exact LeO.refl _)
      | (with_reducible exact LeO.none _)
      | (with_reducible refine LeO.ite ?_ ?_)
      | (with_reducible refine LeO.bind ?_ (fun _ => ?_))
      | exact ih0 _ _ _
      | exact LeO.none _
      | refine LeO.ite ?_ ?_
      | refine LeO.bind ?_ (fun _ => ?_)
theorem exequaturlaw13_few.mono : ∀ a0 k, LeO (exequaturlaw13_few.f k a0) (exequaturlaw13_few.f (k + 1) a0) := by
  intro a0 k
  have ih0 := exequaturlaw13_few.mono_l k
  unfold exequaturlaw13_few.f
  repeat' first
      | (with_reducible exact ih0 _ _ _)
      | (with_reducible exact LeO.refl _)
      | (with_reducible exact LeO.none _)
      | (with_reducible refine LeO.ite ?_ ?_)
      | (with_reducible refine LeO.bind ?_ (fun _ => ?_))
      | exact ih0 _ _ _
      | exact LeO.none _
      | refine LeO.ite ?_ ?_
      | refine LeO.bind ?_ (fun _ => ?_)
set_option maxHeartbeats 8000000 in
set_option maxRecDepth 100000 in
theorem exequaturlaw13_few.calls (k : Nat) (A0 : Option Addr) (c0 : Nat) (l0 : List ByteArray) (r : Bool) (w : World) (hr0 : Kd.C Kd.string w A0 l0.length l0) (hc0 : l0.length ≤ c0) (h : exequaturlaw13_few.f k l0 = some r) :
  Calls Tryd.prog 10 #[.slice A0 l0.length c0] w fun e w' => e = .returned (.bool r) ∧ Drawn0 w w' := by
 have HR0 := Aside0.mk hr0
 have HC0 := Aside0.mk hc0
 clear hr0 hc0
 have H : (exequaturlaw13_few.l0 k l0 (l0.length : Int) 0) = some r := h
 clear h
 have H' := Aside0.mk H
 clear H
 go_enter Tryd.func10, Tryd.ntmps10
 go_wp2
 go_loopg [3, 4] k (fun kq v3 v4 w' => ∃ (x3_1 : Int) (x4_1 : Int), v3 = .int .i64 x3_1 ∧ v4 = .int .i64 x4_1 ∧ Aside0 (exequaturlaw13_few.l0 kq l0 x3_1 x4_1 = some r) ∧ Aside0 (kq ≤ k) ∧ Drawn0 w w')
 case atStart => exact ⟨((l0.length : Int)), (0), (by first | rfl | (simp; done) | (simp [*]; done) | (refine congrArg Value.bool ?_; rw [Bool.eq_iff_iff]; simp; done)), (by first | rfl | (simp; done) | (simp [*]; done) | (refine congrArg Value.bool ?_; rw [Bool.eq_iff_iff]; simp; done)), H', ⟨Nat.le_refl _⟩, by repeat (first | exact Drawn0.refl _ | apply Drawn0.step)⟩
 case round =>
  clear H'
  try clear c1
  obtain ⟨x3_1, x4_1, rfl, rfl, HA, HK1, ⟨m1, rfl⟩⟩ := hrel
  cases gk with
  | zero => exact absurd HA.out (by simp [exequaturlaw13_few.l0])
  | succ k1 =>
   have H := HA.out
   clear HA
   simp only [exequaturlaw13_few.l0] at H
   by_cases c2 : x4_1 < (l0.length : Int)
   ·rw [if_pos c2] at H
    have c2b0 : decide (x4_1 < (l0.length : Int)) = true := decide_eq_true c2
    clear c2
    by_cases c3 : x3_1 < 10000
    ·rw [if_pos c3] at H
     have c3b0 : decide (x3_1 < 10000) = true := decide_eq_true c3
     clear c3
     by_cases c4 : 0 ≤ x4_1
     rotate_left
     ·rw [if_neg c4] at H; exact absurd H (by simp)
     rw [if_pos c4] at H
     have c4b0 : decide (0 ≤ x4_1) = true := decide_eq_true c4
     clear c4
     have H' := Aside0.mk H
     clear H
     have p101 : 0 ≤ (x4_1 : Int) := of_decide_eq_true (by first | (with_reducible assumption) | assumption)
     have q101 : x4_1 < (l0.length : Int) := of_decide_eq_true (by first | (with_reducible assumption) | assumption)
     obtain ⟨ad101, e101, hx101_0⟩ := Kd.at_string HR0.out x4_1 p101 q101
     cases e101
     replace p101 := eq_true p101
     replace q101 := eq_true q101
     go_wp2
     go_roundg k1
     case measure => have := HK1.out; omega
     case rel => exact ⟨(wrap64 (x3_1 + ((rdOf ByteArray.empty l0 x4_1).size : Int))), (wrap64 (x4_1 + 1)), (by first | rfl | (simp; done) | (simp [*]; done) | (refine congrArg Value.bool ?_; rw [Bool.eq_iff_iff]; simp; done)), (by first | rfl | (simp; done) | (simp [*]; done) | (refine congrArg Value.bool ?_; rw [Bool.eq_iff_iff]; simp; done)), H', ⟨by have := HK1.out; omega⟩, by repeat (first | exact Drawn0.refl _ | apply Drawn0.step)⟩
    ·rw [if_neg c3] at H
     have c3b0 : decide (x3_1 < 10000) = false := decide_eq_false c3
     clear c3
     obtain rfl := Option.some.inj H
     go_wp2
     go_ret
     exact ⟨by first | rfl | (simp; done) | (simp [*]; done) | (refine congrArg Value.bool ?_; rw [Bool.eq_iff_iff]; simp; done), by repeat (first | exact Drawn0.refl _ | apply Drawn0.step)⟩
   ·rw [if_neg c2] at H
    have c2b0 : decide (x4_1 < (l0.length : Int)) = false := decide_eq_false c2
    clear c2
    obtain rfl := Option.some.inj H
    go_wp2
    go_ret
    exact ⟨by first | rfl | (simp; done) | (simp [*]; done) | (refine congrArg Value.bool ?_; rw [Bool.eq_iff_iff]; simp; done), by repeat (first | exact Drawn0.refl _ | apply Drawn0.step)⟩

-- NOT PRINTED: function 47 (abi_NoEscape)

-- NOT PRINTED: function 40 (strings_Builder_copyCheck)

-- NOT PRINTED: function 27 (strings_Builder_WriteString)

-- NOT PRINTED: function 55 (strconv_small)

-- NOT PRINTED: function 66 (strconv_log10Pow2)

-- NOT PRINTED: function 67 (bits_Len64)

-- NOT PRINTED: function 68 (strconv_bool2_int)

-- NOT PRINTED: function 56 (strconv_numDigits)

-- NOT PRINTED: function 57 (strconv_formatBase10)

-- NOT PRINTED: function 69 (strconv_isPowerOfTwo)

-- NOT PRINTED: function 75 (bits_TrailingZeros32)

-- NOT PRINTED: function 76 (bits_TrailingZeros64)

-- NOT PRINTED: function 70 (bits_TrailingZeros)

-- NOT PRINTED: function 58 (strconv_formatBits)

-- NOT PRINTED: function 48 (strconv_FormatInt)

-- NOT PRINTED: function 41 (strconv_Itoa_41)

end Go.Proofs.YtkjheoilidpckaaDoor.X
