-- Lean text made by xprint.py (ours) out of the seat's translation. Lean checks it.
import Derived.Test.YtkjheoilidpckaaDoorX0
import Derived.Test.YtkjheoilidpckaaDoorX13
import Derived.Test.YtkjheoilidpckaaDoorX17
import Derived.Test.YtkjheoilidpckaaDoorHSplit
namespace Go.Proofs.YtkjheoilidpckaaDoor.X
open Go.RowKit Go.Proofs.YtkjheoilidpckaaDoorW.PrintWords Go.Proofs.YtkjheoilidpckaaDoorW.PrintLast Go.Proofs.YtkjheoilidpckaaDoorW.PrintMore
attribute [local go_sem] max2_int min2_int max_two min_two max_three min_three max_four min_four   -- for this text's walks alone
set_option linter.unusedVariables false
set_option linter.unusedSimpArgs false

/-! ### row_ReadSession: function 21 -/
def row_ReadSession.f (a0 : ByteArray) : Option (ByteArray × ByteArray × ByteArray × ByteArray × ByteArray × ByteArray × ByteArray × Int × ByteArray × ByteArray × ByteArray × Int × Int) := (row_fields.f a0 12).bind fun bt230 => (if bt230.2 = true then (if 7 < (bt230.1.length : Int) then ((row_number.f (rdOf ByteArray.empty bt230.1 7)).bind fun bt235 => (if 11 < (bt230.1.length : Int) then ((row_number.f (rdOf ByteArray.empty bt230.1 11)).bind fun bt238 => (if 0 < (bt230.1.length : Int) then (if 1 < (bt230.1.length : Int) then (if 2 < (bt230.1.length : Int) then (if 3 < (bt230.1.length : Int) then (if 4 < (bt230.1.length : Int) then (if 5 < (bt230.1.length : Int) then (if 6 < (bt230.1.length : Int) then (if 8 < (bt230.1.length : Int) then (if 9 < (bt230.1.length : Int) then (if 10 < (bt230.1.length : Int) then (if bt235.2 = true then (if bt238.2 = true then ((row_Session.f (rdOf ByteArray.empty bt230.1 0) (rdOf ByteArray.empty bt230.1 1) (rdOf ByteArray.empty bt230.1 2) (rdOf ByteArray.empty bt230.1 3) (rdOf ByteArray.empty bt230.1 4) (rdOf ByteArray.empty bt230.1 5) (rdOf ByteArray.empty bt230.1 6) bt235.1 (rdOf ByteArray.empty bt230.1 8) (rdOf ByteArray.empty bt230.1 9) (rdOf ByteArray.empty bt230.1 10) bt238.1).bind fun t251 => (if t251.toList = a0.toList then (some (rdOf ByteArray.empty bt230.1 0, rdOf ByteArray.empty bt230.1 1, rdOf ByteArray.empty bt230.1 2, rdOf ByteArray.empty bt230.1 3, rdOf ByteArray.empty bt230.1 4, rdOf ByteArray.empty bt230.1 5, rdOf ByteArray.empty bt230.1 6, bt235.1, rdOf ByteArray.empty bt230.1 8, rdOf ByteArray.empty bt230.1 9, rdOf ByteArray.empty bt230.1 10, bt238.1, 0)) else (some ((⟨#[]⟩ : ByteArray), (⟨#[]⟩ : ByteArray), (⟨#[]⟩ : ByteArray), (⟨#[]⟩ : ByteArray), (⟨#[]⟩ : ByteArray), (⟨#[]⟩ : ByteArray), (⟨#[]⟩ : ByteArray), 0, (⟨#[]⟩ : ByteArray), (⟨#[]⟩ : ByteArray), (⟨#[]⟩ : ByteArray), 0, 2)))) else (some ((⟨#[]⟩ : ByteArray), (⟨#[]⟩ : ByteArray), (⟨#[]⟩ : ByteArray), (⟨#[]⟩ : ByteArray), (⟨#[]⟩ : ByteArray), (⟨#[]⟩ : ByteArray), (⟨#[]⟩ : ByteArray), 0, (⟨#[]⟩ : ByteArray), (⟨#[]⟩ : ByteArray), (⟨#[]⟩ : ByteArray), 0, 2))) else (some ((⟨#[]⟩ : ByteArray), (⟨#[]⟩ : ByteArray), (⟨#[]⟩ : ByteArray), (⟨#[]⟩ : ByteArray), (⟨#[]⟩ : ByteArray), (⟨#[]⟩ : ByteArray), (⟨#[]⟩ : ByteArray), 0, (⟨#[]⟩ : ByteArray), (⟨#[]⟩ : ByteArray), (⟨#[]⟩ : ByteArray), 0, 2))) else (none)) else (none)) else (none)) else (none)) else (none)) else (none)) else (none)) else (none)) else (none)) else (none))) else (none))) else (none)) else (some ((⟨#[]⟩ : ByteArray), (⟨#[]⟩ : ByteArray), (⟨#[]⟩ : ByteArray), (⟨#[]⟩ : ByteArray), (⟨#[]⟩ : ByteArray), (⟨#[]⟩ : ByteArray), (⟨#[]⟩ : ByteArray), 0, (⟨#[]⟩ : ByteArray), (⟨#[]⟩ : ByteArray), (⟨#[]⟩ : ByteArray), 0, 2)))
def row_ReadSession.T6 : Bool × List (List Nat × List Nat) := (true, [([], []), ([0], [0]), ([1], [1]), ([], []), ([3], [3]), ([4], [4]), ([], []), ([6], [6]), ([7], [7]), ([], []), ([9], [9]), ([10], [10]), ([], []), ([12], [12]), ([13], [13]), ([], []), ([15], [15]), ([16], [16]), ([], []), ([18], [18]), ([19], [19]), ([], []), ([], []), ([22], [22]), ([23], [23]), ([], []), ([25], [25]), ([26], [26]), ([], []), ([28], [28]), ([29], [29]), ([], []), ([2, 5, 8, 11, 14, 17, 20, 21, 24, 27, 30, 31], [2, 5, 8, 11, 14, 17, 20, 21, 24, 27, 30, 31]), ([], []), ([33, 32, 0, 1, 2, 3, 4, 5, 6, 7, 8, 9, 10, 11, 12, 13, 14, 15, 16, 17, 18, 19, 20, 21, 22, 23, 24, 25, 26, 27, 28, 29, 30, 31, 32, 33], [32, 33])])
def row_ReadSession.B6 : List Nat := [0, 1, 3, 0, 8, 24, 0, 64, 192, 0, 512, 1536, 0, 4096, 12288, 0, 32768, 98304, 0, 262144, 786432, 0, 0, 4194304, 12582912, 0, 33554432, 100663296, 0, 268435456, 805306368, 0, 4294967295, 0, 17179869183]
theorem row_ReadSession.tab6 : rtab .any (opsOf Tryd.f21 6) = row_ReadSession.T6 := by kernel_rfl
theorem row_ReadSession.bits6 : waitsOk row_ReadSession.T6.2 row_ReadSession.B6 = true := by kernel_rfl
set_option maxHeartbeats 8000000 in
set_option maxRecDepth 100000 in
theorem row_ReadSession.calls (a0 : ByteArray) (r1 : ByteArray) (r2 : ByteArray) (r3 : ByteArray) (r4 : ByteArray) (r5 : ByteArray) (r6 : ByteArray) (r7 : ByteArray) (r8 : Int) (r9 : ByteArray) (r10 : ByteArray) (r11 : ByteArray) (r12 : Int) (r13 : Int) (w : World) (h : row_ReadSession.f a0 = some (r1, r2, r3, r4, r5, r6, r7, r8, r9, r10, r11, r12, r13)) (hG : GOK w := by first | assumption | exact hG | exact GOK.drewN _ hG | exact GOK.below hG (by repeat (first | (with_reducible first | exact HB.out | apply below_alloc | apply pw_below_drewN | apply below_drew1 | refine below_set ?_ (Aside0.out (by assumption))) | exact HB.out))) :
  Calls Tryd.prog 21 #[.string a0] w fun e w' => e = .returned (.tuple #[.agg #[.string r1, .string r2, .string r3, .string r4, .string r5, .string r6, .string r7, .int .i64 r8, .string r9, .string r10, .string r11, .int .i64 r12], .int .i64 r13]) ∧ Below w.heap.size w w' := by
 have hu41 := Tryd.underlying41
 have HB := Aside0.mk (Below.refl w.heap.size w)
 have H := h
 unfold row_ReadSession.f at H
 clear h
 replace H := Option.bind_eq_some_iff.mp H
 obtain ⟨⟨t230, t231⟩, A20, H⟩ := H
 replace H : (if t231 = true then (if 7 < (t230.length : Int) then ((row_number.f (rdOf ByteArray.empty t230 7)).bind fun bt235 => (if 11 < (t230.length : Int) then ((row_number.f (rdOf ByteArray.empty t230 11)).bind fun bt238 => (if 0 < (t230.length : Int) then (if 1 < (t230.length : Int) then (if 2 < (t230.length : Int) then (if 3 < (t230.length : Int) then (if 4 < (t230.length : Int) then (if 5 < (t230.length : Int) then (if 6 < (t230.length : Int) then (if 8 < (t230.length : Int) then (if 9 < (t230.length : Int) then (if 10 < (t230.length : Int) then (if bt235.2 = true then (if bt238.2 = true then ((row_Session.f (rdOf ByteArray.empty t230 0) (rdOf ByteArray.empty t230 1) (rdOf ByteArray.empty t230 2) (rdOf ByteArray.empty t230 3) (rdOf ByteArray.empty t230 4) (rdOf ByteArray.empty t230 5) (rdOf ByteArray.empty t230 6) bt235.1 (rdOf ByteArray.empty t230 8) (rdOf ByteArray.empty t230 9) (rdOf ByteArray.empty t230 10) bt238.1).bind fun t251 => (if t251.toList = a0.toList then (some (rdOf ByteArray.empty t230 0, rdOf ByteArray.empty t230 1, rdOf ByteArray.empty t230 2, rdOf ByteArray.empty t230 3, rdOf ByteArray.empty t230 4, rdOf ByteArray.empty t230 5, rdOf ByteArray.empty t230 6, bt235.1, rdOf ByteArray.empty t230 8, rdOf ByteArray.empty t230 9, rdOf ByteArray.empty t230 10, bt238.1, 0)) else (some ((⟨#[]⟩ : ByteArray), (⟨#[]⟩ : ByteArray), (⟨#[]⟩ : ByteArray), (⟨#[]⟩ : ByteArray), (⟨#[]⟩ : ByteArray), (⟨#[]⟩ : ByteArray), (⟨#[]⟩ : ByteArray), 0, (⟨#[]⟩ : ByteArray), (⟨#[]⟩ : ByteArray), (⟨#[]⟩ : ByteArray), 0, 2)))) else (some ((⟨#[]⟩ : ByteArray), (⟨#[]⟩ : ByteArray), (⟨#[]⟩ : ByteArray), (⟨#[]⟩ : ByteArray), (⟨#[]⟩ : ByteArray), (⟨#[]⟩ : ByteArray), (⟨#[]⟩ : ByteArray), 0, (⟨#[]⟩ : ByteArray), (⟨#[]⟩ : ByteArray), (⟨#[]⟩ : ByteArray), 0, 2))) else (some ((⟨#[]⟩ : ByteArray), (⟨#[]⟩ : ByteArray), (⟨#[]⟩ : ByteArray), (⟨#[]⟩ : ByteArray), (⟨#[]⟩ : ByteArray), (⟨#[]⟩ : ByteArray), (⟨#[]⟩ : ByteArray), 0, (⟨#[]⟩ : ByteArray), (⟨#[]⟩ : ByteArray), (⟨#[]⟩ : ByteArray), 0, 2))) else (none)) else (none)) else (none)) else (none)) else (none)) else (none)) else (none)) else (none)) else (none)) else (none))) else (none))) else (none)) else (some ((⟨#[]⟩ : ByteArray), (⟨#[]⟩ : ByteArray), (⟨#[]⟩ : ByteArray), (⟨#[]⟩ : ByteArray), (⟨#[]⟩ : ByteArray), (⟨#[]⟩ : ByteArray), (⟨#[]⟩ : ByteArray), 0, (⟨#[]⟩ : ByteArray), (⟨#[]⟩ : ByteArray), (⟨#[]⟩ : ByteArray), 0, 2))) = some (r1, r2, r3, r4, r5, r6, r7, r8, r9, r10, r11, r12, r13) := H
 have A2 := Aside0.mk A20
 clear A20
 by_cases c3 : t231 = true
 ·subst c3
  have H1 : (if 7 < (t230.length : Int) then ((row_number.f (rdOf ByteArray.empty t230 7)).bind fun bt235 => (if 11 < (t230.length : Int) then ((row_number.f (rdOf ByteArray.empty t230 11)).bind fun bt238 => (if 0 < (t230.length : Int) then (if 1 < (t230.length : Int) then (if 2 < (t230.length : Int) then (if 3 < (t230.length : Int) then (if 4 < (t230.length : Int) then (if 5 < (t230.length : Int) then (if 6 < (t230.length : Int) then (if 8 < (t230.length : Int) then (if 9 < (t230.length : Int) then (if 10 < (t230.length : Int) then (if bt235.2 = true then (if bt238.2 = true then ((row_Session.f (rdOf ByteArray.empty t230 0) (rdOf ByteArray.empty t230 1) (rdOf ByteArray.empty t230 2) (rdOf ByteArray.empty t230 3) (rdOf ByteArray.empty t230 4) (rdOf ByteArray.empty t230 5) (rdOf ByteArray.empty t230 6) bt235.1 (rdOf ByteArray.empty t230 8) (rdOf ByteArray.empty t230 9) (rdOf ByteArray.empty t230 10) bt238.1).bind fun t251 => (if t251.toList = a0.toList then (some (rdOf ByteArray.empty t230 0, rdOf ByteArray.empty t230 1, rdOf ByteArray.empty t230 2, rdOf ByteArray.empty t230 3, rdOf ByteArray.empty t230 4, rdOf ByteArray.empty t230 5, rdOf ByteArray.empty t230 6, bt235.1, rdOf ByteArray.empty t230 8, rdOf ByteArray.empty t230 9, rdOf ByteArray.empty t230 10, bt238.1, 0)) else (some ((⟨#[]⟩ : ByteArray), (⟨#[]⟩ : ByteArray), (⟨#[]⟩ : ByteArray), (⟨#[]⟩ : ByteArray), (⟨#[]⟩ : ByteArray), (⟨#[]⟩ : ByteArray), (⟨#[]⟩ : ByteArray), 0, (⟨#[]⟩ : ByteArray), (⟨#[]⟩ : ByteArray), (⟨#[]⟩ : ByteArray), 0, 2)))) else (some ((⟨#[]⟩ : ByteArray), (⟨#[]⟩ : ByteArray), (⟨#[]⟩ : ByteArray), (⟨#[]⟩ : ByteArray), (⟨#[]⟩ : ByteArray), (⟨#[]⟩ : ByteArray), (⟨#[]⟩ : ByteArray), 0, (⟨#[]⟩ : ByteArray), (⟨#[]⟩ : ByteArray), (⟨#[]⟩ : ByteArray), 0, 2))) else (some ((⟨#[]⟩ : ByteArray), (⟨#[]⟩ : ByteArray), (⟨#[]⟩ : ByteArray), (⟨#[]⟩ : ByteArray), (⟨#[]⟩ : ByteArray), (⟨#[]⟩ : ByteArray), (⟨#[]⟩ : ByteArray), 0, (⟨#[]⟩ : ByteArray), (⟨#[]⟩ : ByteArray), (⟨#[]⟩ : ByteArray), 0, 2))) else (none)) else (none)) else (none)) else (none)) else (none)) else (none)) else (none)) else (none)) else (none)) else (none))) else (none))) else (none)) = some (r1, r2, r3, r4, r5, r6, r7, r8, r9, r10, r11, r12, r13) := by rw [if_pos rfl] at H; exact H
  clear H
  have H := H1
  clear H1
  by_cases c4 : 7 < (t230.length : Int)
  rotate_left
  ·rw [if_neg c4] at H; exact absurd H (by simp)
  rw [if_pos c4] at H
  have c4b0 : decide (7 < (t230.length : Int)) = true := decide_eq_true c4
  have c4b1 : decide (7 < t230.length) = true := decide_eq_true (by omega)
  clear c4
  replace H := Option.bind_eq_some_iff.mp H
  obtain ⟨⟨t235, t236⟩, A50, H⟩ := H
  replace H : (if 11 < (t230.length : Int) then ((row_number.f (rdOf ByteArray.empty t230 11)).bind fun bt238 => (if 0 < (t230.length : Int) then (if 1 < (t230.length : Int) then (if 2 < (t230.length : Int) then (if 3 < (t230.length : Int) then (if 4 < (t230.length : Int) then (if 5 < (t230.length : Int) then (if 6 < (t230.length : Int) then (if 8 < (t230.length : Int) then (if 9 < (t230.length : Int) then (if 10 < (t230.length : Int) then (if t236 = true then (if bt238.2 = true then ((row_Session.f (rdOf ByteArray.empty t230 0) (rdOf ByteArray.empty t230 1) (rdOf ByteArray.empty t230 2) (rdOf ByteArray.empty t230 3) (rdOf ByteArray.empty t230 4) (rdOf ByteArray.empty t230 5) (rdOf ByteArray.empty t230 6) t235 (rdOf ByteArray.empty t230 8) (rdOf ByteArray.empty t230 9) (rdOf ByteArray.empty t230 10) bt238.1).bind fun t251 => (if t251.toList = a0.toList then (some (rdOf ByteArray.empty t230 0, rdOf ByteArray.empty t230 1, rdOf ByteArray.empty t230 2, rdOf ByteArray.empty t230 3, rdOf ByteArray.empty t230 4, rdOf ByteArray.empty t230 5, rdOf ByteArray.empty t230 6, t235, rdOf ByteArray.empty t230 8, rdOf ByteArray.empty t230 9, rdOf ByteArray.empty t230 10, bt238.1, 0)) else (some ((⟨#[]⟩ : ByteArray), (⟨#[]⟩ : ByteArray), (⟨#[]⟩ : ByteArray), (⟨#[]⟩ : ByteArray), (⟨#[]⟩ : ByteArray), (⟨#[]⟩ : ByteArray), (⟨#[]⟩ : ByteArray), 0, (⟨#[]⟩ : ByteArray), (⟨#[]⟩ : ByteArray), (⟨#[]⟩ : ByteArray), 0, 2)))) else (some ((⟨#[]⟩ : ByteArray), (⟨#[]⟩ : ByteArray), (⟨#[]⟩ : ByteArray), (⟨#[]⟩ : ByteArray), (⟨#[]⟩ : ByteArray), (⟨#[]⟩ : ByteArray), (⟨#[]⟩ : ByteArray), 0, (⟨#[]⟩ : ByteArray), (⟨#[]⟩ : ByteArray), (⟨#[]⟩ : ByteArray), 0, 2))) else (some ((⟨#[]⟩ : ByteArray), (⟨#[]⟩ : ByteArray), (⟨#[]⟩ : ByteArray), (⟨#[]⟩ : ByteArray), (⟨#[]⟩ : ByteArray), (⟨#[]⟩ : ByteArray), (⟨#[]⟩ : ByteArray), 0, (⟨#[]⟩ : ByteArray), (⟨#[]⟩ : ByteArray), (⟨#[]⟩ : ByteArray), 0, 2))) else (none)) else (none)) else (none)) else (none)) else (none)) else (none)) else (none)) else (none)) else (none)) else (none))) else (none)) = some (r1, r2, r3, r4, r5, r6, r7, r8, r9, r10, r11, r12, r13) := H
  have A5 := Aside0.mk A50
  clear A50
  by_cases c6 : 11 < (t230.length : Int)
  rotate_left
  ·rw [if_neg c6] at H; exact absurd H (by simp)
  rw [if_pos c6] at H
  have c6b0 : decide (11 < (t230.length : Int)) = true := decide_eq_true c6
  have c6b1 : decide (11 < t230.length) = true := decide_eq_true (by omega)
  clear c6
  replace H := Option.bind_eq_some_iff.mp H
  obtain ⟨⟨t238, t239⟩, A70, H⟩ := H
  replace H : (if 0 < (t230.length : Int) then (if 1 < (t230.length : Int) then (if 2 < (t230.length : Int) then (if 3 < (t230.length : Int) then (if 4 < (t230.length : Int) then (if 5 < (t230.length : Int) then (if 6 < (t230.length : Int) then (if 8 < (t230.length : Int) then (if 9 < (t230.length : Int) then (if 10 < (t230.length : Int) then (if t236 = true then (if t239 = true then ((row_Session.f (rdOf ByteArray.empty t230 0) (rdOf ByteArray.empty t230 1) (rdOf ByteArray.empty t230 2) (rdOf ByteArray.empty t230 3) (rdOf ByteArray.empty t230 4) (rdOf ByteArray.empty t230 5) (rdOf ByteArray.empty t230 6) t235 (rdOf ByteArray.empty t230 8) (rdOf ByteArray.empty t230 9) (rdOf ByteArray.empty t230 10) t238).bind fun t251 => (if t251.toList = a0.toList then (some (rdOf ByteArray.empty t230 0, rdOf ByteArray.empty t230 1, rdOf ByteArray.empty t230 2, rdOf ByteArray.empty t230 3, rdOf ByteArray.empty t230 4, rdOf ByteArray.empty t230 5, rdOf ByteArray.empty t230 6, t235, rdOf ByteArray.empty t230 8, rdOf ByteArray.empty t230 9, rdOf ByteArray.empty t230 10, t238, 0)) else (some ((⟨#[]⟩ : ByteArray), (⟨#[]⟩ : ByteArray), (⟨#[]⟩ : ByteArray), (⟨#[]⟩ : ByteArray), (⟨#[]⟩ : ByteArray), (⟨#[]⟩ : ByteArray), (⟨#[]⟩ : ByteArray), 0, (⟨#[]⟩ : ByteArray), (⟨#[]⟩ : ByteArray), (⟨#[]⟩ : ByteArray), 0, 2)))) else (some ((⟨#[]⟩ : ByteArray), (⟨#[]⟩ : ByteArray), (⟨#[]⟩ : ByteArray), (⟨#[]⟩ : ByteArray), (⟨#[]⟩ : ByteArray), (⟨#[]⟩ : ByteArray), (⟨#[]⟩ : ByteArray), 0, (⟨#[]⟩ : ByteArray), (⟨#[]⟩ : ByteArray), (⟨#[]⟩ : ByteArray), 0, 2))) else (some ((⟨#[]⟩ : ByteArray), (⟨#[]⟩ : ByteArray), (⟨#[]⟩ : ByteArray), (⟨#[]⟩ : ByteArray), (⟨#[]⟩ : ByteArray), (⟨#[]⟩ : ByteArray), (⟨#[]⟩ : ByteArray), 0, (⟨#[]⟩ : ByteArray), (⟨#[]⟩ : ByteArray), (⟨#[]⟩ : ByteArray), 0, 2))) else (none)) else (none)) else (none)) else (none)) else (none)) else (none)) else (none)) else (none)) else (none)) else (none)) = some (r1, r2, r3, r4, r5, r6, r7, r8, r9, r10, r11, r12, r13) := H
  have A7 := Aside0.mk A70
  clear A70
  by_cases c8 : 0 < (t230.length : Int)
  rotate_left
  ·rw [if_neg c8] at H; exact absurd H (by simp)
  rw [if_pos c8] at H
  have c8b0 : decide (0 < (t230.length : Int)) = true := decide_eq_true c8
  have c8b1 : decide (0 < t230.length) = true := decide_eq_true (by omega)
  clear c8
  by_cases c9 : 1 < (t230.length : Int)
  rotate_left
  ·rw [if_neg c9] at H; exact absurd H (by simp)
  rw [if_pos c9] at H
  have c9b0 : decide (1 < (t230.length : Int)) = true := decide_eq_true c9
  have c9b1 : decide (1 < t230.length) = true := decide_eq_true (by omega)
  clear c9
  by_cases c10 : 2 < (t230.length : Int)
  rotate_left
  ·rw [if_neg c10] at H; exact absurd H (by simp)
  rw [if_pos c10] at H
  have c10b0 : decide (2 < (t230.length : Int)) = true := decide_eq_true c10
  have c10b1 : decide (2 < t230.length) = true := decide_eq_true (by omega)
  clear c10
  by_cases c11 : 3 < (t230.length : Int)
  rotate_left
  ·rw [if_neg c11] at H; exact absurd H (by simp)
  rw [if_pos c11] at H
  have c11b0 : decide (3 < (t230.length : Int)) = true := decide_eq_true c11
  have c11b1 : decide (3 < t230.length) = true := decide_eq_true (by omega)
  clear c11
  by_cases c12 : 4 < (t230.length : Int)
  rotate_left
  ·rw [if_neg c12] at H; exact absurd H (by simp)
  rw [if_pos c12] at H
  have c12b0 : decide (4 < (t230.length : Int)) = true := decide_eq_true c12
  have c12b1 : decide (4 < t230.length) = true := decide_eq_true (by omega)
  clear c12
  by_cases c13 : 5 < (t230.length : Int)
  rotate_left
  ·rw [if_neg c13] at H; exact absurd H (by simp)
  rw [if_pos c13] at H
  have c13b0 : decide (5 < (t230.length : Int)) = true := decide_eq_true c13
  have c13b1 : decide (5 < t230.length) = true := decide_eq_true (by omega)
  clear c13
  by_cases c14 : 6 < (t230.length : Int)
  rotate_left
  ·rw [if_neg c14] at H; exact absurd H (by simp)
  rw [if_pos c14] at H
  have c14b0 : decide (6 < (t230.length : Int)) = true := decide_eq_true c14
  have c14b1 : decide (6 < t230.length) = true := decide_eq_true (by omega)
  clear c14
  by_cases c15 : 8 < (t230.length : Int)
  rotate_left
  ·rw [if_neg c15] at H; exact absurd H (by simp)
  rw [if_pos c15] at H
  have c15b0 : decide (8 < (t230.length : Int)) = true := decide_eq_true c15
  have c15b1 : decide (8 < t230.length) = true := decide_eq_true (by omega)
  clear c15
  by_cases c16 : 9 < (t230.length : Int)
  rotate_left
  ·rw [if_neg c16] at H; exact absurd H (by simp)
  rw [if_pos c16] at H
  have c16b0 : decide (9 < (t230.length : Int)) = true := decide_eq_true c16
  have c16b1 : decide (9 < t230.length) = true := decide_eq_true (by omega)
  clear c16
  by_cases c17 : 10 < (t230.length : Int)
  rotate_left
  ·rw [if_neg c17] at H; exact absurd H (by simp)
  rw [if_pos c17] at H
  have c17b0 : decide (10 < (t230.length : Int)) = true := decide_eq_true c17
  have c17b1 : decide (10 < t230.length) = true := decide_eq_true (by omega)
  clear c17
  have HH_ := Aside0.mk H
  clear H
  go_enter Tryd.func21, Tryd.ntmps21
  try go_wp2_with (first | ((with_reducible refine gate_dst (N := 2) rfl ?_); refine box_event ?hg (N := 2) ?hd (cs := #[.string (⟨#[]⟩ : ByteArray), .string (⟨#[]⟩ : ByteArray), .string (⟨#[]⟩ : ByteArray), .string (⟨#[]⟩ : ByteArray), .string (⟨#[]⟩ : ByteArray), .string (⟨#[]⟩ : ByteArray), .string (⟨#[]⟩ : ByteArray), .int .i64 0, .string (⟨#[]⟩ : ByteArray), .string (⟨#[]⟩ : ByteArray), .string (⟨#[]⟩ : ByteArray), .int .i64 0]) (t := 41) ?hr ?_; (case hd => rfl); (case hg => rfl); (case hr => first | (go_simp; done) | (go_simp; rfl)); intro gb229 hg w22 hbox hb; have n0_ := Aside0.mk (below_step (by repeat (first | (with_reducible first | exact HB.out | apply below_alloc | apply pw_below_drewN | apply below_drew1) | exact HB.out)) hb); have n1_ := Aside0.mk (hbox); have n2_ := Aside0.mk ((by rw [hg]; exact (below_size (by repeat (first | (with_reducible first | exact HB.out | apply below_alloc | apply pw_below_drewN | apply below_drew1) | exact HB.out))) : w.heap.size ≤ gb229)); have n3_ := Aside0.mk ((by rw [hg]; exact (below_size (by repeat (first | (with_reducible first | exact HB.out | apply below_alloc | apply pw_below_drewN | apply below_drew1) | exact HB.out))) : w.heap.size ≤ gb229)); clear HB; have HB := n0_; have BK229 := n1_; have GW229 := n2_; have GE229 := n3_; clear n0_ n1_ n2_ n3_; clear hb hbox hg) | ((with_reducible refine gate_callee (f := 33) rfl ?_); refine goesL_ (some 13) rfl rfl Tryd.func33 (by kernel_rfl) rfl #[.string a0, .int .i64 12] rfl (by (try simp only [List.map_toArray, List.map_cons, List.map_nil]); first | done | rfl | (simp only [List.length_drop, List.length_take]; rfl)) ?_; (with_reducible refine (row_fields.calls a0 12 t230 true _ A2.out).mono ?_); rintro e w23 ⟨v232, rfl, ho0, hb⟩; refine ⟨_, rfl, ?_⟩; have n0_ := Aside0.mk (Kd.R_lower ho0 (below_size (by repeat (first | (with_reducible first | exact HB.out | apply below_alloc | apply pw_below_drewN | apply below_drew1 | refine below_set ?_ GE229.out) | exact HB.out)))); have n1_ := Aside0.mk (blk_belowB BK229.out (by (with_reducible repeat (first | refine blk_drewN ?_ _ | refine blk_drew ?_ | refine blk_alloc ?_ _)); exact BK229.out) hb); have n2_ := Aside0.mk (below_step (by repeat (first | (with_reducible first | exact HB.out | apply below_alloc | apply pw_below_drewN | apply below_drew1 | refine below_set ?_ GE229.out) | exact HB.out)) hb); clear BK229; clear HB; have HO233 := n0_; have BK229 := n1_; have HB := n2_; clear n0_ n1_ n2_; (try clear hb); (try clear hb2); (try clear hk); (try clear hi); (try clear ho0); obtain ⟨Ao24, co24, eo24⟩ := Kd.R_slice HO233.out; subst eo24; have p234 : 0 ≤ (7 : Int) := (by omega); have q234 : 7 < (t230.length : Int) := of_decide_eq_true (by first | (with_reducible assumption) | assumption); obtain ⟨ad234, e234, hx234_0⟩ := Kd.at_string (Kd.R_reads' HO233.out).2.2 7 p234 q234; cases e234; (try simp only [show (7 : Int).toNat = 7 from rfl, Nat.reduceMul, Nat.reduceEqDiff, Go.Addr.add, ↓reduceIte] at hx234_0); have qi234 : (7 < t230.length) = True := eq_true (by omega); (try rw [show ((7 : Int)).toNat = 7 from rfl] at hx234_0); replace p234 := eq_true p234; replace q234 := eq_true q234) | ((with_reducible refine gate_callee (f := 34) rfl ?_); refine goesL_ (some 23) rfl rfl Tryd.func34 (by kernel_rfl) rfl #[.string (rdOf ByteArray.empty t230 7)] rfl (by (try simp only [List.map_toArray, List.map_cons, List.map_nil]); first | done | rfl | (simp only [List.length_drop, List.length_take]; rfl)) ?_; (with_reducible refine (row_number.calls (rdOf ByteArray.empty t230 7) t235 t236 _ A5.out).mono ?_); rintro e w25 ⟨rfl, hb⟩; refine ⟨_, rfl, ?_⟩; have n0_ := Aside0.mk (Kd.R_below (by (with_reducible repeat (first | apply Kd.R_alloc | apply Kd.R_drewN | apply Kd.R_drew)); exact HO233.out) hb); have n1_ := Aside0.mk (blk_belowB BK229.out (by (with_reducible repeat (first | refine blk_drewN ?_ _ | refine blk_drew ?_ | refine blk_alloc ?_ _)); exact BK229.out) hb); have n2_ := Aside0.mk (below_step (by repeat (first | (with_reducible first | exact HB.out | apply below_alloc | apply pw_below_drewN | apply below_drew1 | refine below_set ?_ GE229.out) | exact HB.out)) hb); clear HO233; clear BK229; clear HB; have HO233 := n0_; have BK229 := n1_; have HB := n2_; clear n0_ n1_ n2_; (try clear hb); (try clear hb2); (try clear hk); (try clear hi); have p237 : 0 ≤ (11 : Int) := (by omega); have q237 : 11 < (t230.length : Int) := of_decide_eq_true (by first | (with_reducible assumption) | assumption); obtain ⟨ad237, e237, hx237_0⟩ := Kd.at_string (Kd.R_reads' HO233.out).2.2 11 p237 q237; obtain rfl : ad234 = ad237 := (by injection e237); (try simp only [show (11 : Int).toNat = 11 from rfl, Nat.reduceMul, Nat.reduceEqDiff, Go.Addr.add, ↓reduceIte] at hx237_0); have qi237 : (11 < t230.length) = True := eq_true (by omega); (try rw [show ((11 : Int)).toNat = 11 from rfl] at hx237_0); replace p237 := eq_true p237; replace q237 := eq_true q237) | ((with_reducible refine gate_callee (f := 34) rfl ?_); refine goesL_ (some 30) rfl rfl Tryd.func34 (by kernel_rfl) rfl #[.string (rdOf ByteArray.empty t230 11)] rfl (by (try simp only [List.map_toArray, List.map_cons, List.map_nil]); first | done | rfl | (simp only [List.length_drop, List.length_take]; rfl)) ?_; (with_reducible refine (row_number.calls (rdOf ByteArray.empty t230 11) t238 t239 _ A7.out).mono ?_); rintro e w26 ⟨rfl, hb⟩; refine ⟨_, rfl, ?_⟩; have n0_ := Aside0.mk (Kd.R_below (by (with_reducible repeat (first | apply Kd.R_alloc | apply Kd.R_drewN | apply Kd.R_drew)); exact HO233.out) hb); have n1_ := Aside0.mk (blk_belowB BK229.out (by (with_reducible repeat (first | refine blk_drewN ?_ _ | refine blk_drew ?_ | refine blk_alloc ?_ _)); exact BK229.out) hb); have n2_ := Aside0.mk (below_step (by repeat (first | (with_reducible first | exact HB.out | apply below_alloc | apply pw_below_drewN | apply below_drew1 | refine below_set ?_ GE229.out) | exact HB.out)) hb); clear HO233; clear BK229; clear HB; have HO233 := n0_; have BK229 := n1_; have HB := n2_; clear n0_ n1_ n2_; (try clear hb); (try clear hb2); (try clear hk); (try clear hi)))
  have n0_ := Aside0.mk (Kd.R_drew HO233.out)
  have n1_ := Aside0.mk (blk_drew BK229.out)
  have n2_ := Aside0.mk (below_drew1 HB.out)
  clear HO233; clear BK229; clear HB
  have HO233 := n0_
  have BK229 := n1_
  have HB := n2_
  clear n0_ n1_ n2_
  have p240 : 0 ≤ (0 : Int) := (by omega)
  have q240 : 0 < (t230.length : Int) := of_decide_eq_true (by first | (with_reducible assumption) | assumption)
  obtain ⟨ad240, e240, hx240_0⟩ := Kd.at_string (Kd.R_reads' HO233.out).2.2 0 p240 q240
  obtain rfl : ad234 = ad240 := (by injection e240)
  have qi240 : (0 < t230.length) = True := eq_true (by omega)
  (try rw [show ((0 : Int)).toNat = 0 from rfl] at hx240_0)
  (try rw [Addr.add_zero'] at hx240_0)
  replace p240 := eq_true p240
  replace q240 := eq_true q240
  have p241 : 0 ≤ (1 : Int) := (by omega)
  have q241 : 1 < (t230.length : Int) := of_decide_eq_true (by first | (with_reducible assumption) | assumption)
  obtain ⟨ad241, e241, hx241_0⟩ := Kd.at_string (Kd.R_reads' HO233.out).2.2 1 p241 q241
  obtain rfl : ad234 = ad241 := (by injection e241)
  (try simp only [show (1 : Int).toNat = 1 from rfl, Nat.reduceMul, Nat.reduceEqDiff, Go.Addr.add, ↓reduceIte] at hx241_0)
  have qi241 : (1 < t230.length) = True := eq_true (by omega)
  (try rw [show ((1 : Int)).toNat = 1 from rfl] at hx241_0)
  replace p241 := eq_true p241
  replace q241 := eq_true q241
  have p242 : 0 ≤ (2 : Int) := (by omega)
  have q242 : 2 < (t230.length : Int) := of_decide_eq_true (by first | (with_reducible assumption) | assumption)
  obtain ⟨ad242, e242, hx242_0⟩ := Kd.at_string (Kd.R_reads' HO233.out).2.2 2 p242 q242
  obtain rfl : ad234 = ad242 := (by injection e242)
  (try simp only [show (2 : Int).toNat = 2 from rfl, Nat.reduceMul, Nat.reduceEqDiff, Go.Addr.add, ↓reduceIte] at hx242_0)
  have qi242 : (2 < t230.length) = True := eq_true (by omega)
  (try rw [show ((2 : Int)).toNat = 2 from rfl] at hx242_0)
  replace p242 := eq_true p242
  replace q242 := eq_true q242
  have p243 : 0 ≤ (3 : Int) := (by omega)
  have q243 : 3 < (t230.length : Int) := of_decide_eq_true (by first | (with_reducible assumption) | assumption)
  obtain ⟨ad243, e243, hx243_0⟩ := Kd.at_string (Kd.R_reads' HO233.out).2.2 3 p243 q243
  obtain rfl : ad234 = ad243 := (by injection e243)
  (try simp only [show (3 : Int).toNat = 3 from rfl, Nat.reduceMul, Nat.reduceEqDiff, Go.Addr.add, ↓reduceIte] at hx243_0)
  have qi243 : (3 < t230.length) = True := eq_true (by omega)
  (try rw [show ((3 : Int)).toNat = 3 from rfl] at hx243_0)
  replace p243 := eq_true p243
  replace q243 := eq_true q243
  have p244 : 0 ≤ (4 : Int) := (by omega)
  have q244 : 4 < (t230.length : Int) := of_decide_eq_true (by first | (with_reducible assumption) | assumption)
  obtain ⟨ad244, e244, hx244_0⟩ := Kd.at_string (Kd.R_reads' HO233.out).2.2 4 p244 q244
  obtain rfl : ad234 = ad244 := (by injection e244)
  (try simp only [show (4 : Int).toNat = 4 from rfl, Nat.reduceMul, Nat.reduceEqDiff, Go.Addr.add, ↓reduceIte] at hx244_0)
  have qi244 : (4 < t230.length) = True := eq_true (by omega)
  (try rw [show ((4 : Int)).toNat = 4 from rfl] at hx244_0)
  replace p244 := eq_true p244
  replace q244 := eq_true q244
  have p245 : 0 ≤ (5 : Int) := (by omega)
  have q245 : 5 < (t230.length : Int) := of_decide_eq_true (by first | (with_reducible assumption) | assumption)
  obtain ⟨ad245, e245, hx245_0⟩ := Kd.at_string (Kd.R_reads' HO233.out).2.2 5 p245 q245
  obtain rfl : ad234 = ad245 := (by injection e245)
  (try simp only [show (5 : Int).toNat = 5 from rfl, Nat.reduceMul, Nat.reduceEqDiff, Go.Addr.add, ↓reduceIte] at hx245_0)
  have qi245 : (5 < t230.length) = True := eq_true (by omega)
  (try rw [show ((5 : Int)).toNat = 5 from rfl] at hx245_0)
  replace p245 := eq_true p245
  replace q245 := eq_true q245
  have p246 : 0 ≤ (6 : Int) := (by omega)
  have q246 : 6 < (t230.length : Int) := of_decide_eq_true (by first | (with_reducible assumption) | assumption)
  obtain ⟨ad246, e246, hx246_0⟩ := Kd.at_string (Kd.R_reads' HO233.out).2.2 6 p246 q246
  obtain rfl : ad234 = ad246 := (by injection e246)
  (try simp only [show (6 : Int).toNat = 6 from rfl, Nat.reduceMul, Nat.reduceEqDiff, Go.Addr.add, ↓reduceIte] at hx246_0)
  have qi246 : (6 < t230.length) = True := eq_true (by omega)
  (try rw [show ((6 : Int)).toNat = 6 from rfl] at hx246_0)
  replace p246 := eq_true p246
  replace q246 := eq_true q246
  have p247 : 0 ≤ (8 : Int) := (by omega)
  have q247 : 8 < (t230.length : Int) := of_decide_eq_true (by first | (with_reducible assumption) | assumption)
  obtain ⟨ad247, e247, hx247_0⟩ := Kd.at_string (Kd.R_reads' HO233.out).2.2 8 p247 q247
  obtain rfl : ad234 = ad247 := (by injection e247)
  (try simp only [show (8 : Int).toNat = 8 from rfl, Nat.reduceMul, Nat.reduceEqDiff, Go.Addr.add, ↓reduceIte] at hx247_0)
  have qi247 : (8 < t230.length) = True := eq_true (by omega)
  (try rw [show ((8 : Int)).toNat = 8 from rfl] at hx247_0)
  replace p247 := eq_true p247
  replace q247 := eq_true q247
  have p248 : 0 ≤ (9 : Int) := (by omega)
  have q248 : 9 < (t230.length : Int) := of_decide_eq_true (by first | (with_reducible assumption) | assumption)
  obtain ⟨ad248, e248, hx248_0⟩ := Kd.at_string (Kd.R_reads' HO233.out).2.2 9 p248 q248
  obtain rfl : ad234 = ad248 := (by injection e248)
  (try simp only [show (9 : Int).toNat = 9 from rfl, Nat.reduceMul, Nat.reduceEqDiff, Go.Addr.add, ↓reduceIte] at hx248_0)
  have qi248 : (9 < t230.length) = True := eq_true (by omega)
  (try rw [show ((9 : Int)).toNat = 9 from rfl] at hx248_0)
  replace p248 := eq_true p248
  replace q248 := eq_true q248
  have p249 : 0 ≤ (10 : Int) := (by omega)
  have q249 : 10 < (t230.length : Int) := of_decide_eq_true (by first | (with_reducible assumption) | assumption)
  obtain ⟨ad249, e249, hx249_0⟩ := Kd.at_string (Kd.R_reads' HO233.out).2.2 10 p249 q249
  obtain rfl : ad234 = ad249 := (by injection e249)
  (try simp only [show (10 : Int).toNat = 10 from rfl, Nat.reduceMul, Nat.reduceEqDiff, Go.Addr.add, ↓reduceIte] at hx249_0)
  have qi249 : (10 < t230.length) = True := eq_true (by omega)
  (try rw [show ((10 : Int)).toNat = 10 from rfl] at hx249_0)
  replace p249 := eq_true p249
  replace q249 := eq_true q249
  refine start_ (n := 35) (S := fun w' => w'.cell? ad234 = some (.string (rdOf ByteArray.empty t230 0)) ∧ w'.cell? ⟨ad234.block, ad234.off + 1, none⟩ = some (.string (rdOf ByteArray.empty t230 1)) ∧ w'.cell? ⟨ad234.block, ad234.off + 2, none⟩ = some (.string (rdOf ByteArray.empty t230 2)) ∧ w'.cell? ⟨ad234.block, ad234.off + 3, none⟩ = some (.string (rdOf ByteArray.empty t230 3)) ∧ w'.cell? ⟨ad234.block, ad234.off + 4, none⟩ = some (.string (rdOf ByteArray.empty t230 4)) ∧ w'.cell? ⟨ad234.block, ad234.off + 5, none⟩ = some (.string (rdOf ByteArray.empty t230 5)) ∧ w'.cell? ⟨ad234.block, ad234.off + 6, none⟩ = some (.string (rdOf ByteArray.empty t230 6)) ∧ w'.cell? ⟨ad234.block, ad234.off + 8, none⟩ = some (.string (rdOf ByteArray.empty t230 8)) ∧ w'.cell? ⟨ad234.block, ad234.off + 9, none⟩ = some (.string (rdOf ByteArray.empty t230 9)) ∧ w'.cell? ⟨ad234.block, ad234.off + 10, none⟩ = some (.string (rdOf ByteArray.empty t230 10))) (ds := []) #[false, false, false, false, false, false, false, false, false, false, false, false, false, false, false, false, false, false, false, false, false, false, false, false, false, false, false, false, false, false, false, false, false, false, false] (by kernel_rfl) rfl rfl ⟨hx240_0, hx241_0, hx242_0, hx243_0, hx244_0, hx245_0, hx246_0, hx247_0, hx248_0, hx249_0⟩ (fun hHeld => ?_); refine with_tabW row_ReadSession.tab6 row_ReadSession.bits6 (fun HT_ HW_ => ?_)
  generalize w26.drew = w27 at HO233 BK229 HB hx240_0 hx241_0 hx242_0 hx243_0 hx244_0 hx245_0 hx246_0 hx247_0 hx248_0 hx249_0 hHeld ⊢
  refine pure_ (i := 0) (N := some 33) (v := ?_) (a' := ?_) #[true, false, false, false, false, false, false, false, false, false, false, false, false, false, false, false, false, false, false, false, false, false, false, false, false, false, false, false, false, false, false, false, false, false, false] rfl rfl (any_of HT_.out (by kernel_rfl)) (fun _ _ _ h => h) (Or.inl ⟨by rfl, ?_⟩) ?_ ?_
  rotate_left
  ·intro w'
   go_simp
   with_reducible rfl
  rotate_left
  ·simp only [Act.put, List.setIfInBounds_toArray, List.set_cons_zero, List.set_cons_succ, i64_w, i32_w]
   rfl
  refine pure_ (i := 1) (N := some 34) (v := ?_) (a' := ?_) #[true, true, false, false, false, false, false, false, false, false, false, false, false, false, false, false, false, false, false, false, false, false, false, false, false, false, false, false, false, false, false, false, false, false, false] rfl rfl (any_of HT_.out (by kernel_rfl)) (fun _ _ _ h => h) (Or.inl ⟨by rfl, ?_⟩) ?_ ?_
  rotate_left
  ·intro w'
   go_simp
   with_reducible rfl
  rotate_left
  ·simp only [Act.put, List.setIfInBounds_toArray, List.set_cons_zero, List.set_cons_succ, i64_w, i32_w]
   rfl
  refine pure_ (i := 3) (N := some 36) (v := ?_) (a' := ?_) #[true, true, false, true, false, false, false, false, false, false, false, false, false, false, false, false, false, false, false, false, false, false, false, false, false, false, false, false, false, false, false, false, false, false, false] rfl rfl (any_of HT_.out (by kernel_rfl)) (fun _ _ _ h => h) (Or.inl ⟨by rfl, ?_⟩) ?_ ?_
  rotate_left
  ·intro w'
   go_simp
   with_reducible rfl
  rotate_left
  ·simp only [Act.put, List.setIfInBounds_toArray, List.set_cons_zero, List.set_cons_succ, i64_w, i32_w]
   rfl
  refine pure_ (i := 4) (N := some 37) (v := ?_) (a' := ?_) #[true, true, false, true, true, false, false, false, false, false, false, false, false, false, false, false, false, false, false, false, false, false, false, false, false, false, false, false, false, false, false, false, false, false, false] rfl rfl (any_of HT_.out (by kernel_rfl)) (fun _ _ _ h => h) (Or.inl ⟨by rfl, ?_⟩) ?_ ?_
  rotate_left
  ·intro w'
   go_simp
   with_reducible rfl
  rotate_left
  ·simp only [Act.put, List.setIfInBounds_toArray, List.set_cons_zero, List.set_cons_succ, i64_w, i32_w]
   rfl
  refine pure_ (i := 6) (N := some 39) (v := ?_) (a' := ?_) #[true, true, false, true, true, false, true, false, false, false, false, false, false, false, false, false, false, false, false, false, false, false, false, false, false, false, false, false, false, false, false, false, false, false, false] rfl rfl (any_of HT_.out (by kernel_rfl)) (fun _ _ _ h => h) (Or.inl ⟨by rfl, ?_⟩) ?_ ?_
  rotate_left
  ·intro w'
   go_simp
   with_reducible rfl
  rotate_left
  ·simp only [Act.put, List.setIfInBounds_toArray, List.set_cons_zero, List.set_cons_succ, i64_w, i32_w]
   rfl
  refine pure_ (i := 7) (N := some 40) (v := ?_) (a' := ?_) #[true, true, false, true, true, false, true, true, false, false, false, false, false, false, false, false, false, false, false, false, false, false, false, false, false, false, false, false, false, false, false, false, false, false, false] rfl rfl (any_of HT_.out (by kernel_rfl)) (fun _ _ _ h => h) (Or.inl ⟨by rfl, ?_⟩) ?_ ?_
  rotate_left
  ·intro w'
   go_simp
   with_reducible rfl
  rotate_left
  ·simp only [Act.put, List.setIfInBounds_toArray, List.set_cons_zero, List.set_cons_succ, i64_w, i32_w]
   rfl
  refine pure_ (i := 9) (N := some 42) (v := ?_) (a' := ?_) #[true, true, false, true, true, false, true, true, false, true, false, false, false, false, false, false, false, false, false, false, false, false, false, false, false, false, false, false, false, false, false, false, false, false, false] rfl rfl (any_of HT_.out (by kernel_rfl)) (fun _ _ _ h => h) (Or.inl ⟨by rfl, ?_⟩) ?_ ?_
  rotate_left
  ·intro w'
   go_simp
   with_reducible rfl
  rotate_left
  ·simp only [Act.put, List.setIfInBounds_toArray, List.set_cons_zero, List.set_cons_succ, i64_w, i32_w]
   rfl
  refine pure_ (i := 10) (N := some 43) (v := ?_) (a' := ?_) #[true, true, false, true, true, false, true, true, false, true, true, false, false, false, false, false, false, false, false, false, false, false, false, false, false, false, false, false, false, false, false, false, false, false, false] rfl rfl (any_of HT_.out (by kernel_rfl)) (fun _ _ _ h => h) (Or.inl ⟨by rfl, ?_⟩) ?_ ?_
  rotate_left
  ·intro w'
   go_simp
   with_reducible rfl
  rotate_left
  ·simp only [Act.put, List.setIfInBounds_toArray, List.set_cons_zero, List.set_cons_succ, i64_w, i32_w]
   rfl
  refine pure_ (i := 12) (N := some 45) (v := ?_) (a' := ?_) #[true, true, false, true, true, false, true, true, false, true, true, false, true, false, false, false, false, false, false, false, false, false, false, false, false, false, false, false, false, false, false, false, false, false, false] rfl rfl (any_of HT_.out (by kernel_rfl)) (fun _ _ _ h => h) (Or.inl ⟨by rfl, ?_⟩) ?_ ?_
  rotate_left
  ·intro w'
   go_simp
   with_reducible rfl
  rotate_left
  ·simp only [Act.put, List.setIfInBounds_toArray, List.set_cons_zero, List.set_cons_succ, i64_w, i32_w]
   rfl
  refine pure_ (i := 13) (N := some 46) (v := ?_) (a' := ?_) #[true, true, false, true, true, false, true, true, false, true, true, false, true, true, false, false, false, false, false, false, false, false, false, false, false, false, false, false, false, false, false, false, false, false, false] rfl rfl (any_of HT_.out (by kernel_rfl)) (fun _ _ _ h => h) (Or.inl ⟨by rfl, ?_⟩) ?_ ?_
  rotate_left
  ·intro w'
   go_simp
   with_reducible rfl
  rotate_left
  ·simp only [Act.put, List.setIfInBounds_toArray, List.set_cons_zero, List.set_cons_succ, i64_w, i32_w]
   rfl
  refine pure_ (i := 15) (N := some 48) (v := ?_) (a' := ?_) #[true, true, false, true, true, false, true, true, false, true, true, false, true, true, false, true, false, false, false, false, false, false, false, false, false, false, false, false, false, false, false, false, false, false, false] rfl rfl (any_of HT_.out (by kernel_rfl)) (fun _ _ _ h => h) (Or.inl ⟨by rfl, ?_⟩) ?_ ?_
  rotate_left
  ·intro w'
   go_simp
   with_reducible rfl
  rotate_left
  ·simp only [Act.put, List.setIfInBounds_toArray, List.set_cons_zero, List.set_cons_succ, i64_w, i32_w]
   rfl
  refine pure_ (i := 16) (N := some 49) (v := ?_) (a' := ?_) #[true, true, false, true, true, false, true, true, false, true, true, false, true, true, false, true, true, false, false, false, false, false, false, false, false, false, false, false, false, false, false, false, false, false, false] rfl rfl (any_of HT_.out (by kernel_rfl)) (fun _ _ _ h => h) (Or.inl ⟨by rfl, ?_⟩) ?_ ?_
  rotate_left
  ·intro w'
   go_simp
   with_reducible rfl
  rotate_left
  ·simp only [Act.put, List.setIfInBounds_toArray, List.set_cons_zero, List.set_cons_succ, i64_w, i32_w]
   rfl
  refine pure_ (i := 18) (N := some 51) (v := ?_) (a' := ?_) #[true, true, false, true, true, false, true, true, false, true, true, false, true, true, false, true, true, false, true, false, false, false, false, false, false, false, false, false, false, false, false, false, false, false, false] rfl rfl (any_of HT_.out (by kernel_rfl)) (fun _ _ _ h => h) (Or.inl ⟨by rfl, ?_⟩) ?_ ?_
  rotate_left
  ·intro w'
   go_simp
   with_reducible rfl
  rotate_left
  ·simp only [Act.put, List.setIfInBounds_toArray, List.set_cons_zero, List.set_cons_succ, i64_w, i32_w]
   rfl
  refine pure_ (i := 19) (N := some 52) (v := ?_) (a' := ?_) #[true, true, false, true, true, false, true, true, false, true, true, false, true, true, false, true, true, false, true, true, false, false, false, false, false, false, false, false, false, false, false, false, false, false, false] rfl rfl (any_of HT_.out (by kernel_rfl)) (fun _ _ _ h => h) (Or.inl ⟨by rfl, ?_⟩) ?_ ?_
  rotate_left
  ·intro w'
   go_simp
   with_reducible rfl
  rotate_left
  ·simp only [Act.put, List.setIfInBounds_toArray, List.set_cons_zero, List.set_cons_succ, i64_w, i32_w]
   rfl
  refine pure_ (i := 21) (N := some 54) (v := ?_) (a' := ?_) #[true, true, false, true, true, false, true, true, false, true, true, false, true, true, false, true, true, false, true, true, false, true, false, false, false, false, false, false, false, false, false, false, false, false, false] rfl rfl (any_of HT_.out (by kernel_rfl)) (fun _ _ _ h => h) (Or.inl ⟨by rfl, ?_⟩) ?_ ?_
  rotate_left
  ·intro w'
   go_simp
   with_reducible rfl
  rotate_left
  ·simp only [Act.put, List.setIfInBounds_toArray, List.set_cons_zero, List.set_cons_succ, i64_w, i32_w]
   rfl
  refine pure_ (i := 22) (N := some 55) (v := ?_) (a' := ?_) #[true, true, false, true, true, false, true, true, false, true, true, false, true, true, false, true, true, false, true, true, false, true, true, false, false, false, false, false, false, false, false, false, false, false, false] rfl rfl (any_of HT_.out (by kernel_rfl)) (fun _ _ _ h => h) (Or.inl ⟨by rfl, ?_⟩) ?_ ?_
  rotate_left
  ·intro w'
   go_simp
   with_reducible rfl
  rotate_left
  ·simp only [Act.put, List.setIfInBounds_toArray, List.set_cons_zero, List.set_cons_succ, i64_w, i32_w]
   rfl
  refine pure_ (i := 23) (N := some 56) (v := ?_) (a' := ?_) #[true, true, false, true, true, false, true, true, false, true, true, false, true, true, false, true, true, false, true, true, false, true, true, true, false, false, false, false, false, false, false, false, false, false, false] rfl rfl (any_of HT_.out (by kernel_rfl)) (fun _ _ _ h => h) (Or.inl ⟨by rfl, ?_⟩) ?_ ?_
  rotate_left
  ·intro w'
   go_simp
   with_reducible rfl
  rotate_left
  ·simp only [Act.put, List.setIfInBounds_toArray, List.set_cons_zero, List.set_cons_succ, i64_w, i32_w]
   rfl
  refine pure_ (i := 25) (N := some 58) (v := ?_) (a' := ?_) #[true, true, false, true, true, false, true, true, false, true, true, false, true, true, false, true, true, false, true, true, false, true, true, true, false, true, false, false, false, false, false, false, false, false, false] rfl rfl (any_of HT_.out (by kernel_rfl)) (fun _ _ _ h => h) (Or.inl ⟨by rfl, ?_⟩) ?_ ?_
  rotate_left
  ·intro w'
   go_simp
   with_reducible rfl
  rotate_left
  ·simp only [Act.put, List.setIfInBounds_toArray, List.set_cons_zero, List.set_cons_succ, i64_w, i32_w]
   rfl
  refine pure_ (i := 26) (N := some 59) (v := ?_) (a' := ?_) #[true, true, false, true, true, false, true, true, false, true, true, false, true, true, false, true, true, false, true, true, false, true, true, true, false, true, true, false, false, false, false, false, false, false, false] rfl rfl (any_of HT_.out (by kernel_rfl)) (fun _ _ _ h => h) (Or.inl ⟨by rfl, ?_⟩) ?_ ?_
  rotate_left
  ·intro w'
   go_simp
   with_reducible rfl
  rotate_left
  ·simp only [Act.put, List.setIfInBounds_toArray, List.set_cons_zero, List.set_cons_succ, i64_w, i32_w]
   rfl
  refine pure_ (i := 28) (N := some 61) (v := ?_) (a' := ?_) #[true, true, false, true, true, false, true, true, false, true, true, false, true, true, false, true, true, false, true, true, false, true, true, true, false, true, true, false, true, false, false, false, false, false, false] rfl rfl (any_of HT_.out (by kernel_rfl)) (fun _ _ _ h => h) (Or.inl ⟨by rfl, ?_⟩) ?_ ?_
  rotate_left
  ·intro w'
   go_simp
   with_reducible rfl
  rotate_left
  ·simp only [Act.put, List.setIfInBounds_toArray, List.set_cons_zero, List.set_cons_succ, i64_w, i32_w]
   rfl
  refine pure_ (i := 29) (N := some 62) (v := ?_) (a' := ?_) #[true, true, false, true, true, false, true, true, false, true, true, false, true, true, false, true, true, false, true, true, false, true, true, true, false, true, true, false, true, true, false, false, false, false, false] rfl rfl (any_of HT_.out (by kernel_rfl)) (fun _ _ _ h => h) (Or.inl ⟨by rfl, ?_⟩) ?_ ?_
  rotate_left
  ·intro w'
   go_simp
   with_reducible rfl
  rotate_left
  ·simp only [Act.put, List.setIfInBounds_toArray, List.set_cons_zero, List.set_cons_succ, i64_w, i32_w]
   rfl
  refine pure_ (i := 31) (N := some 64) (v := ?_) (a' := ?_) #[true, true, false, true, true, false, true, true, false, true, true, false, true, true, false, true, true, false, true, true, false, true, true, true, false, true, true, false, true, true, false, true, false, false, false] rfl rfl (any_of HT_.out (by kernel_rfl)) (fun _ _ _ h => h) (Or.inl ⟨by rfl, ?_⟩) ?_ ?_
  rotate_left
  ·intro w'
   go_simp
   with_reducible rfl
  rotate_left
  ·simp only [Act.put, List.setIfInBounds_toArray, List.set_cons_zero, List.set_cons_succ, i64_w, i32_w]
   rfl
  refine take_ (i := 2) (N := some 35) (v := ?_) (a' := ?_) #[true, true, true, true, true, false, true, true, false, true, true, false, true, true, false, true, true, false, true, true, false, true, true, true, false, true, true, false, true, true, false, true, false, false, false] rfl rfl (take_ofW HT_.out HW_.out (by kernel_rfl)) (fun _ _ _ h => h) (Or.inl ⟨by rfl, ?_⟩) hHeld ?_ ?_
  rotate_left
  ·rintro w' ⟨s0, s1, s2, s3, s4, s5, s6, s7, s8, s9⟩
   go_simp
   with_reducible rfl
  rotate_left
  ·simp only [Act.put, List.setIfInBounds_toArray, List.set_cons_zero, List.set_cons_succ, i64_w, i32_w]
   rfl
  refine take_ (i := 5) (N := some 38) (v := ?_) (a' := ?_) #[true, true, true, true, true, true, true, true, false, true, true, false, true, true, false, true, true, false, true, true, false, true, true, true, false, true, true, false, true, true, false, true, false, false, false] rfl rfl (take_ofW HT_.out HW_.out (by kernel_rfl)) (fun _ _ _ h => h) (Or.inl ⟨by rfl, ?_⟩) hHeld ?_ ?_
  rotate_left
  ·rintro w' ⟨s0, s1, s2, s3, s4, s5, s6, s7, s8, s9⟩
   go_simp
   with_reducible rfl
  rotate_left
  ·simp only [Act.put, List.setIfInBounds_toArray, List.set_cons_zero, List.set_cons_succ, i64_w, i32_w]
   rfl
  refine take_ (i := 8) (N := some 41) (v := ?_) (a' := ?_) #[true, true, true, true, true, true, true, true, true, true, true, false, true, true, false, true, true, false, true, true, false, true, true, true, false, true, true, false, true, true, false, true, false, false, false] rfl rfl (take_ofW HT_.out HW_.out (by kernel_rfl)) (fun _ _ _ h => h) (Or.inl ⟨by rfl, ?_⟩) hHeld ?_ ?_
  rotate_left
  ·rintro w' ⟨s0, s1, s2, s3, s4, s5, s6, s7, s8, s9⟩
   go_simp
   with_reducible rfl
  rotate_left
  ·simp only [Act.put, List.setIfInBounds_toArray, List.set_cons_zero, List.set_cons_succ, i64_w, i32_w]
   rfl
  refine take_ (i := 11) (N := some 44) (v := ?_) (a' := ?_) #[true, true, true, true, true, true, true, true, true, true, true, true, true, true, false, true, true, false, true, true, false, true, true, true, false, true, true, false, true, true, false, true, false, false, false] rfl rfl (take_ofW HT_.out HW_.out (by kernel_rfl)) (fun _ _ _ h => h) (Or.inl ⟨by rfl, ?_⟩) hHeld ?_ ?_
  rotate_left
  ·rintro w' ⟨s0, s1, s2, s3, s4, s5, s6, s7, s8, s9⟩
   go_simp
   with_reducible rfl
  rotate_left
  ·simp only [Act.put, List.setIfInBounds_toArray, List.set_cons_zero, List.set_cons_succ, i64_w, i32_w]
   rfl
  refine take_ (i := 14) (N := some 47) (v := ?_) (a' := ?_) #[true, true, true, true, true, true, true, true, true, true, true, true, true, true, true, true, true, false, true, true, false, true, true, true, false, true, true, false, true, true, false, true, false, false, false] rfl rfl (take_ofW HT_.out HW_.out (by kernel_rfl)) (fun _ _ _ h => h) (Or.inl ⟨by rfl, ?_⟩) hHeld ?_ ?_
  rotate_left
  ·rintro w' ⟨s0, s1, s2, s3, s4, s5, s6, s7, s8, s9⟩
   go_simp
   with_reducible rfl
  rotate_left
  ·simp only [Act.put, List.setIfInBounds_toArray, List.set_cons_zero, List.set_cons_succ, i64_w, i32_w]
   rfl
  refine take_ (i := 17) (N := some 50) (v := ?_) (a' := ?_) #[true, true, true, true, true, true, true, true, true, true, true, true, true, true, true, true, true, true, true, true, false, true, true, true, false, true, true, false, true, true, false, true, false, false, false] rfl rfl (take_ofW HT_.out HW_.out (by kernel_rfl)) (fun _ _ _ h => h) (Or.inl ⟨by rfl, ?_⟩) hHeld ?_ ?_
  rotate_left
  ·rintro w' ⟨s0, s1, s2, s3, s4, s5, s6, s7, s8, s9⟩
   go_simp
   with_reducible rfl
  rotate_left
  ·simp only [Act.put, List.setIfInBounds_toArray, List.set_cons_zero, List.set_cons_succ, i64_w, i32_w]
   rfl
  refine take_ (i := 20) (N := some 53) (v := ?_) (a' := ?_) #[true, true, true, true, true, true, true, true, true, true, true, true, true, true, true, true, true, true, true, true, true, true, true, true, false, true, true, false, true, true, false, true, false, false, false] rfl rfl (take_ofW HT_.out HW_.out (by kernel_rfl)) (fun _ _ _ h => h) (Or.inl ⟨by rfl, ?_⟩) hHeld ?_ ?_
  rotate_left
  ·rintro w' ⟨s0, s1, s2, s3, s4, s5, s6, s7, s8, s9⟩
   go_simp
   with_reducible rfl
  rotate_left
  ·simp only [Act.put, List.setIfInBounds_toArray, List.set_cons_zero, List.set_cons_succ, i64_w, i32_w]
   rfl
  refine take_ (i := 24) (N := some 57) (v := ?_) (a' := ?_) #[true, true, true, true, true, true, true, true, true, true, true, true, true, true, true, true, true, true, true, true, true, true, true, true, true, true, true, false, true, true, false, true, false, false, false] rfl rfl (take_ofW HT_.out HW_.out (by kernel_rfl)) (fun _ _ _ h => h) (Or.inl ⟨by rfl, ?_⟩) hHeld ?_ ?_
  rotate_left
  ·rintro w' ⟨s0, s1, s2, s3, s4, s5, s6, s7, s8, s9⟩
   go_simp
   with_reducible rfl
  rotate_left
  ·simp only [Act.put, List.setIfInBounds_toArray, List.set_cons_zero, List.set_cons_succ, i64_w, i32_w]
   rfl
  refine take_ (i := 27) (N := some 60) (v := ?_) (a' := ?_) #[true, true, true, true, true, true, true, true, true, true, true, true, true, true, true, true, true, true, true, true, true, true, true, true, true, true, true, true, true, true, false, true, false, false, false] rfl rfl (take_ofW HT_.out HW_.out (by kernel_rfl)) (fun _ _ _ h => h) (Or.inl ⟨by rfl, ?_⟩) hHeld ?_ ?_
  rotate_left
  ·rintro w' ⟨s0, s1, s2, s3, s4, s5, s6, s7, s8, s9⟩
   go_simp
   with_reducible rfl
  rotate_left
  ·simp only [Act.put, List.setIfInBounds_toArray, List.set_cons_zero, List.set_cons_succ, i64_w, i32_w]
   rfl
  refine take_ (i := 30) (N := some 63) (v := ?_) (a' := ?_) #[true, true, true, true, true, true, true, true, true, true, true, true, true, true, true, true, true, true, true, true, true, true, true, true, true, true, true, true, true, true, true, true, false, false, false] rfl rfl (take_ofW HT_.out HW_.out (by kernel_rfl)) (fun _ _ _ h => h) (Or.inl ⟨by rfl, ?_⟩) hHeld ?_ ?_
  rotate_left
  ·rintro w' ⟨s0, s1, s2, s3, s4, s5, s6, s7, s8, s9⟩
   go_simp
   with_reducible rfl
  rotate_left
  ·simp only [Act.put, List.setIfInBounds_toArray, List.set_cons_zero, List.set_cons_succ, i64_w, i32_w]
   rfl
  refine pure_ (i := 32) (N := some 65) (v := ?_) (a' := ?_) #[true, true, true, true, true, true, true, true, true, true, true, true, true, true, true, true, true, true, true, true, true, true, true, true, true, true, true, true, true, true, true, true, true, false, false] rfl rfl (any_of HT_.out (by kernel_rfl)) (fun _ _ _ h => h) (Or.inl ⟨by rfl, ?_⟩) ?_ ?_
  rotate_left
  ·intro w'
   go_simp
   with_reducible rfl
  rotate_left
  ·simp only [Act.put, List.setIfInBounds_toArray, List.set_cons_zero, List.set_cons_succ, i64_w, i32_w]
   rfl
  refine one_ (i := 33) (N := some 10) #[true, true, true, true, true, true, true, true, true, true, true, true, true, true, true, true, true, true, true, true, true, true, true, true, true, true, true, true, true, true, true, true, true, true, false] rfl rfl (one_of HT_.out (by kernel_rfl)) (by decide) (fun K hK => ?_)
  refine box_step ?hg (N := 10) ?hd (cs := #[.string (⟨#[]⟩ : ByteArray), .string (⟨#[]⟩ : ByteArray), .string (⟨#[]⟩ : ByteArray), .string (⟨#[]⟩ : ByteArray), .string (⟨#[]⟩ : ByteArray), .string (⟨#[]⟩ : ByteArray), .string (⟨#[]⟩ : ByteArray), .int .i64 0, .string (⟨#[]⟩ : ByteArray), .string (⟨#[]⟩ : ByteArray), .string (⟨#[]⟩ : ByteArray), .int .i64 0]) (t := 41) ?hr ?_; (case hd => rfl); (case hg => rfl); (case hr => first | (go_simp; done) | (go_simp; rfl))
  intro gb250 hg w28 hbox hb
  have HS0_ := (hb.cell (World.block_lt_of_cell? _ _ (hHeld.1))).trans (hHeld.1)
  have HS1_ := (hb.cell (World.block_lt_of_cell? _ _ (hHeld.2.1))).trans (hHeld.2.1)
  have HS2_ := (hb.cell (World.block_lt_of_cell? _ _ (hHeld.2.2.1))).trans (hHeld.2.2.1)
  have HS3_ := (hb.cell (World.block_lt_of_cell? _ _ (hHeld.2.2.2.1))).trans (hHeld.2.2.2.1)
  have HS4_ := (hb.cell (World.block_lt_of_cell? _ _ (hHeld.2.2.2.2.1))).trans (hHeld.2.2.2.2.1)
  have HS5_ := (hb.cell (World.block_lt_of_cell? _ _ (hHeld.2.2.2.2.2.1))).trans (hHeld.2.2.2.2.2.1)
  have HS6_ := (hb.cell (World.block_lt_of_cell? _ _ (hHeld.2.2.2.2.2.2.1))).trans (hHeld.2.2.2.2.2.2.1)
  have HS7_ := (hb.cell (World.block_lt_of_cell? _ _ (hHeld.2.2.2.2.2.2.2.1))).trans (hHeld.2.2.2.2.2.2.2.1)
  have HS8_ := (hb.cell (World.block_lt_of_cell? _ _ (hHeld.2.2.2.2.2.2.2.2.1))).trans (hHeld.2.2.2.2.2.2.2.2.1)
  have HS9_ := (hb.cell (World.block_lt_of_cell? _ _ (hHeld.2.2.2.2.2.2.2.2.2))).trans (hHeld.2.2.2.2.2.2.2.2.2)
  have n0_ := Aside0.mk (Kd.R_below (by (with_reducible repeat (first | apply Kd.R_alloc | apply Kd.R_drewN | apply Kd.R_drew)); exact HO233.out) hb)
  have n1_ := Aside0.mk (blk_belowB BK229.out (by (with_reducible repeat (first | refine blk_drewN ?_ _ | refine blk_drew ?_ | refine blk_alloc ?_ _)); exact BK229.out) hb)
  have n2_ := Aside0.mk (below_step (by repeat (first | (with_reducible first | exact HB.out | apply below_alloc | apply pw_below_drewN | apply below_drew1 | refine below_set ?_ GE229.out) | exact HB.out)) hb)
  have n3_ := Aside0.mk (hbox)
  have n4_ := Aside0.mk ((by rw [hg]; exact (below_size (by repeat (first | (with_reducible first | exact HB.out | apply below_alloc | apply pw_below_drewN | apply below_drew1 | refine below_set ?_ GE229.out) | exact HB.out))) : w.heap.size ≤ gb250))
  have n5_ := Aside0.mk ((by rw [hg]; exact (below_size (by repeat (first | (with_reducible first | exact HB.out | apply below_alloc | apply pw_below_drewN | apply below_drew1 | refine below_set ?_ GE229.out) | exact HB.out))) : w.heap.size ≤ gb250))
  have n6_ := Aside0.mk ((by rw [hg]; exact Nat.ne_of_lt (blk_lt (g := gb229) (o := .cells #[.string (⟨#[]⟩ : ByteArray), .string (⟨#[]⟩ : ByteArray), .string (⟨#[]⟩ : ByteArray), .string (⟨#[]⟩ : ByteArray), .string (⟨#[]⟩ : ByteArray), .string (⟨#[]⟩ : ByteArray), .string (⟨#[]⟩ : ByteArray), .int .i64 0, .string (⟨#[]⟩ : ByteArray), .string (⟨#[]⟩ : ByteArray), .string (⟨#[]⟩ : ByteArray), .int .i64 0] 41 (0, 0)) (by (with_reducible repeat (first | refine blk_drewN ?_ _ | refine blk_drew ?_ | refine blk_alloc ?_ _)); exact BK229.out)) : gb229 ≠ gb250))
  have n7_ := Aside0.mk ((by rw [hg]; exact Nat.ne_of_gt (blk_lt (g := gb229) (o := .cells #[.string (⟨#[]⟩ : ByteArray), .string (⟨#[]⟩ : ByteArray), .string (⟨#[]⟩ : ByteArray), .string (⟨#[]⟩ : ByteArray), .string (⟨#[]⟩ : ByteArray), .string (⟨#[]⟩ : ByteArray), .string (⟨#[]⟩ : ByteArray), .int .i64 0, .string (⟨#[]⟩ : ByteArray), .string (⟨#[]⟩ : ByteArray), .string (⟨#[]⟩ : ByteArray), .int .i64 0] 41 (0, 0)) (by (with_reducible repeat (first | refine blk_drewN ?_ _ | refine blk_drew ?_ | refine blk_alloc ?_ _)); exact BK229.out)) : gb250 ≠ gb229))
  clear HO233; clear BK229; clear HB
  have HO233 := n0_
  have BK229 := n1_
  have HB := n2_
  have BK250 := n3_
  have GW250 := n4_
  have GE250 := n5_
  have NB229_250 := n6_
  have NB250_229 := n7_
  clear n0_ n1_ n2_ n3_ n4_ n5_ n6_ n7_; clear hb hbox hg
  refine hK.out _ _ ⟨HS0_, HS1_, HS2_, HS3_, HS4_, HS5_, HS6_, HS7_, HS8_, HS9_⟩ (fun hHeld => ?_)
  clear hK K
  refine norm_ (a' := ?_) ?_ ?_
  rotate_left
  ·show Act.put _ (some 10) _ = _
   simp only [Act.put, List.setIfInBounds_toArray, List.set_cons_zero, List.set_cons_succ, i64_w, i32_w]
   rfl
  refine one_ (i := 34) (N := none) #[true, true, true, true, true, true, true, true, true, true, true, true, true, true, true, true, true, true, true, true, true, true, true, true, true, true, true, true, true, true, true, true, true, true, true] rfl rfl (one_of HT_.out (by kernel_rfl)) (by decide) (fun K hK => ?_)
  have hs29 : w28.cell? ⟨gb250, 0, none⟩ = some (.string (⟨#[]⟩ : ByteArray)) := (blk_cell BK250.out 0).trans rfl
  have hfs29 := blk_frozen BK250.out 0
  have hns29_0 := NB229_250.out
  have hms29_0 := NB250_229.out
  have hs30 : w28.cell? ⟨gb250, 1, none⟩ = some (.string (⟨#[]⟩ : ByteArray)) := (blk_cell BK250.out 1).trans rfl
  have hfs30 := blk_frozen BK250.out 1
  have hns30_0 := NB229_250.out
  have hms30_0 := NB250_229.out
  have hs31 : w28.cell? ⟨gb250, 2, none⟩ = some (.string (⟨#[]⟩ : ByteArray)) := (blk_cell BK250.out 2).trans rfl
  have hfs31 := blk_frozen BK250.out 2
  have hns31_0 := NB229_250.out
  have hms31_0 := NB250_229.out
  have hs32 : w28.cell? ⟨gb250, 3, none⟩ = some (.string (⟨#[]⟩ : ByteArray)) := (blk_cell BK250.out 3).trans rfl
  have hfs32 := blk_frozen BK250.out 3
  have hns32_0 := NB229_250.out
  have hms32_0 := NB250_229.out
  have hs33 : w28.cell? ⟨gb250, 4, none⟩ = some (.string (⟨#[]⟩ : ByteArray)) := (blk_cell BK250.out 4).trans rfl
  have hfs33 := blk_frozen BK250.out 4
  have hns33_0 := NB229_250.out
  have hms33_0 := NB250_229.out
  have hs34 : w28.cell? ⟨gb250, 5, none⟩ = some (.string (⟨#[]⟩ : ByteArray)) := (blk_cell BK250.out 5).trans rfl
  have hfs34 := blk_frozen BK250.out 5
  have hns34_0 := NB229_250.out
  have hms34_0 := NB250_229.out
  have hs35 : w28.cell? ⟨gb250, 6, none⟩ = some (.string (⟨#[]⟩ : ByteArray)) := (blk_cell BK250.out 6).trans rfl
  have hfs35 := blk_frozen BK250.out 6
  have hns35_0 := NB229_250.out
  have hms35_0 := NB250_229.out
  have hs36 : w28.cell? ⟨gb250, 7, none⟩ = some (.int .i64 0) := (blk_cell BK250.out 7).trans rfl
  have hfs36 := blk_frozen BK250.out 7
  have hns36_0 := NB229_250.out
  have hms36_0 := NB250_229.out
  have hs37 : w28.cell? ⟨gb250, 8, none⟩ = some (.string (⟨#[]⟩ : ByteArray)) := (blk_cell BK250.out 8).trans rfl
  have hfs37 := blk_frozen BK250.out 8
  have hns37_0 := NB229_250.out
  have hms37_0 := NB250_229.out
  have hs38 : w28.cell? ⟨gb250, 9, none⟩ = some (.string (⟨#[]⟩ : ByteArray)) := (blk_cell BK250.out 9).trans rfl
  have hfs38 := blk_frozen BK250.out 9
  have hns38_0 := NB229_250.out
  have hms38_0 := NB250_229.out
  have hs39 : w28.cell? ⟨gb250, 10, none⟩ = some (.string (⟨#[]⟩ : ByteArray)) := (blk_cell BK250.out 10).trans rfl
  have hfs39 := blk_frozen BK250.out 10
  have hns39_0 := NB229_250.out
  have hms39_0 := NB250_229.out
  have hs40 : w28.cell? ⟨gb250, 11, none⟩ = some (.int .i64 0) := (blk_cell BK250.out 11).trans rfl
  have hfs40 := blk_frozen BK250.out 11
  have hns40_0 := NB229_250.out
  have hms40_0 := NB250_229.out
  refine skip_ (w1 := ?_) (by rfl) rfl ?_ ?_
  rotate_left
  ·go_simp
   rfl
  have hne0_ := Kd.own_blk (Kd.R_ne HO233.out BK250.out (by decide))
  refine hK.out _ _ ⟨(cfar (cfar (cfar (cfar (cfar (cfar (cfar (cfar (cfar (cfar (cfar (cfar hHeld.1 hne0_) hne0_) hne0_) hne0_) hne0_) hne0_) hne0_) hne0_) hne0_) hne0_) hne0_) hne0_), (cfar (cfar (cfar (cfar (cfar (cfar (cfar (cfar (cfar (cfar (cfar (cfar hHeld.2.1 hne0_) hne0_) hne0_) hne0_) hne0_) hne0_) hne0_) hne0_) hne0_) hne0_) hne0_) hne0_), (cfar (cfar (cfar (cfar (cfar (cfar (cfar (cfar (cfar (cfar (cfar (cfar hHeld.2.2.1 hne0_) hne0_) hne0_) hne0_) hne0_) hne0_) hne0_) hne0_) hne0_) hne0_) hne0_) hne0_), (cfar (cfar (cfar (cfar (cfar (cfar (cfar (cfar (cfar (cfar (cfar (cfar hHeld.2.2.2.1 hne0_) hne0_) hne0_) hne0_) hne0_) hne0_) hne0_) hne0_) hne0_) hne0_) hne0_) hne0_), (cfar (cfar (cfar (cfar (cfar (cfar (cfar (cfar (cfar (cfar (cfar (cfar hHeld.2.2.2.2.1 hne0_) hne0_) hne0_) hne0_) hne0_) hne0_) hne0_) hne0_) hne0_) hne0_) hne0_) hne0_), (cfar (cfar (cfar (cfar (cfar (cfar (cfar (cfar (cfar (cfar (cfar (cfar hHeld.2.2.2.2.2.1 hne0_) hne0_) hne0_) hne0_) hne0_) hne0_) hne0_) hne0_) hne0_) hne0_) hne0_) hne0_), (cfar (cfar (cfar (cfar (cfar (cfar (cfar (cfar (cfar (cfar (cfar (cfar hHeld.2.2.2.2.2.2.1 hne0_) hne0_) hne0_) hne0_) hne0_) hne0_) hne0_) hne0_) hne0_) hne0_) hne0_) hne0_), (cfar (cfar (cfar (cfar (cfar (cfar (cfar (cfar (cfar (cfar (cfar (cfar hHeld.2.2.2.2.2.2.2.1 hne0_) hne0_) hne0_) hne0_) hne0_) hne0_) hne0_) hne0_) hne0_) hne0_) hne0_) hne0_), (cfar (cfar (cfar (cfar (cfar (cfar (cfar (cfar (cfar (cfar (cfar (cfar hHeld.2.2.2.2.2.2.2.2.1 hne0_) hne0_) hne0_) hne0_) hne0_) hne0_) hne0_) hne0_) hne0_) hne0_) hne0_) hne0_), (cfar (cfar (cfar (cfar (cfar (cfar (cfar (cfar (cfar (cfar (cfar (cfar hHeld.2.2.2.2.2.2.2.2.2 hne0_) hne0_) hne0_) hne0_) hne0_) hne0_) hne0_) hne0_) hne0_) hne0_) hne0_) hne0_)⟩ (fun hHeld => ?_)
  (try clear hne0_); clear hK K
  refine done_ (done_of HT_.out (by kernel_rfl)) ?_
  have H := HH_.out
  clear HH_
  by_cases c18 : t236 = true
  ·subst c18
   have H1 : (if t239 = true then ((row_Session.f (rdOf ByteArray.empty t230 0) (rdOf ByteArray.empty t230 1) (rdOf ByteArray.empty t230 2) (rdOf ByteArray.empty t230 3) (rdOf ByteArray.empty t230 4) (rdOf ByteArray.empty t230 5) (rdOf ByteArray.empty t230 6) t235 (rdOf ByteArray.empty t230 8) (rdOf ByteArray.empty t230 9) (rdOf ByteArray.empty t230 10) t238).bind fun t251 => (if t251.toList = a0.toList then (some (rdOf ByteArray.empty t230 0, rdOf ByteArray.empty t230 1, rdOf ByteArray.empty t230 2, rdOf ByteArray.empty t230 3, rdOf ByteArray.empty t230 4, rdOf ByteArray.empty t230 5, rdOf ByteArray.empty t230 6, t235, rdOf ByteArray.empty t230 8, rdOf ByteArray.empty t230 9, rdOf ByteArray.empty t230 10, t238, 0)) else (some ((⟨#[]⟩ : ByteArray), (⟨#[]⟩ : ByteArray), (⟨#[]⟩ : ByteArray), (⟨#[]⟩ : ByteArray), (⟨#[]⟩ : ByteArray), (⟨#[]⟩ : ByteArray), (⟨#[]⟩ : ByteArray), 0, (⟨#[]⟩ : ByteArray), (⟨#[]⟩ : ByteArray), (⟨#[]⟩ : ByteArray), 0, 2)))) else (some ((⟨#[]⟩ : ByteArray), (⟨#[]⟩ : ByteArray), (⟨#[]⟩ : ByteArray), (⟨#[]⟩ : ByteArray), (⟨#[]⟩ : ByteArray), (⟨#[]⟩ : ByteArray), (⟨#[]⟩ : ByteArray), 0, (⟨#[]⟩ : ByteArray), (⟨#[]⟩ : ByteArray), (⟨#[]⟩ : ByteArray), 0, 2))) = some (r1, r2, r3, r4, r5, r6, r7, r8, r9, r10, r11, r12, r13) := by rw [if_pos rfl] at H; exact H
   clear H
   have H := H1
   clear H1
   by_cases c19 : t239 = true
   ·subst c19
    have H1 : ((row_Session.f (rdOf ByteArray.empty t230 0) (rdOf ByteArray.empty t230 1) (rdOf ByteArray.empty t230 2) (rdOf ByteArray.empty t230 3) (rdOf ByteArray.empty t230 4) (rdOf ByteArray.empty t230 5) (rdOf ByteArray.empty t230 6) t235 (rdOf ByteArray.empty t230 8) (rdOf ByteArray.empty t230 9) (rdOf ByteArray.empty t230 10) t238).bind fun t251 => (if t251.toList = a0.toList then (some (rdOf ByteArray.empty t230 0, rdOf ByteArray.empty t230 1, rdOf ByteArray.empty t230 2, rdOf ByteArray.empty t230 3, rdOf ByteArray.empty t230 4, rdOf ByteArray.empty t230 5, rdOf ByteArray.empty t230 6, t235, rdOf ByteArray.empty t230 8, rdOf ByteArray.empty t230 9, rdOf ByteArray.empty t230 10, t238, 0)) else (some ((⟨#[]⟩ : ByteArray), (⟨#[]⟩ : ByteArray), (⟨#[]⟩ : ByteArray), (⟨#[]⟩ : ByteArray), (⟨#[]⟩ : ByteArray), (⟨#[]⟩ : ByteArray), (⟨#[]⟩ : ByteArray), 0, (⟨#[]⟩ : ByteArray), (⟨#[]⟩ : ByteArray), (⟨#[]⟩ : ByteArray), 0, 2)))) = some (r1, r2, r3, r4, r5, r6, r7, r8, r9, r10, r11, r12, r13) := by rw [if_pos rfl] at H; exact H
    clear H
    have H := H1
    clear H1
    replace H := Option.bind_eq_some_iff.mp H
    obtain ⟨t251, A200, H⟩ := H
    replace H : (if t251.toList = a0.toList then (some (rdOf ByteArray.empty t230 0, rdOf ByteArray.empty t230 1, rdOf ByteArray.empty t230 2, rdOf ByteArray.empty t230 3, rdOf ByteArray.empty t230 4, rdOf ByteArray.empty t230 5, rdOf ByteArray.empty t230 6, t235, rdOf ByteArray.empty t230 8, rdOf ByteArray.empty t230 9, rdOf ByteArray.empty t230 10, t238, 0)) else (some ((⟨#[]⟩ : ByteArray), (⟨#[]⟩ : ByteArray), (⟨#[]⟩ : ByteArray), (⟨#[]⟩ : ByteArray), (⟨#[]⟩ : ByteArray), (⟨#[]⟩ : ByteArray), (⟨#[]⟩ : ByteArray), 0, (⟨#[]⟩ : ByteArray), (⟨#[]⟩ : ByteArray), (⟨#[]⟩ : ByteArray), 0, 2))) = some (r1, r2, r3, r4, r5, r6, r7, r8, r9, r10, r11, r12, r13) := H
    have A20 := Aside0.mk A200
    clear A200
    by_cases c21 : t251.toList = a0.toList
    ·rw [if_pos c21] at H
     have c21b0 : (t251.toList == a0.toList) = true := beq_iff_eq.mpr c21
     have c21b1 : (t251.toList != a0.toList) = false := bne_eq_false_iff_eq.mpr c21
     clear c21
     simp only [Option.some.injEq, Prod.mk.injEq] at H
     obtain ⟨rfl, rfl, rfl, rfl, rfl, rfl, rfl, rfl, rfl, rfl, rfl, rfl, rfl⟩ := H
     have hnb41 := NB250_229.out
     have hnc41 := NB229_250.out
     obtain ⟨hcz42_0, hcz42_1, hcz42_2, hcz42_3, hcz42_4, hcz42_5, hcz42_6, hcz42_7, hcz42_8, hcz42_9, hcz42_10, hcz42_11⟩ := cells12 BK250.out
     obtain ⟨hfz42_0, hfz42_1, hfz42_2, hfz42_3, hfz42_4, hfz42_5, hfz42_6, hfz42_7, hfz42_8, hfz42_9, hfz42_10, hfz42_11⟩ := froz12 BK250.out
     try go_wp2_with (first | (go_at_call 20; (with_reducible refine (row_Session.calls (rdOf ByteArray.empty t230 0) (rdOf ByteArray.empty t230 1) (rdOf ByteArray.empty t230 2) (rdOf ByteArray.empty t230 3) (rdOf ByteArray.empty t230 4) (rdOf ByteArray.empty t230 5) (rdOf ByteArray.empty t230 6) t235 (rdOf ByteArray.empty t230 8) (rdOf ByteArray.empty t230 9) (rdOf ByteArray.empty t230 10) t238 t251 _ A20.out).mono ?_); rintro e w43 ⟨rfl, hb⟩; have n0_ := Aside0.mk (Kd.R_below (by (with_reducible repeat (first | apply Kd.R_alloc | apply Kd.R_drewN | apply Kd.R_drew)); exact (Kd.R_mono (Kd.R_far (p := ⟨gb250, 11, none⟩) (Kd.R_far (p := ⟨gb250, 10, none⟩) (Kd.R_far (p := ⟨gb250, 9, none⟩) (Kd.R_far (p := ⟨gb250, 8, none⟩) (Kd.R_far (p := ⟨gb250, 7, none⟩) (Kd.R_far (p := ⟨gb250, 6, none⟩) (Kd.R_far (p := ⟨gb250, 5, none⟩) (Kd.R_far (p := ⟨gb250, 4, none⟩) (Kd.R_far (p := ⟨gb250, 3, none⟩) (Kd.R_far (p := ⟨gb250, 2, none⟩) (Kd.R_far (p := ⟨gb250, 1, none⟩) (Kd.R_far (p := ⟨gb250, 0, none⟩) (Kd.R_types HO233.out BK250.out (by decide)) (fun _ hk => hk.2) (.string (rdOf ByteArray.empty t230 0))) (fun _ hk => hk.2) (.string (rdOf ByteArray.empty t230 1))) (fun _ hk => hk.2) (.string (rdOf ByteArray.empty t230 2))) (fun _ hk => hk.2) (.string (rdOf ByteArray.empty t230 3))) (fun _ hk => hk.2) (.string (rdOf ByteArray.empty t230 4))) (fun _ hk => hk.2) (.string (rdOf ByteArray.empty t230 5))) (fun _ hk => hk.2) (.string (rdOf ByteArray.empty t230 6))) (fun _ hk => hk.2) (.int .i64 t235)) (fun _ hk => hk.2) (.string (rdOf ByteArray.empty t230 8))) (fun _ hk => hk.2) (.string (rdOf ByteArray.empty t230 9))) (fun _ hk => hk.2) (.string (rdOf ByteArray.empty t230 10))) (fun _ hk => hk.2) (.int .i64 t238)) (fun _ h_ => h_.1))) hb); have n1_ := Aside0.mk (blk_belowB BK229.out (by (with_reducible repeat (first | refine blk_drewN ?_ _ | refine blk_drew ?_ | refine blk_alloc ?_ _)); refine blk_far (blk_far (blk_far (blk_far (blk_far (blk_far (blk_far (blk_far (blk_far (blk_far (blk_far (blk_far ?_ NB229_250.out _) NB229_250.out _) NB229_250.out _) NB229_250.out _) NB229_250.out _) NB229_250.out _) NB229_250.out _) NB229_250.out _) NB229_250.out _) NB229_250.out _) NB229_250.out _) NB229_250.out _; (with_reducible repeat (first | refine blk_drewN ?_ _ | refine blk_drew ?_ | refine blk_alloc ?_ _)); exact BK229.out) hb); have n2_ := Aside0.mk (blk_below (g := gb250) (o := .cells #[.string (rdOf ByteArray.empty t230 0), .string (rdOf ByteArray.empty t230 1), .string (rdOf ByteArray.empty t230 2), .string (rdOf ByteArray.empty t230 3), .string (rdOf ByteArray.empty t230 4), .string (rdOf ByteArray.empty t230 5), .string (rdOf ByteArray.empty t230 6), .int .i64 t235, .string (rdOf ByteArray.empty t230 8), .string (rdOf ByteArray.empty t230 9), .string (rdOf ByteArray.empty t230 10), .int .i64 t238] 41 (0, 0)) (by (with_reducible repeat (first | refine blk_drewN ?_ _ | refine blk_drew ?_ | refine blk_alloc ?_ _)); refine fillR (cs := ?cs_) rfl rfl ?h_ ?l_; (case h_ => (with_reducible repeat (first | refine blk_drewN ?_ _ | refine blk_drew ?_ | refine blk_alloc ?_ _)); exact BK250.out); (case l_ => rfl)) hb); have n3_ := Aside0.mk (below_step (by repeat (first | (with_reducible first | exact HB.out | apply below_alloc | apply pw_below_drewN | apply below_drew1 | refine below_set ?_ GE229.out | refine below_set ?_ GE250.out) | exact HB.out)) hb); clear HO233; clear BK229; clear BK250; clear HB; have HO233 := n0_; have BK229 := n1_; have BK250 := n2_; have HB := n3_; clear n0_ n1_ n2_ n3_; (try clear hb); (try clear hb2); (try clear hk); (try clear hi); obtain ⟨hcz44_0, hcz44_1, hcz44_2, hcz44_3, hcz44_4, hcz44_5, hcz44_6, hcz44_7, hcz44_8, hcz44_9, hcz44_10, hcz44_11⟩ := cells12 BK250.out; obtain ⟨hfz44_0, hfz44_1, hfz44_2, hfz44_3, hfz44_4, hfz44_5, hfz44_6, hfz44_7, hfz44_8, hfz44_9, hfz44_10, hfz44_11⟩ := froz12 BK250.out; obtain ⟨hcz45_0, hcz45_1, hcz45_2, hcz45_3, hcz45_4, hcz45_5, hcz45_6, hcz45_7, hcz45_8, hcz45_9, hcz45_10, hcz45_11⟩ := cells12 BK229.out; obtain ⟨hfz45_0, hfz45_1, hfz45_2, hfz45_3, hfz45_4, hfz45_5, hfz45_6, hfz45_7, hfz45_8, hfz45_9, hfz45_10, hfz45_11⟩ := froz12 BK229.out))
     refine bodyPost_ret (results_ct rfl _ _ gb229 41 #[.string (rdOf ByteArray.empty t230 0), .string (rdOf ByteArray.empty t230 1), .string (rdOf ByteArray.empty t230 2), .string (rdOf ByteArray.empty t230 3), .string (rdOf ByteArray.empty t230 4), .string (rdOf ByteArray.empty t230 5), .string (rdOf ByteArray.empty t230 6), .int .i64 t235, .string (rdOf ByteArray.empty t230 8), .string (rdOf ByteArray.empty t230 9), .string (rdOf ByteArray.empty t230 10), .int .i64 t238] (0, 0) _ rfl (by (with_reducible repeat (first | refine blk_drewN ?_ _ | refine blk_drew ?_ | refine blk_alloc ?_ _)); refine fillR (cs := ?cs2_) rfl rfl ?h2_ ?l2_; (case h2_ => (with_reducible repeat (first | refine blk_drewN ?_ _ | refine blk_drew ?_ | refine blk_alloc ?_ _)); exact BK229.out); (case l2_ => rfl)) Tryd.underlying41 rfl (by kernel_rfl)) rfl ?_
     exact ⟨by first | rfl | (simp [errW_none, errW_some] <;> rfl) | (simp [*, errW_none, errW_some] <;> rfl), by repeat (first | (with_reducible first | exact HB.out | apply below_alloc | apply pw_below_drewN | apply below_drew1 | refine below_set ?_ GE229.out | refine below_set ?_ GE250.out) | exact HB.out)⟩
    ·rw [if_neg c21] at H
     have c21b0 : (t251.toList == a0.toList) = false := beq_eq_false_iff_ne.mpr c21
     have c21b1 : (t251.toList != a0.toList) = true := bne_iff_ne.mpr c21
     simp only [Option.some.injEq, Prod.mk.injEq] at H
     obtain ⟨rfl, rfl, rfl, rfl, rfl, rfl, rfl, rfl, rfl, rfl, rfl, rfl, rfl⟩ := H
     have hnb65 := NB250_229.out
     have hnc65 := NB229_250.out
     obtain ⟨hcz66_0, hcz66_1, hcz66_2, hcz66_3, hcz66_4, hcz66_5, hcz66_6, hcz66_7, hcz66_8, hcz66_9, hcz66_10, hcz66_11⟩ := cells12 BK250.out
     obtain ⟨hfz66_0, hfz66_1, hfz66_2, hfz66_3, hfz66_4, hfz66_5, hfz66_6, hfz66_7, hfz66_8, hfz66_9, hfz66_10, hfz66_11⟩ := froz12 BK250.out
     try go_wp2_with (first | (go_at_call 20; (with_reducible refine (row_Session.calls (rdOf ByteArray.empty t230 0) (rdOf ByteArray.empty t230 1) (rdOf ByteArray.empty t230 2) (rdOf ByteArray.empty t230 3) (rdOf ByteArray.empty t230 4) (rdOf ByteArray.empty t230 5) (rdOf ByteArray.empty t230 6) t235 (rdOf ByteArray.empty t230 8) (rdOf ByteArray.empty t230 9) (rdOf ByteArray.empty t230 10) t238 t251 _ A20.out).mono ?_); rintro e w67 ⟨rfl, hb⟩; have n0_ := Aside0.mk (Kd.R_below (by (with_reducible repeat (first | apply Kd.R_alloc | apply Kd.R_drewN | apply Kd.R_drew)); exact (Kd.R_mono (Kd.R_far (p := ⟨gb250, 11, none⟩) (Kd.R_far (p := ⟨gb250, 10, none⟩) (Kd.R_far (p := ⟨gb250, 9, none⟩) (Kd.R_far (p := ⟨gb250, 8, none⟩) (Kd.R_far (p := ⟨gb250, 7, none⟩) (Kd.R_far (p := ⟨gb250, 6, none⟩) (Kd.R_far (p := ⟨gb250, 5, none⟩) (Kd.R_far (p := ⟨gb250, 4, none⟩) (Kd.R_far (p := ⟨gb250, 3, none⟩) (Kd.R_far (p := ⟨gb250, 2, none⟩) (Kd.R_far (p := ⟨gb250, 1, none⟩) (Kd.R_far (p := ⟨gb250, 0, none⟩) (Kd.R_types HO233.out BK250.out (by decide)) (fun _ hk => hk.2) (.string (rdOf ByteArray.empty t230 0))) (fun _ hk => hk.2) (.string (rdOf ByteArray.empty t230 1))) (fun _ hk => hk.2) (.string (rdOf ByteArray.empty t230 2))) (fun _ hk => hk.2) (.string (rdOf ByteArray.empty t230 3))) (fun _ hk => hk.2) (.string (rdOf ByteArray.empty t230 4))) (fun _ hk => hk.2) (.string (rdOf ByteArray.empty t230 5))) (fun _ hk => hk.2) (.string (rdOf ByteArray.empty t230 6))) (fun _ hk => hk.2) (.int .i64 t235)) (fun _ hk => hk.2) (.string (rdOf ByteArray.empty t230 8))) (fun _ hk => hk.2) (.string (rdOf ByteArray.empty t230 9))) (fun _ hk => hk.2) (.string (rdOf ByteArray.empty t230 10))) (fun _ hk => hk.2) (.int .i64 t238)) (fun _ h_ => h_.1))) hb); have n1_ := Aside0.mk (blk_belowB BK229.out (by (with_reducible repeat (first | refine blk_drewN ?_ _ | refine blk_drew ?_ | refine blk_alloc ?_ _)); refine blk_far (blk_far (blk_far (blk_far (blk_far (blk_far (blk_far (blk_far (blk_far (blk_far (blk_far (blk_far ?_ NB229_250.out _) NB229_250.out _) NB229_250.out _) NB229_250.out _) NB229_250.out _) NB229_250.out _) NB229_250.out _) NB229_250.out _) NB229_250.out _) NB229_250.out _) NB229_250.out _) NB229_250.out _; (with_reducible repeat (first | refine blk_drewN ?_ _ | refine blk_drew ?_ | refine blk_alloc ?_ _)); exact BK229.out) hb); have n2_ := Aside0.mk (blk_below (g := gb250) (o := .cells #[.string (rdOf ByteArray.empty t230 0), .string (rdOf ByteArray.empty t230 1), .string (rdOf ByteArray.empty t230 2), .string (rdOf ByteArray.empty t230 3), .string (rdOf ByteArray.empty t230 4), .string (rdOf ByteArray.empty t230 5), .string (rdOf ByteArray.empty t230 6), .int .i64 t235, .string (rdOf ByteArray.empty t230 8), .string (rdOf ByteArray.empty t230 9), .string (rdOf ByteArray.empty t230 10), .int .i64 t238] 41 (0, 0)) (by (with_reducible repeat (first | refine blk_drewN ?_ _ | refine blk_drew ?_ | refine blk_alloc ?_ _)); refine fillR (cs := ?cs3_) rfl rfl ?h3_ ?l3_; (case h3_ => (with_reducible repeat (first | refine blk_drewN ?_ _ | refine blk_drew ?_ | refine blk_alloc ?_ _)); exact BK250.out); (case l3_ => rfl)) hb); have n3_ := Aside0.mk (below_step (by repeat (first | (with_reducible first | exact HB.out | apply below_alloc | apply pw_below_drewN | apply below_drew1 | refine below_set ?_ GE229.out | refine below_set ?_ GE250.out) | exact HB.out)) hb); clear HO233; clear BK229; clear BK250; clear HB; have HO233 := n0_; have BK229 := n1_; have BK250 := n2_; have HB := n3_; clear n0_ n1_ n2_ n3_; (try clear hb); (try clear hb2); (try clear hk); (try clear hi); obtain ⟨hcz68_0, hcz68_1, hcz68_2, hcz68_3, hcz68_4, hcz68_5, hcz68_6, hcz68_7, hcz68_8, hcz68_9, hcz68_10, hcz68_11⟩ := cells12 BK229.out; obtain ⟨hfz68_0, hfz68_1, hfz68_2, hfz68_3, hfz68_4, hfz68_5, hfz68_6, hfz68_7, hfz68_8, hfz68_9, hfz68_10, hfz68_11⟩ := froz12 BK229.out))
     refine bodyPost_ret (results_ct rfl _ _ gb229 41 #[.string (⟨#[]⟩ : ByteArray), .string (⟨#[]⟩ : ByteArray), .string (⟨#[]⟩ : ByteArray), .string (⟨#[]⟩ : ByteArray), .string (⟨#[]⟩ : ByteArray), .string (⟨#[]⟩ : ByteArray), .string (⟨#[]⟩ : ByteArray), .int .i64 0, .string (⟨#[]⟩ : ByteArray), .string (⟨#[]⟩ : ByteArray), .string (⟨#[]⟩ : ByteArray), .int .i64 0] (0, 0) _ rfl (by (with_reducible repeat (first | refine blk_drewN ?_ _ | refine blk_drew ?_ | refine blk_alloc ?_ _)); refine fillR (cs := ?cs4_) rfl rfl ?h4_ ?l4_; (case h4_ => (with_reducible repeat (first | refine blk_drewN ?_ _ | refine blk_drew ?_ | refine blk_alloc ?_ _)); exact BK229.out); (case l4_ => rfl)) Tryd.underlying41 rfl (by kernel_rfl)) rfl ?_
     exact ⟨by first | rfl | (simp [errW_none, errW_some] <;> rfl) | (simp [*, errW_none, errW_some] <;> rfl), by repeat (first | (with_reducible first | exact HB.out | apply below_alloc | apply pw_below_drewN | apply below_drew1 | refine below_set ?_ GE229.out | refine below_set ?_ GE250.out) | exact HB.out)⟩
   ·replace c19 := Bool.eq_false_iff.mpr c19
    subst c19
    have H1 : (some ((⟨#[]⟩ : ByteArray), (⟨#[]⟩ : ByteArray), (⟨#[]⟩ : ByteArray), (⟨#[]⟩ : ByteArray), (⟨#[]⟩ : ByteArray), (⟨#[]⟩ : ByteArray), (⟨#[]⟩ : ByteArray), 0, (⟨#[]⟩ : ByteArray), (⟨#[]⟩ : ByteArray), (⟨#[]⟩ : ByteArray), 0, 2)) = some (r1, r2, r3, r4, r5, r6, r7, r8, r9, r10, r11, r12, r13) := by rw [if_neg (show ¬ (false = true) by decide)] at H; exact H
    clear H
    have H := H1
    clear H1
    simp only [Option.some.injEq, Prod.mk.injEq] at H
    obtain ⟨rfl, rfl, rfl, rfl, rfl, rfl, rfl, rfl, rfl, rfl, rfl, rfl, rfl⟩ := H
    have hnb88 := NB229_250.out
    have hnc88 := NB250_229.out
    obtain ⟨hcz89_0, hcz89_1, hcz89_2, hcz89_3, hcz89_4, hcz89_5, hcz89_6, hcz89_7, hcz89_8, hcz89_9, hcz89_10, hcz89_11⟩ := cells12 BK229.out
    obtain ⟨hfz89_0, hfz89_1, hfz89_2, hfz89_3, hfz89_4, hfz89_5, hfz89_6, hfz89_7, hfz89_8, hfz89_9, hfz89_10, hfz89_11⟩ := froz12 BK229.out
    try go_wp2
    refine bodyPost_ret (results_ct rfl _ _ gb229 41 #[.string (⟨#[]⟩ : ByteArray), .string (⟨#[]⟩ : ByteArray), .string (⟨#[]⟩ : ByteArray), .string (⟨#[]⟩ : ByteArray), .string (⟨#[]⟩ : ByteArray), .string (⟨#[]⟩ : ByteArray), .string (⟨#[]⟩ : ByteArray), .int .i64 0, .string (⟨#[]⟩ : ByteArray), .string (⟨#[]⟩ : ByteArray), .string (⟨#[]⟩ : ByteArray), .int .i64 0] (0, 0) _ rfl (by (with_reducible repeat (first | refine blk_drewN ?_ _ | refine blk_drew ?_ | refine blk_alloc ?_ _)); refine blk_put (cs := #[.string (⟨#[]⟩ : ByteArray), .string (⟨#[]⟩ : ByteArray), .string (⟨#[]⟩ : ByteArray), .string (⟨#[]⟩ : ByteArray), .string (⟨#[]⟩ : ByteArray), .string (⟨#[]⟩ : ByteArray), .string (⟨#[]⟩ : ByteArray), .int .i64 0, .string (⟨#[]⟩ : ByteArray), .string (⟨#[]⟩ : ByteArray), .string (⟨#[]⟩ : ByteArray), .int .i64 0]) ?_ 11 _ rfl; (with_reducible repeat (first | refine blk_drewN ?_ _ | refine blk_drew ?_ | refine blk_alloc ?_ _)); refine blk_put (cs := #[.string (⟨#[]⟩ : ByteArray), .string (⟨#[]⟩ : ByteArray), .string (⟨#[]⟩ : ByteArray), .string (⟨#[]⟩ : ByteArray), .string (⟨#[]⟩ : ByteArray), .string (⟨#[]⟩ : ByteArray), .string (⟨#[]⟩ : ByteArray), .int .i64 0, .string (⟨#[]⟩ : ByteArray), .string (⟨#[]⟩ : ByteArray), .string (⟨#[]⟩ : ByteArray), .int .i64 0]) ?_ 10 _ rfl; (with_reducible repeat (first | refine blk_drewN ?_ _ | refine blk_drew ?_ | refine blk_alloc ?_ _)); refine blk_put (cs := #[.string (⟨#[]⟩ : ByteArray), .string (⟨#[]⟩ : ByteArray), .string (⟨#[]⟩ : ByteArray), .string (⟨#[]⟩ : ByteArray), .string (⟨#[]⟩ : ByteArray), .string (⟨#[]⟩ : ByteArray), .string (⟨#[]⟩ : ByteArray), .int .i64 0, .string (⟨#[]⟩ : ByteArray), .string (⟨#[]⟩ : ByteArray), .string (⟨#[]⟩ : ByteArray), .int .i64 0]) ?_ 9 _ rfl; (with_reducible repeat (first | refine blk_drewN ?_ _ | refine blk_drew ?_ | refine blk_alloc ?_ _)); refine blk_put (cs := #[.string (⟨#[]⟩ : ByteArray), .string (⟨#[]⟩ : ByteArray), .string (⟨#[]⟩ : ByteArray), .string (⟨#[]⟩ : ByteArray), .string (⟨#[]⟩ : ByteArray), .string (⟨#[]⟩ : ByteArray), .string (⟨#[]⟩ : ByteArray), .int .i64 0, .string (⟨#[]⟩ : ByteArray), .string (⟨#[]⟩ : ByteArray), .string (⟨#[]⟩ : ByteArray), .int .i64 0]) ?_ 8 _ rfl; (with_reducible repeat (first | refine blk_drewN ?_ _ | refine blk_drew ?_ | refine blk_alloc ?_ _)); refine blk_put (cs := #[.string (⟨#[]⟩ : ByteArray), .string (⟨#[]⟩ : ByteArray), .string (⟨#[]⟩ : ByteArray), .string (⟨#[]⟩ : ByteArray), .string (⟨#[]⟩ : ByteArray), .string (⟨#[]⟩ : ByteArray), .string (⟨#[]⟩ : ByteArray), .int .i64 0, .string (⟨#[]⟩ : ByteArray), .string (⟨#[]⟩ : ByteArray), .string (⟨#[]⟩ : ByteArray), .int .i64 0]) ?_ 7 _ rfl; (with_reducible repeat (first | refine blk_drewN ?_ _ | refine blk_drew ?_ | refine blk_alloc ?_ _)); refine blk_put (cs := #[.string (⟨#[]⟩ : ByteArray), .string (⟨#[]⟩ : ByteArray), .string (⟨#[]⟩ : ByteArray), .string (⟨#[]⟩ : ByteArray), .string (⟨#[]⟩ : ByteArray), .string (⟨#[]⟩ : ByteArray), .string (⟨#[]⟩ : ByteArray), .int .i64 0, .string (⟨#[]⟩ : ByteArray), .string (⟨#[]⟩ : ByteArray), .string (⟨#[]⟩ : ByteArray), .int .i64 0]) ?_ 6 _ rfl; (with_reducible repeat (first | refine blk_drewN ?_ _ | refine blk_drew ?_ | refine blk_alloc ?_ _)); refine blk_put (cs := #[.string (⟨#[]⟩ : ByteArray), .string (⟨#[]⟩ : ByteArray), .string (⟨#[]⟩ : ByteArray), .string (⟨#[]⟩ : ByteArray), .string (⟨#[]⟩ : ByteArray), .string (⟨#[]⟩ : ByteArray), .string (⟨#[]⟩ : ByteArray), .int .i64 0, .string (⟨#[]⟩ : ByteArray), .string (⟨#[]⟩ : ByteArray), .string (⟨#[]⟩ : ByteArray), .int .i64 0]) ?_ 5 _ rfl; (with_reducible repeat (first | refine blk_drewN ?_ _ | refine blk_drew ?_ | refine blk_alloc ?_ _)); refine blk_put (cs := #[.string (⟨#[]⟩ : ByteArray), .string (⟨#[]⟩ : ByteArray), .string (⟨#[]⟩ : ByteArray), .string (⟨#[]⟩ : ByteArray), .string (⟨#[]⟩ : ByteArray), .string (⟨#[]⟩ : ByteArray), .string (⟨#[]⟩ : ByteArray), .int .i64 0, .string (⟨#[]⟩ : ByteArray), .string (⟨#[]⟩ : ByteArray), .string (⟨#[]⟩ : ByteArray), .int .i64 0]) ?_ 4 _ rfl; (with_reducible repeat (first | refine blk_drewN ?_ _ | refine blk_drew ?_ | refine blk_alloc ?_ _)); refine blk_put (cs := #[.string (⟨#[]⟩ : ByteArray), .string (⟨#[]⟩ : ByteArray), .string (⟨#[]⟩ : ByteArray), .string (⟨#[]⟩ : ByteArray), .string (⟨#[]⟩ : ByteArray), .string (⟨#[]⟩ : ByteArray), .string (⟨#[]⟩ : ByteArray), .int .i64 0, .string (⟨#[]⟩ : ByteArray), .string (⟨#[]⟩ : ByteArray), .string (⟨#[]⟩ : ByteArray), .int .i64 0]) ?_ 3 _ rfl; (with_reducible repeat (first | refine blk_drewN ?_ _ | refine blk_drew ?_ | refine blk_alloc ?_ _)); refine blk_put (cs := #[.string (⟨#[]⟩ : ByteArray), .string (⟨#[]⟩ : ByteArray), .string (⟨#[]⟩ : ByteArray), .string (⟨#[]⟩ : ByteArray), .string (⟨#[]⟩ : ByteArray), .string (⟨#[]⟩ : ByteArray), .string (⟨#[]⟩ : ByteArray), .int .i64 0, .string (⟨#[]⟩ : ByteArray), .string (⟨#[]⟩ : ByteArray), .string (⟨#[]⟩ : ByteArray), .int .i64 0]) ?_ 2 _ rfl; (with_reducible repeat (first | refine blk_drewN ?_ _ | refine blk_drew ?_ | refine blk_alloc ?_ _)); refine blk_put (cs := #[.string (⟨#[]⟩ : ByteArray), .string (⟨#[]⟩ : ByteArray), .string (⟨#[]⟩ : ByteArray), .string (⟨#[]⟩ : ByteArray), .string (⟨#[]⟩ : ByteArray), .string (⟨#[]⟩ : ByteArray), .string (⟨#[]⟩ : ByteArray), .int .i64 0, .string (⟨#[]⟩ : ByteArray), .string (⟨#[]⟩ : ByteArray), .string (⟨#[]⟩ : ByteArray), .int .i64 0]) ?_ 1 _ rfl; (with_reducible repeat (first | refine blk_drewN ?_ _ | refine blk_drew ?_ | refine blk_alloc ?_ _)); refine blk_put (cs := #[.string (⟨#[]⟩ : ByteArray), .string (⟨#[]⟩ : ByteArray), .string (⟨#[]⟩ : ByteArray), .string (⟨#[]⟩ : ByteArray), .string (⟨#[]⟩ : ByteArray), .string (⟨#[]⟩ : ByteArray), .string (⟨#[]⟩ : ByteArray), .int .i64 0, .string (⟨#[]⟩ : ByteArray), .string (⟨#[]⟩ : ByteArray), .string (⟨#[]⟩ : ByteArray), .int .i64 0]) ?_ 0 _ rfl; (with_reducible repeat (first | refine blk_drewN ?_ _ | refine blk_drew ?_ | refine blk_alloc ?_ _)); refine blk_far (blk_far (blk_far (blk_far (blk_far (blk_far (blk_far (blk_far (blk_far (blk_far (blk_far (blk_far ?_ NB229_250.out _) NB229_250.out _) NB229_250.out _) NB229_250.out _) NB229_250.out _) NB229_250.out _) NB229_250.out _) NB229_250.out _) NB229_250.out _) NB229_250.out _) NB229_250.out _) NB229_250.out _; (with_reducible repeat (first | refine blk_drewN ?_ _ | refine blk_drew ?_ | refine blk_alloc ?_ _)); exact BK229.out) Tryd.underlying41 rfl (by kernel_rfl)) rfl ?_
    exact ⟨by first | rfl | (simp [errW_none, errW_some] <;> rfl) | (simp [*, errW_none, errW_some] <;> rfl), by repeat (first | (with_reducible first | exact HB.out | apply below_alloc | apply pw_below_drewN | apply below_drew1 | refine below_set ?_ GE229.out | refine below_set ?_ GE250.out) | exact HB.out)⟩
  ·replace c18 := Bool.eq_false_iff.mpr c18
   subst c18
   have H1 : (some ((⟨#[]⟩ : ByteArray), (⟨#[]⟩ : ByteArray), (⟨#[]⟩ : ByteArray), (⟨#[]⟩ : ByteArray), (⟨#[]⟩ : ByteArray), (⟨#[]⟩ : ByteArray), (⟨#[]⟩ : ByteArray), 0, (⟨#[]⟩ : ByteArray), (⟨#[]⟩ : ByteArray), (⟨#[]⟩ : ByteArray), 0, 2)) = some (r1, r2, r3, r4, r5, r6, r7, r8, r9, r10, r11, r12, r13) := by rw [if_neg (show ¬ (false = true) by decide)] at H; exact H
   clear H
   have H := H1
   clear H1
   simp only [Option.some.injEq, Prod.mk.injEq] at H
   obtain ⟨rfl, rfl, rfl, rfl, rfl, rfl, rfl, rfl, rfl, rfl, rfl, rfl, rfl⟩ := H
   have hnb109 := NB229_250.out
   have hnc109 := NB250_229.out
   obtain ⟨hcz110_0, hcz110_1, hcz110_2, hcz110_3, hcz110_4, hcz110_5, hcz110_6, hcz110_7, hcz110_8, hcz110_9, hcz110_10, hcz110_11⟩ := cells12 BK229.out
   obtain ⟨hfz110_0, hfz110_1, hfz110_2, hfz110_3, hfz110_4, hfz110_5, hfz110_6, hfz110_7, hfz110_8, hfz110_9, hfz110_10, hfz110_11⟩ := froz12 BK229.out
   try go_wp2
   refine bodyPost_ret (results_ct rfl _ _ gb229 41 #[.string (⟨#[]⟩ : ByteArray), .string (⟨#[]⟩ : ByteArray), .string (⟨#[]⟩ : ByteArray), .string (⟨#[]⟩ : ByteArray), .string (⟨#[]⟩ : ByteArray), .string (⟨#[]⟩ : ByteArray), .string (⟨#[]⟩ : ByteArray), .int .i64 0, .string (⟨#[]⟩ : ByteArray), .string (⟨#[]⟩ : ByteArray), .string (⟨#[]⟩ : ByteArray), .int .i64 0] (0, 0) _ rfl (by (with_reducible repeat (first | refine blk_drewN ?_ _ | refine blk_drew ?_ | refine blk_alloc ?_ _)); refine blk_put (cs := #[.string (⟨#[]⟩ : ByteArray), .string (⟨#[]⟩ : ByteArray), .string (⟨#[]⟩ : ByteArray), .string (⟨#[]⟩ : ByteArray), .string (⟨#[]⟩ : ByteArray), .string (⟨#[]⟩ : ByteArray), .string (⟨#[]⟩ : ByteArray), .int .i64 0, .string (⟨#[]⟩ : ByteArray), .string (⟨#[]⟩ : ByteArray), .string (⟨#[]⟩ : ByteArray), .int .i64 0]) ?_ 11 _ rfl; (with_reducible repeat (first | refine blk_drewN ?_ _ | refine blk_drew ?_ | refine blk_alloc ?_ _)); refine blk_put (cs := #[.string (⟨#[]⟩ : ByteArray), .string (⟨#[]⟩ : ByteArray), .string (⟨#[]⟩ : ByteArray), .string (⟨#[]⟩ : ByteArray), .string (⟨#[]⟩ : ByteArray), .string (⟨#[]⟩ : ByteArray), .string (⟨#[]⟩ : ByteArray), .int .i64 0, .string (⟨#[]⟩ : ByteArray), .string (⟨#[]⟩ : ByteArray), .string (⟨#[]⟩ : ByteArray), .int .i64 0]) ?_ 10 _ rfl; (with_reducible repeat (first | refine blk_drewN ?_ _ | refine blk_drew ?_ | refine blk_alloc ?_ _)); refine blk_put (cs := #[.string (⟨#[]⟩ : ByteArray), .string (⟨#[]⟩ : ByteArray), .string (⟨#[]⟩ : ByteArray), .string (⟨#[]⟩ : ByteArray), .string (⟨#[]⟩ : ByteArray), .string (⟨#[]⟩ : ByteArray), .string (⟨#[]⟩ : ByteArray), .int .i64 0, .string (⟨#[]⟩ : ByteArray), .string (⟨#[]⟩ : ByteArray), .string (⟨#[]⟩ : ByteArray), .int .i64 0]) ?_ 9 _ rfl; (with_reducible repeat (first | refine blk_drewN ?_ _ | refine blk_drew ?_ | refine blk_alloc ?_ _)); refine blk_put (cs := #[.string (⟨#[]⟩ : ByteArray), .string (⟨#[]⟩ : ByteArray), .string (⟨#[]⟩ : ByteArray), .string (⟨#[]⟩ : ByteArray), .string (⟨#[]⟩ : ByteArray), .string (⟨#[]⟩ : ByteArray), .string (⟨#[]⟩ : ByteArray), .int .i64 0, .string (⟨#[]⟩ : ByteArray), .string (⟨#[]⟩ : ByteArray), .string (⟨#[]⟩ : ByteArray), .int .i64 0]) ?_ 8 _ rfl; (with_reducible repeat (first | refine blk_drewN ?_ _ | refine blk_drew ?_ | refine blk_alloc ?_ _)); refine blk_put (cs := #[.string (⟨#[]⟩ : ByteArray), .string (⟨#[]⟩ : ByteArray), .string (⟨#[]⟩ : ByteArray), .string (⟨#[]⟩ : ByteArray), .string (⟨#[]⟩ : ByteArray), .string (⟨#[]⟩ : ByteArray), .string (⟨#[]⟩ : ByteArray), .int .i64 0, .string (⟨#[]⟩ : ByteArray), .string (⟨#[]⟩ : ByteArray), .string (⟨#[]⟩ : ByteArray), .int .i64 0]) ?_ 7 _ rfl; (with_reducible repeat (first | refine blk_drewN ?_ _ | refine blk_drew ?_ | refine blk_alloc ?_ _)); refine blk_put (cs := #[.string (⟨#[]⟩ : ByteArray), .string (⟨#[]⟩ : ByteArray), .string (⟨#[]⟩ : ByteArray), .string (⟨#[]⟩ : ByteArray), .string (⟨#[]⟩ : ByteArray), .string (⟨#[]⟩ : ByteArray), .string (⟨#[]⟩ : ByteArray), .int .i64 0, .string (⟨#[]⟩ : ByteArray), .string (⟨#[]⟩ : ByteArray), .string (⟨#[]⟩ : ByteArray), .int .i64 0]) ?_ 6 _ rfl; (with_reducible repeat (first | refine blk_drewN ?_ _ | refine blk_drew ?_ | refine blk_alloc ?_ _)); refine blk_put (cs := #[.string (⟨#[]⟩ : ByteArray), .string (⟨#[]⟩ : ByteArray), .string (⟨#[]⟩ : ByteArray), .string (⟨#[]⟩ : ByteArray), .string (⟨#[]⟩ : ByteArray), .string (⟨#[]⟩ : ByteArray), .string (⟨#[]⟩ : ByteArray), .int .i64 0, .string (⟨#[]⟩ : ByteArray), .string (⟨#[]⟩ : ByteArray), .string (⟨#[]⟩ : ByteArray), .int .i64 0]) ?_ 5 _ rfl; (with_reducible repeat (first | refine blk_drewN ?_ _ | refine blk_drew ?_ | refine blk_alloc ?_ _)); refine blk_put (cs := #[.string (⟨#[]⟩ : ByteArray), .string (⟨#[]⟩ : ByteArray), .string (⟨#[]⟩ : ByteArray), .string (⟨#[]⟩ : ByteArray), .string (⟨#[]⟩ : ByteArray), .string (⟨#[]⟩ : ByteArray), .string (⟨#[]⟩ : ByteArray), .int .i64 0, .string (⟨#[]⟩ : ByteArray), .string (⟨#[]⟩ : ByteArray), .string (⟨#[]⟩ : ByteArray), .int .i64 0]) ?_ 4 _ rfl; (with_reducible repeat (first | refine blk_drewN ?_ _ | refine blk_drew ?_ | refine blk_alloc ?_ _)); refine blk_put (cs := #[.string (⟨#[]⟩ : ByteArray), .string (⟨#[]⟩ : ByteArray), .string (⟨#[]⟩ : ByteArray), .string (⟨#[]⟩ : ByteArray), .string (⟨#[]⟩ : ByteArray), .string (⟨#[]⟩ : ByteArray), .string (⟨#[]⟩ : ByteArray), .int .i64 0, .string (⟨#[]⟩ : ByteArray), .string (⟨#[]⟩ : ByteArray), .string (⟨#[]⟩ : ByteArray), .int .i64 0]) ?_ 3 _ rfl; (with_reducible repeat (first | refine blk_drewN ?_ _ | refine blk_drew ?_ | refine blk_alloc ?_ _)); refine blk_put (cs := #[.string (⟨#[]⟩ : ByteArray), .string (⟨#[]⟩ : ByteArray), .string (⟨#[]⟩ : ByteArray), .string (⟨#[]⟩ : ByteArray), .string (⟨#[]⟩ : ByteArray), .string (⟨#[]⟩ : ByteArray), .string (⟨#[]⟩ : ByteArray), .int .i64 0, .string (⟨#[]⟩ : ByteArray), .string (⟨#[]⟩ : ByteArray), .string (⟨#[]⟩ : ByteArray), .int .i64 0]) ?_ 2 _ rfl; (with_reducible repeat (first | refine blk_drewN ?_ _ | refine blk_drew ?_ | refine blk_alloc ?_ _)); refine blk_put (cs := #[.string (⟨#[]⟩ : ByteArray), .string (⟨#[]⟩ : ByteArray), .string (⟨#[]⟩ : ByteArray), .string (⟨#[]⟩ : ByteArray), .string (⟨#[]⟩ : ByteArray), .string (⟨#[]⟩ : ByteArray), .string (⟨#[]⟩ : ByteArray), .int .i64 0, .string (⟨#[]⟩ : ByteArray), .string (⟨#[]⟩ : ByteArray), .string (⟨#[]⟩ : ByteArray), .int .i64 0]) ?_ 1 _ rfl; (with_reducible repeat (first | refine blk_drewN ?_ _ | refine blk_drew ?_ | refine blk_alloc ?_ _)); refine blk_put (cs := #[.string (⟨#[]⟩ : ByteArray), .string (⟨#[]⟩ : ByteArray), .string (⟨#[]⟩ : ByteArray), .string (⟨#[]⟩ : ByteArray), .string (⟨#[]⟩ : ByteArray), .string (⟨#[]⟩ : ByteArray), .string (⟨#[]⟩ : ByteArray), .int .i64 0, .string (⟨#[]⟩ : ByteArray), .string (⟨#[]⟩ : ByteArray), .string (⟨#[]⟩ : ByteArray), .int .i64 0]) ?_ 0 _ rfl; (with_reducible repeat (first | refine blk_drewN ?_ _ | refine blk_drew ?_ | refine blk_alloc ?_ _)); refine blk_far (blk_far (blk_far (blk_far (blk_far (blk_far (blk_far (blk_far (blk_far (blk_far (blk_far (blk_far ?_ NB229_250.out _) NB229_250.out _) NB229_250.out _) NB229_250.out _) NB229_250.out _) NB229_250.out _) NB229_250.out _) NB229_250.out _) NB229_250.out _) NB229_250.out _) NB229_250.out _) NB229_250.out _; (with_reducible repeat (first | refine blk_drewN ?_ _ | refine blk_drew ?_ | refine blk_alloc ?_ _)); exact BK229.out) Tryd.underlying41 rfl (by kernel_rfl)) rfl ?_
   exact ⟨by first | rfl | (simp [errW_none, errW_some] <;> rfl) | (simp [*, errW_none, errW_some] <;> rfl), by repeat (first | (with_reducible first | exact HB.out | apply below_alloc | apply pw_below_drewN | apply below_drew1 | refine below_set ?_ GE229.out | refine below_set ?_ GE250.out) | exact HB.out)⟩
 ·replace c3 := Bool.eq_false_iff.mpr c3
  subst c3
  have H1 : (some ((⟨#[]⟩ : ByteArray), (⟨#[]⟩ : ByteArray), (⟨#[]⟩ : ByteArray), (⟨#[]⟩ : ByteArray), (⟨#[]⟩ : ByteArray), (⟨#[]⟩ : ByteArray), (⟨#[]⟩ : ByteArray), 0, (⟨#[]⟩ : ByteArray), (⟨#[]⟩ : ByteArray), (⟨#[]⟩ : ByteArray), 0, 2)) = some (r1, r2, r3, r4, r5, r6, r7, r8, r9, r10, r11, r12, r13) := by rw [if_neg (show ¬ (false = true) by decide)] at H; exact H
  clear H
  have H := H1
  clear H1
  simp only [Option.some.injEq, Prod.mk.injEq] at H
  obtain ⟨rfl, rfl, rfl, rfl, rfl, rfl, rfl, rfl, rfl, rfl, rfl, rfl, rfl⟩ := H
  go_enter Tryd.func21, Tryd.ntmps21
  go_wp2_with (first | ((with_reducible refine gate_dst (N := 2) rfl ?_); refine box_event ?hg (N := 2) ?hd (cs := #[.string (⟨#[]⟩ : ByteArray), .string (⟨#[]⟩ : ByteArray), .string (⟨#[]⟩ : ByteArray), .string (⟨#[]⟩ : ByteArray), .string (⟨#[]⟩ : ByteArray), .string (⟨#[]⟩ : ByteArray), .string (⟨#[]⟩ : ByteArray), .int .i64 0, .string (⟨#[]⟩ : ByteArray), .string (⟨#[]⟩ : ByteArray), .string (⟨#[]⟩ : ByteArray), .int .i64 0]) (t := 41) ?hr ?_; (case hd => rfl); (case hg => rfl); (case hr => first | (go_simp; done) | (go_simp; rfl)); intro gb229 hg w111 hbox hb; have n0_ := Aside0.mk (below_step (by repeat (first | (with_reducible first | exact HB.out | apply below_alloc | apply pw_below_drewN | apply below_drew1) | exact HB.out)) hb); have n1_ := Aside0.mk (hbox); have n2_ := Aside0.mk ((by rw [hg]; exact (below_size (by repeat (first | (with_reducible first | exact HB.out | apply below_alloc | apply pw_below_drewN | apply below_drew1) | exact HB.out))) : w.heap.size ≤ gb229)); have n3_ := Aside0.mk ((by rw [hg]; exact (below_size (by repeat (first | (with_reducible first | exact HB.out | apply below_alloc | apply pw_below_drewN | apply below_drew1) | exact HB.out))) : w.heap.size ≤ gb229)); clear HB; have HB := n0_; have BK229 := n1_; have GW229 := n2_; have GE229 := n3_; clear n0_ n1_ n2_ n3_; clear hb hbox hg) | ((with_reducible refine gate_callee (f := 33) rfl ?_); refine goesL_ (some 13) rfl rfl Tryd.func33 (by kernel_rfl) rfl #[.string a0, .int .i64 12] rfl (by (try simp only [List.map_toArray, List.map_cons, List.map_nil]); first | done | rfl | (simp only [List.length_drop, List.length_take]; rfl)) ?_; (with_reducible refine (row_fields.calls a0 12 t230 false _ A2.out).mono ?_); rintro e w112 ⟨v232, rfl, ho0, hb⟩; refine ⟨_, rfl, ?_⟩; have n0_ := Aside0.mk (Kd.R_lower ho0 (below_size (by repeat (first | (with_reducible first | exact HB.out | apply below_alloc | apply pw_below_drewN | apply below_drew1 | refine below_set ?_ GE229.out) | exact HB.out)))); have n1_ := Aside0.mk (blk_belowB BK229.out (by (with_reducible repeat (first | refine blk_drewN ?_ _ | refine blk_drew ?_ | refine blk_alloc ?_ _)); exact BK229.out) hb); have n2_ := Aside0.mk (below_step (by repeat (first | (with_reducible first | exact HB.out | apply below_alloc | apply pw_below_drewN | apply below_drew1 | refine below_set ?_ GE229.out) | exact HB.out)) hb); clear BK229; clear HB; have HO233 := n0_; have BK229 := n1_; have HB := n2_; clear n0_ n1_ n2_; (try clear hb); (try clear hb2); (try clear hk); (try clear hi); (try clear ho0); obtain ⟨hcz113_0, hcz113_1, hcz113_2, hcz113_3, hcz113_4, hcz113_5, hcz113_6, hcz113_7, hcz113_8, hcz113_9, hcz113_10, hcz113_11⟩ := cells12 BK229.out; obtain ⟨hfz113_0, hfz113_1, hfz113_2, hfz113_3, hfz113_4, hfz113_5, hfz113_6, hfz113_7, hfz113_8, hfz113_9, hfz113_10, hfz113_11⟩ := froz12 BK229.out))
  refine bodyPost_ret (results_ct rfl _ _ gb229 41 #[.string (⟨#[]⟩ : ByteArray), .string (⟨#[]⟩ : ByteArray), .string (⟨#[]⟩ : ByteArray), .string (⟨#[]⟩ : ByteArray), .string (⟨#[]⟩ : ByteArray), .string (⟨#[]⟩ : ByteArray), .string (⟨#[]⟩ : ByteArray), .int .i64 0, .string (⟨#[]⟩ : ByteArray), .string (⟨#[]⟩ : ByteArray), .string (⟨#[]⟩ : ByteArray), .int .i64 0] (0, 0) _ rfl (by (with_reducible repeat (first | refine blk_drewN ?_ _ | refine blk_drew ?_ | refine blk_alloc ?_ _)); refine fillR (cs := ?cs5_) rfl rfl ?h5_ ?l5_; (case h5_ => (with_reducible repeat (first | refine blk_drewN ?_ _ | refine blk_drew ?_ | refine blk_alloc ?_ _)); exact BK229.out); (case l5_ => rfl)) Tryd.underlying41 rfl (by kernel_rfl)) rfl ?_
  exact ⟨by first | rfl | (simp [errW_none, errW_some] <;> rfl) | (simp [*, errW_none, errW_some] <;> rfl), by repeat (first | (with_reducible first | exact HB.out | apply below_alloc | apply pw_below_drewN | apply below_drew1 | refine below_set ?_ GE229.out) | exact HB.out)⟩

end Go.Proofs.YtkjheoilidpckaaDoor.X
