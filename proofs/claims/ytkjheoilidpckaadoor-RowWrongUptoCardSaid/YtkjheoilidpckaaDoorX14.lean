-- Lean text made by xprint.py (ours) out of the seat's translation. Lean checks it.
import Derived.Test.YtkjheoilidpckaaDoorX0
import Derived.Test.YtkjheoilidpckaaDoorX13
import Derived.Test.YtkjheoilidpckaaDoorHSplit
namespace Go.Proofs.YtkjheoilidpckaaDoor.X
open Go.RowKit Go.Proofs.YtkjheoilidpckaaDoorW.PrintWords Go.Proofs.YtkjheoilidpckaaDoorW.PrintLast Go.Proofs.YtkjheoilidpckaaDoorW.PrintMore
attribute [local go_sem] max2_int min2_int max_two min_two max_three min_three max_four min_four   -- for this text's walks alone
set_option linter.unusedVariables false
set_option linter.unusedSimpArgs false

/-! ### row_ReadCode: function 18 -/
def row_ReadCode.f (a0 : ByteArray) : Option (ByteArray × ByteArray × ByteArray × ByteArray × ByteArray × ByteArray × ByteArray × ByteArray × ByteArray × ByteArray × ByteArray × Int × ByteArray × Int) := (row_fields.f a0 13).bind fun bt175 => (if bt175.2 = true then (if 11 < (bt175.1.length : Int) then ((row_number.f (rdOf ByteArray.empty bt175.1 11)).bind fun bt180 => (if 0 < (bt175.1.length : Int) then (if 1 < (bt175.1.length : Int) then (if 2 < (bt175.1.length : Int) then (if 3 < (bt175.1.length : Int) then (if 4 < (bt175.1.length : Int) then (if 5 < (bt175.1.length : Int) then (if 6 < (bt175.1.length : Int) then (if 7 < (bt175.1.length : Int) then (if 8 < (bt175.1.length : Int) then (if 9 < (bt175.1.length : Int) then (if 10 < (bt175.1.length : Int) then (if 12 < (bt175.1.length : Int) then (if bt180.2 = true then ((row_Code.f (rdOf ByteArray.empty bt175.1 0) (rdOf ByteArray.empty bt175.1 1) (rdOf ByteArray.empty bt175.1 2) (rdOf ByteArray.empty bt175.1 3) (rdOf ByteArray.empty bt175.1 4) (rdOf ByteArray.empty bt175.1 5) (rdOf ByteArray.empty bt175.1 6) (rdOf ByteArray.empty bt175.1 7) (rdOf ByteArray.empty bt175.1 8) (rdOf ByteArray.empty bt175.1 9) (rdOf ByteArray.empty bt175.1 10) bt180.1 (rdOf ByteArray.empty bt175.1 12)).bind fun t195 => (if t195.toList = a0.toList then (some (rdOf ByteArray.empty bt175.1 0, rdOf ByteArray.empty bt175.1 1, rdOf ByteArray.empty bt175.1 2, rdOf ByteArray.empty bt175.1 3, rdOf ByteArray.empty bt175.1 4, rdOf ByteArray.empty bt175.1 5, rdOf ByteArray.empty bt175.1 6, rdOf ByteArray.empty bt175.1 7, rdOf ByteArray.empty bt175.1 8, rdOf ByteArray.empty bt175.1 9, rdOf ByteArray.empty bt175.1 10, bt180.1, rdOf ByteArray.empty bt175.1 12, 0)) else (some ((⟨#[]⟩ : ByteArray), (⟨#[]⟩ : ByteArray), (⟨#[]⟩ : ByteArray), (⟨#[]⟩ : ByteArray), (⟨#[]⟩ : ByteArray), (⟨#[]⟩ : ByteArray), (⟨#[]⟩ : ByteArray), (⟨#[]⟩ : ByteArray), (⟨#[]⟩ : ByteArray), (⟨#[]⟩ : ByteArray), (⟨#[]⟩ : ByteArray), 0, (⟨#[]⟩ : ByteArray), 2)))) else (some ((⟨#[]⟩ : ByteArray), (⟨#[]⟩ : ByteArray), (⟨#[]⟩ : ByteArray), (⟨#[]⟩ : ByteArray), (⟨#[]⟩ : ByteArray), (⟨#[]⟩ : ByteArray), (⟨#[]⟩ : ByteArray), (⟨#[]⟩ : ByteArray), (⟨#[]⟩ : ByteArray), (⟨#[]⟩ : ByteArray), (⟨#[]⟩ : ByteArray), 0, (⟨#[]⟩ : ByteArray), 2))) else (none)) else (none)) else (none)) else (none)) else (none)) else (none)) else (none)) else (none)) else (none)) else (none)) else (none)) else (none))) else (none)) else (some ((⟨#[]⟩ : ByteArray), (⟨#[]⟩ : ByteArray), (⟨#[]⟩ : ByteArray), (⟨#[]⟩ : ByteArray), (⟨#[]⟩ : ByteArray), (⟨#[]⟩ : ByteArray), (⟨#[]⟩ : ByteArray), (⟨#[]⟩ : ByteArray), (⟨#[]⟩ : ByteArray), (⟨#[]⟩ : ByteArray), (⟨#[]⟩ : ByteArray), 0, (⟨#[]⟩ : ByteArray), 2)))
def row_ReadCode.T5 : Bool × List (List Nat × List Nat) := (true, [([], []), ([0], [0]), ([1], [1]), ([], []), ([3], [3]), ([4], [4]), ([], []), ([6], [6]), ([7], [7]), ([], []), ([9], [9]), ([10], [10]), ([], []), ([12], [12]), ([13], [13]), ([], []), ([15], [15]), ([16], [16]), ([], []), ([18], [18]), ([19], [19]), ([], []), ([21], [21]), ([22], [22]), ([], []), ([24], [24]), ([25], [25]), ([], []), ([27], [27]), ([28], [28]), ([], []), ([30], [30]), ([31], [31]), ([], []), ([], []), ([34], [34]), ([35], [35]), ([2, 5, 8, 11, 14, 17, 20, 23, 26, 29, 32, 33, 36], [2, 5, 8, 11, 14, 17, 20, 23, 26, 29, 32, 33, 36]), ([], []), ([38, 37, 0, 1, 2, 3, 4, 5, 6, 7, 8, 9, 10, 11, 12, 13, 14, 15, 16, 17, 18, 19, 20, 21, 22, 23, 24, 25, 26, 27, 28, 29, 30, 31, 32, 33, 34, 35, 36, 37, 38], [37, 38])])
def row_ReadCode.B5 : List Nat := [0, 1, 3, 0, 8, 24, 0, 64, 192, 0, 512, 1536, 0, 4096, 12288, 0, 32768, 98304, 0, 262144, 786432, 0, 2097152, 6291456, 0, 16777216, 50331648, 0, 134217728, 402653184, 0, 1073741824, 3221225472, 0, 0, 17179869184, 51539607552, 137438953471, 0, 549755813887]
theorem row_ReadCode.tab5 : rtab .any (opsOf Tryd.f18 5) = row_ReadCode.T5 := by kernel_rfl
theorem row_ReadCode.bits5 : waitsOk row_ReadCode.T5.2 row_ReadCode.B5 = true := by kernel_rfl
set_option maxHeartbeats 8000000 in
set_option maxRecDepth 100000 in
theorem row_ReadCode.calls (a0 : ByteArray) (r1 : ByteArray) (r2 : ByteArray) (r3 : ByteArray) (r4 : ByteArray) (r5 : ByteArray) (r6 : ByteArray) (r7 : ByteArray) (r8 : ByteArray) (r9 : ByteArray) (r10 : ByteArray) (r11 : ByteArray) (r12 : Int) (r13 : ByteArray) (r14 : Int) (w : World) (h : row_ReadCode.f a0 = some (r1, r2, r3, r4, r5, r6, r7, r8, r9, r10, r11, r12, r13, r14)) (hG : GOK w := by first | assumption | exact hG | exact GOK.drewN _ hG | exact GOK.below hG (by repeat (first | (with_reducible first | exact HB.out | apply below_alloc | apply pw_below_drewN | apply below_drew1 | refine below_set ?_ (Aside0.out (by assumption))) | exact HB.out))) :
  Calls Tryd.prog 18 #[.string a0] w fun e w' => e = .returned (.tuple #[.agg #[.string r1, .string r2, .string r3, .string r4, .string r5, .string r6, .string r7, .string r8, .string r9, .string r10, .string r11, .int .i64 r12, .string r13], .int .i64 r14]) ∧ Below w.heap.size w w' := by
 have hu35 := Tryd.underlying35
 have HB := Aside0.mk (Below.refl w.heap.size w)
 have H := h
 unfold row_ReadCode.f at H
 clear h
 replace H := Option.bind_eq_some_iff.mp H
 obtain ⟨⟨t175, t176⟩, A20, H⟩ := H
 replace H : (if t176 = true then (if 11 < (t175.length : Int) then ((row_number.f (rdOf ByteArray.empty t175 11)).bind fun bt180 => (if 0 < (t175.length : Int) then (if 1 < (t175.length : Int) then (if 2 < (t175.length : Int) then (if 3 < (t175.length : Int) then (if 4 < (t175.length : Int) then (if 5 < (t175.length : Int) then (if 6 < (t175.length : Int) then (if 7 < (t175.length : Int) then (if 8 < (t175.length : Int) then (if 9 < (t175.length : Int) then (if 10 < (t175.length : Int) then (if 12 < (t175.length : Int) then (if bt180.2 = true then ((row_Code.f (rdOf ByteArray.empty t175 0) (rdOf ByteArray.empty t175 1) (rdOf ByteArray.empty t175 2) (rdOf ByteArray.empty t175 3) (rdOf ByteArray.empty t175 4) (rdOf ByteArray.empty t175 5) (rdOf ByteArray.empty t175 6) (rdOf ByteArray.empty t175 7) (rdOf ByteArray.empty t175 8) (rdOf ByteArray.empty t175 9) (rdOf ByteArray.empty t175 10) bt180.1 (rdOf ByteArray.empty t175 12)).bind fun t195 => (if t195.toList = a0.toList then (some (rdOf ByteArray.empty t175 0, rdOf ByteArray.empty t175 1, rdOf ByteArray.empty t175 2, rdOf ByteArray.empty t175 3, rdOf ByteArray.empty t175 4, rdOf ByteArray.empty t175 5, rdOf ByteArray.empty t175 6, rdOf ByteArray.empty t175 7, rdOf ByteArray.empty t175 8, rdOf ByteArray.empty t175 9, rdOf ByteArray.empty t175 10, bt180.1, rdOf ByteArray.empty t175 12, 0)) else (some ((⟨#[]⟩ : ByteArray), (⟨#[]⟩ : ByteArray), (⟨#[]⟩ : ByteArray), (⟨#[]⟩ : ByteArray), (⟨#[]⟩ : ByteArray), (⟨#[]⟩ : ByteArray), (⟨#[]⟩ : ByteArray), (⟨#[]⟩ : ByteArray), (⟨#[]⟩ : ByteArray), (⟨#[]⟩ : ByteArray), (⟨#[]⟩ : ByteArray), 0, (⟨#[]⟩ : ByteArray), 2)))) else (some ((⟨#[]⟩ : ByteArray), (⟨#[]⟩ : ByteArray), (⟨#[]⟩ : ByteArray), (⟨#[]⟩ : ByteArray), (⟨#[]⟩ : ByteArray), (⟨#[]⟩ : ByteArray), (⟨#[]⟩ : ByteArray), (⟨#[]⟩ : ByteArray), (⟨#[]⟩ : ByteArray), (⟨#[]⟩ : ByteArray), (⟨#[]⟩ : ByteArray), 0, (⟨#[]⟩ : ByteArray), 2))) else (none)) else (none)) else (none)) else (none)) else (none)) else (none)) else (none)) else (none)) else (none)) else (none)) else (none)) else (none))) else (none)) else (some ((⟨#[]⟩ : ByteArray), (⟨#[]⟩ : ByteArray), (⟨#[]⟩ : ByteArray), (⟨#[]⟩ : ByteArray), (⟨#[]⟩ : ByteArray), (⟨#[]⟩ : ByteArray), (⟨#[]⟩ : ByteArray), (⟨#[]⟩ : ByteArray), (⟨#[]⟩ : ByteArray), (⟨#[]⟩ : ByteArray), (⟨#[]⟩ : ByteArray), 0, (⟨#[]⟩ : ByteArray), 2))) = some (r1, r2, r3, r4, r5, r6, r7, r8, r9, r10, r11, r12, r13, r14) := H
 have A2 := Aside0.mk A20
 clear A20
 by_cases c3 : t176 = true
 ·subst c3
  have H1 : (if 11 < (t175.length : Int) then ((row_number.f (rdOf ByteArray.empty t175 11)).bind fun bt180 => (if 0 < (t175.length : Int) then (if 1 < (t175.length : Int) then (if 2 < (t175.length : Int) then (if 3 < (t175.length : Int) then (if 4 < (t175.length : Int) then (if 5 < (t175.length : Int) then (if 6 < (t175.length : Int) then (if 7 < (t175.length : Int) then (if 8 < (t175.length : Int) then (if 9 < (t175.length : Int) then (if 10 < (t175.length : Int) then (if 12 < (t175.length : Int) then (if bt180.2 = true then ((row_Code.f (rdOf ByteArray.empty t175 0) (rdOf ByteArray.empty t175 1) (rdOf ByteArray.empty t175 2) (rdOf ByteArray.empty t175 3) (rdOf ByteArray.empty t175 4) (rdOf ByteArray.empty t175 5) (rdOf ByteArray.empty t175 6) (rdOf ByteArray.empty t175 7) (rdOf ByteArray.empty t175 8) (rdOf ByteArray.empty t175 9) (rdOf ByteArray.empty t175 10) bt180.1 (rdOf ByteArray.empty t175 12)).bind fun t195 => (if t195.toList = a0.toList then (some (rdOf ByteArray.empty t175 0, rdOf ByteArray.empty t175 1, rdOf ByteArray.empty t175 2, rdOf ByteArray.empty t175 3, rdOf ByteArray.empty t175 4, rdOf ByteArray.empty t175 5, rdOf ByteArray.empty t175 6, rdOf ByteArray.empty t175 7, rdOf ByteArray.empty t175 8, rdOf ByteArray.empty t175 9, rdOf ByteArray.empty t175 10, bt180.1, rdOf ByteArray.empty t175 12, 0)) else (some ((⟨#[]⟩ : ByteArray), (⟨#[]⟩ : ByteArray), (⟨#[]⟩ : ByteArray), (⟨#[]⟩ : ByteArray), (⟨#[]⟩ : ByteArray), (⟨#[]⟩ : ByteArray), (⟨#[]⟩ : ByteArray), (⟨#[]⟩ : ByteArray), (⟨#[]⟩ : ByteArray), (⟨#[]⟩ : ByteArray), (⟨#[]⟩ : ByteArray), 0, (⟨#[]⟩ : ByteArray), 2)))) else (some ((⟨#[]⟩ : ByteArray), (⟨#[]⟩ : ByteArray), (⟨#[]⟩ : ByteArray), (⟨#[]⟩ : ByteArray), (⟨#[]⟩ : ByteArray), (⟨#[]⟩ : ByteArray), (⟨#[]⟩ : ByteArray), (⟨#[]⟩ : ByteArray), (⟨#[]⟩ : ByteArray), (⟨#[]⟩ : ByteArray), (⟨#[]⟩ : ByteArray), 0, (⟨#[]⟩ : ByteArray), 2))) else (none)) else (none)) else (none)) else (none)) else (none)) else (none)) else (none)) else (none)) else (none)) else (none)) else (none)) else (none))) else (none)) = some (r1, r2, r3, r4, r5, r6, r7, r8, r9, r10, r11, r12, r13, r14) := by rw [if_pos rfl] at H; exact H
  clear H
  have H := H1
  clear H1
  by_cases c4 : 11 < (t175.length : Int)
  rotate_left
  ·rw [if_neg c4] at H; exact absurd H (by simp)
  rw [if_pos c4] at H
  have c4b0 : decide (11 < (t175.length : Int)) = true := decide_eq_true c4
  have c4b1 : decide (11 < t175.length) = true := decide_eq_true (by omega)
  clear c4
  replace H := Option.bind_eq_some_iff.mp H
  obtain ⟨⟨t180, t181⟩, A50, H⟩ := H
  replace H : (if 0 < (t175.length : Int) then (if 1 < (t175.length : Int) then (if 2 < (t175.length : Int) then (if 3 < (t175.length : Int) then (if 4 < (t175.length : Int) then (if 5 < (t175.length : Int) then (if 6 < (t175.length : Int) then (if 7 < (t175.length : Int) then (if 8 < (t175.length : Int) then (if 9 < (t175.length : Int) then (if 10 < (t175.length : Int) then (if 12 < (t175.length : Int) then (if t181 = true then ((row_Code.f (rdOf ByteArray.empty t175 0) (rdOf ByteArray.empty t175 1) (rdOf ByteArray.empty t175 2) (rdOf ByteArray.empty t175 3) (rdOf ByteArray.empty t175 4) (rdOf ByteArray.empty t175 5) (rdOf ByteArray.empty t175 6) (rdOf ByteArray.empty t175 7) (rdOf ByteArray.empty t175 8) (rdOf ByteArray.empty t175 9) (rdOf ByteArray.empty t175 10) t180 (rdOf ByteArray.empty t175 12)).bind fun t195 => (if t195.toList = a0.toList then (some (rdOf ByteArray.empty t175 0, rdOf ByteArray.empty t175 1, rdOf ByteArray.empty t175 2, rdOf ByteArray.empty t175 3, rdOf ByteArray.empty t175 4, rdOf ByteArray.empty t175 5, rdOf ByteArray.empty t175 6, rdOf ByteArray.empty t175 7, rdOf ByteArray.empty t175 8, rdOf ByteArray.empty t175 9, rdOf ByteArray.empty t175 10, t180, rdOf ByteArray.empty t175 12, 0)) else (some ((⟨#[]⟩ : ByteArray), (⟨#[]⟩ : ByteArray), (⟨#[]⟩ : ByteArray), (⟨#[]⟩ : ByteArray), (⟨#[]⟩ : ByteArray), (⟨#[]⟩ : ByteArray), (⟨#[]⟩ : ByteArray), (⟨#[]⟩ : ByteArray), (⟨#[]⟩ : ByteArray), (⟨#[]⟩ : ByteArray), (⟨#[]⟩ : ByteArray), 0, (⟨#[]⟩ : ByteArray), 2)))) else (some ((⟨#[]⟩ : ByteArray), (⟨#[]⟩ : ByteArray), (⟨#[]⟩ : ByteArray), (⟨#[]⟩ : ByteArray), (⟨#[]⟩ : ByteArray), (⟨#[]⟩ : ByteArray), (⟨#[]⟩ : ByteArray), (⟨#[]⟩ : ByteArray), (⟨#[]⟩ : ByteArray), (⟨#[]⟩ : ByteArray), (⟨#[]⟩ : ByteArray), 0, (⟨#[]⟩ : ByteArray), 2))) else (none)) else (none)) else (none)) else (none)) else (none)) else (none)) else (none)) else (none)) else (none)) else (none)) else (none)) else (none)) = some (r1, r2, r3, r4, r5, r6, r7, r8, r9, r10, r11, r12, r13, r14) := H
  have A5 := Aside0.mk A50
  clear A50
  by_cases c6 : 0 < (t175.length : Int)
  rotate_left
  ·rw [if_neg c6] at H; exact absurd H (by simp)
  rw [if_pos c6] at H
  have c6b0 : decide (0 < (t175.length : Int)) = true := decide_eq_true c6
  have c6b1 : decide (0 < t175.length) = true := decide_eq_true (by omega)
  clear c6
  by_cases c7 : 1 < (t175.length : Int)
  rotate_left
  ·rw [if_neg c7] at H; exact absurd H (by simp)
  rw [if_pos c7] at H
  have c7b0 : decide (1 < (t175.length : Int)) = true := decide_eq_true c7
  have c7b1 : decide (1 < t175.length) = true := decide_eq_true (by omega)
  clear c7
  by_cases c8 : 2 < (t175.length : Int)
  rotate_left
  ·rw [if_neg c8] at H; exact absurd H (by simp)
  rw [if_pos c8] at H
  have c8b0 : decide (2 < (t175.length : Int)) = true := decide_eq_true c8
  have c8b1 : decide (2 < t175.length) = true := decide_eq_true (by omega)
  clear c8
  by_cases c9 : 3 < (t175.length : Int)
  rotate_left
  ·rw [if_neg c9] at H; exact absurd H (by simp)
  rw [if_pos c9] at H
  have c9b0 : decide (3 < (t175.length : Int)) = true := decide_eq_true c9
  have c9b1 : decide (3 < t175.length) = true := decide_eq_true (by omega)
  clear c9
  by_cases c10 : 4 < (t175.length : Int)
  rotate_left
  ·rw [if_neg c10] at H; exact absurd H (by simp)
  rw [if_pos c10] at H
  have c10b0 : decide (4 < (t175.length : Int)) = true := decide_eq_true c10
  have c10b1 : decide (4 < t175.length) = true := decide_eq_true (by omega)
  clear c10
  by_cases c11 : 5 < (t175.length : Int)
  rotate_left
  ·rw [if_neg c11] at H; exact absurd H (by simp)
  rw [if_pos c11] at H
  have c11b0 : decide (5 < (t175.length : Int)) = true := decide_eq_true c11
  have c11b1 : decide (5 < t175.length) = true := decide_eq_true (by omega)
  clear c11
  by_cases c12 : 6 < (t175.length : Int)
  rotate_left
  ·rw [if_neg c12] at H; exact absurd H (by simp)
  rw [if_pos c12] at H
  have c12b0 : decide (6 < (t175.length : Int)) = true := decide_eq_true c12
  have c12b1 : decide (6 < t175.length) = true := decide_eq_true (by omega)
  clear c12
  by_cases c13 : 7 < (t175.length : Int)
  rotate_left
  ·rw [if_neg c13] at H; exact absurd H (by simp)
  rw [if_pos c13] at H
  have c13b0 : decide (7 < (t175.length : Int)) = true := decide_eq_true c13
  have c13b1 : decide (7 < t175.length) = true := decide_eq_true (by omega)
  clear c13
  by_cases c14 : 8 < (t175.length : Int)
  rotate_left
  ·rw [if_neg c14] at H; exact absurd H (by simp)
  rw [if_pos c14] at H
  have c14b0 : decide (8 < (t175.length : Int)) = true := decide_eq_true c14
  have c14b1 : decide (8 < t175.length) = true := decide_eq_true (by omega)
  clear c14
  by_cases c15 : 9 < (t175.length : Int)
  rotate_left
  ·rw [if_neg c15] at H; exact absurd H (by simp)
  rw [if_pos c15] at H
  have c15b0 : decide (9 < (t175.length : Int)) = true := decide_eq_true c15
  have c15b1 : decide (9 < t175.length) = true := decide_eq_true (by omega)
  clear c15
  by_cases c16 : 10 < (t175.length : Int)
  rotate_left
  ·rw [if_neg c16] at H; exact absurd H (by simp)
  rw [if_pos c16] at H
  have c16b0 : decide (10 < (t175.length : Int)) = true := decide_eq_true c16
  have c16b1 : decide (10 < t175.length) = true := decide_eq_true (by omega)
  clear c16
  by_cases c17 : 12 < (t175.length : Int)
  rotate_left
  ·rw [if_neg c17] at H; exact absurd H (by simp)
  rw [if_pos c17] at H
  have c17b0 : decide (12 < (t175.length : Int)) = true := decide_eq_true c17
  have c17b1 : decide (12 < t175.length) = true := decide_eq_true (by omega)
  clear c17
  have HH_ := Aside0.mk H
  clear H
  go_enter Tryd.func18, Tryd.ntmps18
  try go_wp2_with (first | ((with_reducible refine gate_dst (N := 2) rfl ?_); refine box_event ?hg (N := 2) ?hd (cs := #[.string (⟨#[]⟩ : ByteArray), .string (⟨#[]⟩ : ByteArray), .string (⟨#[]⟩ : ByteArray), .string (⟨#[]⟩ : ByteArray), .string (⟨#[]⟩ : ByteArray), .string (⟨#[]⟩ : ByteArray), .string (⟨#[]⟩ : ByteArray), .string (⟨#[]⟩ : ByteArray), .string (⟨#[]⟩ : ByteArray), .string (⟨#[]⟩ : ByteArray), .string (⟨#[]⟩ : ByteArray), .int .i64 0, .string (⟨#[]⟩ : ByteArray)]) (t := 35) ?hr ?_; (case hd => rfl); (case hg => rfl); (case hr => first | (go_simp; done) | (go_simp; rfl)); intro gb174 hg w21 hbox hb; have n0_ := Aside0.mk (below_step (by repeat (first | (with_reducible first | exact HB.out | apply below_alloc | apply pw_below_drewN | apply below_drew1) | exact HB.out)) hb); have n1_ := Aside0.mk (hbox); have n2_ := Aside0.mk ((by rw [hg]; exact (below_size (by repeat (first | (with_reducible first | exact HB.out | apply below_alloc | apply pw_below_drewN | apply below_drew1) | exact HB.out))) : w.heap.size ≤ gb174)); have n3_ := Aside0.mk ((by rw [hg]; exact (below_size (by repeat (first | (with_reducible first | exact HB.out | apply below_alloc | apply pw_below_drewN | apply below_drew1) | exact HB.out))) : w.heap.size ≤ gb174)); clear HB; have HB := n0_; have BK174 := n1_; have GW174 := n2_; have GE174 := n3_; clear n0_ n1_ n2_ n3_; clear hb hbox hg) | ((with_reducible refine gate_callee (f := 33) rfl ?_); refine goesL_ (some 11) rfl rfl Tryd.func33 (by kernel_rfl) rfl #[.string a0, .int .i64 13] rfl (by (try simp only [List.map_toArray, List.map_cons, List.map_nil]); first | done | rfl | (simp only [List.length_drop, List.length_take]; rfl)) ?_; (with_reducible refine (row_fields.calls a0 13 t175 true _ A2.out).mono ?_); rintro e w22 ⟨v177, rfl, ho0, hb⟩; refine ⟨_, rfl, ?_⟩; have n0_ := Aside0.mk (Kd.R_lower ho0 (below_size (by repeat (first | (with_reducible first | exact HB.out | apply below_alloc | apply pw_below_drewN | apply below_drew1 | refine below_set ?_ GE174.out) | exact HB.out)))); have n1_ := Aside0.mk (blk_belowB BK174.out (by (with_reducible repeat (first | refine blk_drewN ?_ _ | refine blk_drew ?_ | refine blk_alloc ?_ _)); exact BK174.out) hb); have n2_ := Aside0.mk (below_step (by repeat (first | (with_reducible first | exact HB.out | apply below_alloc | apply pw_below_drewN | apply below_drew1 | refine below_set ?_ GE174.out) | exact HB.out)) hb); clear BK174; clear HB; have HO178 := n0_; have BK174 := n1_; have HB := n2_; clear n0_ n1_ n2_; (try clear hb); (try clear hb2); (try clear hk); (try clear hi); (try clear ho0); obtain ⟨Ao23, co23, eo23⟩ := Kd.R_slice HO178.out; subst eo23; have p179 : 0 ≤ (11 : Int) := (by omega); have q179 : 11 < (t175.length : Int) := of_decide_eq_true (by first | (with_reducible assumption) | assumption); obtain ⟨ad179, e179, hx179_0⟩ := Kd.at_string (Kd.R_reads' HO178.out).2.2 11 p179 q179; cases e179; (try simp only [show (11 : Int).toNat = 11 from rfl, Nat.reduceMul, Nat.reduceEqDiff, Go.Addr.add, ↓reduceIte] at hx179_0); have qi179 : (11 < t175.length) = True := eq_true (by omega); (try rw [show ((11 : Int)).toNat = 11 from rfl] at hx179_0); replace p179 := eq_true p179; replace q179 := eq_true q179) | ((with_reducible refine gate_callee (f := 34) rfl ?_); refine goesL_ (some 21) rfl rfl Tryd.func34 (by kernel_rfl) rfl #[.string (rdOf ByteArray.empty t175 11)] rfl (by (try simp only [List.map_toArray, List.map_cons, List.map_nil]); first | done | rfl | (simp only [List.length_drop, List.length_take]; rfl)) ?_; (with_reducible refine (row_number.calls (rdOf ByteArray.empty t175 11) t180 t181 _ A5.out).mono ?_); rintro e w24 ⟨rfl, hb⟩; refine ⟨_, rfl, ?_⟩; have n0_ := Aside0.mk (Kd.R_below (by (with_reducible repeat (first | apply Kd.R_alloc | apply Kd.R_drewN | apply Kd.R_drew)); exact HO178.out) hb); have n1_ := Aside0.mk (blk_belowB BK174.out (by (with_reducible repeat (first | refine blk_drewN ?_ _ | refine blk_drew ?_ | refine blk_alloc ?_ _)); exact BK174.out) hb); have n2_ := Aside0.mk (below_step (by repeat (first | (with_reducible first | exact HB.out | apply below_alloc | apply pw_below_drewN | apply below_drew1 | refine below_set ?_ GE174.out) | exact HB.out)) hb); clear HO178; clear BK174; clear HB; have HO178 := n0_; have BK174 := n1_; have HB := n2_; clear n0_ n1_ n2_; (try clear hb); (try clear hb2); (try clear hk); (try clear hi)))
  have n0_ := Aside0.mk (Kd.R_drew HO178.out)
  have n1_ := Aside0.mk (blk_drew BK174.out)
  have n2_ := Aside0.mk (below_drew1 HB.out)
  clear HO178; clear BK174; clear HB
  have HO178 := n0_
  have BK174 := n1_
  have HB := n2_
  clear n0_ n1_ n2_
  have p182 : 0 ≤ (0 : Int) := (by omega)
  have q182 : 0 < (t175.length : Int) := of_decide_eq_true (by first | (with_reducible assumption) | assumption)
  obtain ⟨ad182, e182, hx182_0⟩ := Kd.at_string (Kd.R_reads' HO178.out).2.2 0 p182 q182
  obtain rfl : ad179 = ad182 := (by injection e182)
  have qi182 : (0 < t175.length) = True := eq_true (by omega)
  (try rw [show ((0 : Int)).toNat = 0 from rfl] at hx182_0)
  (try rw [Addr.add_zero'] at hx182_0)
  replace p182 := eq_true p182
  replace q182 := eq_true q182
  have p183 : 0 ≤ (1 : Int) := (by omega)
  have q183 : 1 < (t175.length : Int) := of_decide_eq_true (by first | (with_reducible assumption) | assumption)
  obtain ⟨ad183, e183, hx183_0⟩ := Kd.at_string (Kd.R_reads' HO178.out).2.2 1 p183 q183
  obtain rfl : ad179 = ad183 := (by injection e183)
  (try simp only [show (1 : Int).toNat = 1 from rfl, Nat.reduceMul, Nat.reduceEqDiff, Go.Addr.add, ↓reduceIte] at hx183_0)
  have qi183 : (1 < t175.length) = True := eq_true (by omega)
  (try rw [show ((1 : Int)).toNat = 1 from rfl] at hx183_0)
  replace p183 := eq_true p183
  replace q183 := eq_true q183
  have p184 : 0 ≤ (2 : Int) := (by omega)
  have q184 : 2 < (t175.length : Int) := of_decide_eq_true (by first | (with_reducible assumption) | assumption)
  obtain ⟨ad184, e184, hx184_0⟩ := Kd.at_string (Kd.R_reads' HO178.out).2.2 2 p184 q184
  obtain rfl : ad179 = ad184 := (by injection e184)
  (try simp only [show (2 : Int).toNat = 2 from rfl, Nat.reduceMul, Nat.reduceEqDiff, Go.Addr.add, ↓reduceIte] at hx184_0)
  have qi184 : (2 < t175.length) = True := eq_true (by omega)
  (try rw [show ((2 : Int)).toNat = 2 from rfl] at hx184_0)
  replace p184 := eq_true p184
  replace q184 := eq_true q184
  have p185 : 0 ≤ (3 : Int) := (by omega)
  have q185 : 3 < (t175.length : Int) := of_decide_eq_true (by first | (with_reducible assumption) | assumption)
  obtain ⟨ad185, e185, hx185_0⟩ := Kd.at_string (Kd.R_reads' HO178.out).2.2 3 p185 q185
  obtain rfl : ad179 = ad185 := (by injection e185)
  (try simp only [show (3 : Int).toNat = 3 from rfl, Nat.reduceMul, Nat.reduceEqDiff, Go.Addr.add, ↓reduceIte] at hx185_0)
  have qi185 : (3 < t175.length) = True := eq_true (by omega)
  (try rw [show ((3 : Int)).toNat = 3 from rfl] at hx185_0)
  replace p185 := eq_true p185
  replace q185 := eq_true q185
  have p186 : 0 ≤ (4 : Int) := (by omega)
  have q186 : 4 < (t175.length : Int) := of_decide_eq_true (by first | (with_reducible assumption) | assumption)
  obtain ⟨ad186, e186, hx186_0⟩ := Kd.at_string (Kd.R_reads' HO178.out).2.2 4 p186 q186
  obtain rfl : ad179 = ad186 := (by injection e186)
  (try simp only [show (4 : Int).toNat = 4 from rfl, Nat.reduceMul, Nat.reduceEqDiff, Go.Addr.add, ↓reduceIte] at hx186_0)
  have qi186 : (4 < t175.length) = True := eq_true (by omega)
  (try rw [show ((4 : Int)).toNat = 4 from rfl] at hx186_0)
  replace p186 := eq_true p186
  replace q186 := eq_true q186
  have p187 : 0 ≤ (5 : Int) := (by omega)
  have q187 : 5 < (t175.length : Int) := of_decide_eq_true (by first | (with_reducible assumption) | assumption)
  obtain ⟨ad187, e187, hx187_0⟩ := Kd.at_string (Kd.R_reads' HO178.out).2.2 5 p187 q187
  obtain rfl : ad179 = ad187 := (by injection e187)
  (try simp only [show (5 : Int).toNat = 5 from rfl, Nat.reduceMul, Nat.reduceEqDiff, Go.Addr.add, ↓reduceIte] at hx187_0)
  have qi187 : (5 < t175.length) = True := eq_true (by omega)
  (try rw [show ((5 : Int)).toNat = 5 from rfl] at hx187_0)
  replace p187 := eq_true p187
  replace q187 := eq_true q187
  have p188 : 0 ≤ (6 : Int) := (by omega)
  have q188 : 6 < (t175.length : Int) := of_decide_eq_true (by first | (with_reducible assumption) | assumption)
  obtain ⟨ad188, e188, hx188_0⟩ := Kd.at_string (Kd.R_reads' HO178.out).2.2 6 p188 q188
  obtain rfl : ad179 = ad188 := (by injection e188)
  (try simp only [show (6 : Int).toNat = 6 from rfl, Nat.reduceMul, Nat.reduceEqDiff, Go.Addr.add, ↓reduceIte] at hx188_0)
  have qi188 : (6 < t175.length) = True := eq_true (by omega)
  (try rw [show ((6 : Int)).toNat = 6 from rfl] at hx188_0)
  replace p188 := eq_true p188
  replace q188 := eq_true q188
  have p189 : 0 ≤ (7 : Int) := (by omega)
  have q189 : 7 < (t175.length : Int) := of_decide_eq_true (by first | (with_reducible assumption) | assumption)
  obtain ⟨ad189, e189, hx189_0⟩ := Kd.at_string (Kd.R_reads' HO178.out).2.2 7 p189 q189
  obtain rfl : ad179 = ad189 := (by injection e189)
  (try simp only [show (7 : Int).toNat = 7 from rfl, Nat.reduceMul, Nat.reduceEqDiff, Go.Addr.add, ↓reduceIte] at hx189_0)
  have qi189 : (7 < t175.length) = True := eq_true (by omega)
  (try rw [show ((7 : Int)).toNat = 7 from rfl] at hx189_0)
  replace p189 := eq_true p189
  replace q189 := eq_true q189
  have p190 : 0 ≤ (8 : Int) := (by omega)
  have q190 : 8 < (t175.length : Int) := of_decide_eq_true (by first | (with_reducible assumption) | assumption)
  obtain ⟨ad190, e190, hx190_0⟩ := Kd.at_string (Kd.R_reads' HO178.out).2.2 8 p190 q190
  obtain rfl : ad179 = ad190 := (by injection e190)
  (try simp only [show (8 : Int).toNat = 8 from rfl, Nat.reduceMul, Nat.reduceEqDiff, Go.Addr.add, ↓reduceIte] at hx190_0)
  have qi190 : (8 < t175.length) = True := eq_true (by omega)
  (try rw [show ((8 : Int)).toNat = 8 from rfl] at hx190_0)
  replace p190 := eq_true p190
  replace q190 := eq_true q190
  have p191 : 0 ≤ (9 : Int) := (by omega)
  have q191 : 9 < (t175.length : Int) := of_decide_eq_true (by first | (with_reducible assumption) | assumption)
  obtain ⟨ad191, e191, hx191_0⟩ := Kd.at_string (Kd.R_reads' HO178.out).2.2 9 p191 q191
  obtain rfl : ad179 = ad191 := (by injection e191)
  (try simp only [show (9 : Int).toNat = 9 from rfl, Nat.reduceMul, Nat.reduceEqDiff, Go.Addr.add, ↓reduceIte] at hx191_0)
  have qi191 : (9 < t175.length) = True := eq_true (by omega)
  (try rw [show ((9 : Int)).toNat = 9 from rfl] at hx191_0)
  replace p191 := eq_true p191
  replace q191 := eq_true q191
  have p192 : 0 ≤ (10 : Int) := (by omega)
  have q192 : 10 < (t175.length : Int) := of_decide_eq_true (by first | (with_reducible assumption) | assumption)
  obtain ⟨ad192, e192, hx192_0⟩ := Kd.at_string (Kd.R_reads' HO178.out).2.2 10 p192 q192
  obtain rfl : ad179 = ad192 := (by injection e192)
  (try simp only [show (10 : Int).toNat = 10 from rfl, Nat.reduceMul, Nat.reduceEqDiff, Go.Addr.add, ↓reduceIte] at hx192_0)
  have qi192 : (10 < t175.length) = True := eq_true (by omega)
  (try rw [show ((10 : Int)).toNat = 10 from rfl] at hx192_0)
  replace p192 := eq_true p192
  replace q192 := eq_true q192
  have p193 : 0 ≤ (12 : Int) := (by omega)
  have q193 : 12 < (t175.length : Int) := of_decide_eq_true (by first | (with_reducible assumption) | assumption)
  obtain ⟨ad193, e193, hx193_0⟩ := Kd.at_string (Kd.R_reads' HO178.out).2.2 12 p193 q193
  obtain rfl : ad179 = ad193 := (by injection e193)
  (try simp only [show (12 : Int).toNat = 12 from rfl, Nat.reduceMul, Nat.reduceEqDiff, Go.Addr.add, ↓reduceIte] at hx193_0)
  have qi193 : (12 < t175.length) = True := eq_true (by omega)
  (try rw [show ((12 : Int)).toNat = 12 from rfl] at hx193_0)
  replace p193 := eq_true p193
  replace q193 := eq_true q193
  refine start_ (n := 40) (S := fun w' => w'.cell? ad179 = some (.string (rdOf ByteArray.empty t175 0)) ∧ w'.cell? ⟨ad179.block, ad179.off + 1, none⟩ = some (.string (rdOf ByteArray.empty t175 1)) ∧ w'.cell? ⟨ad179.block, ad179.off + 2, none⟩ = some (.string (rdOf ByteArray.empty t175 2)) ∧ w'.cell? ⟨ad179.block, ad179.off + 3, none⟩ = some (.string (rdOf ByteArray.empty t175 3)) ∧ w'.cell? ⟨ad179.block, ad179.off + 4, none⟩ = some (.string (rdOf ByteArray.empty t175 4)) ∧ w'.cell? ⟨ad179.block, ad179.off + 5, none⟩ = some (.string (rdOf ByteArray.empty t175 5)) ∧ w'.cell? ⟨ad179.block, ad179.off + 6, none⟩ = some (.string (rdOf ByteArray.empty t175 6)) ∧ w'.cell? ⟨ad179.block, ad179.off + 7, none⟩ = some (.string (rdOf ByteArray.empty t175 7)) ∧ w'.cell? ⟨ad179.block, ad179.off + 8, none⟩ = some (.string (rdOf ByteArray.empty t175 8)) ∧ w'.cell? ⟨ad179.block, ad179.off + 9, none⟩ = some (.string (rdOf ByteArray.empty t175 9)) ∧ w'.cell? ⟨ad179.block, ad179.off + 10, none⟩ = some (.string (rdOf ByteArray.empty t175 10)) ∧ w'.cell? ⟨ad179.block, ad179.off + 12, none⟩ = some (.string (rdOf ByteArray.empty t175 12))) (ds := []) #[false, false, false, false, false, false, false, false, false, false, false, false, false, false, false, false, false, false, false, false, false, false, false, false, false, false, false, false, false, false, false, false, false, false, false, false, false, false, false, false] (by kernel_rfl) rfl rfl ⟨hx182_0, hx183_0, hx184_0, hx185_0, hx186_0, hx187_0, hx188_0, hx189_0, hx190_0, hx191_0, hx192_0, hx193_0⟩ (fun hHeld => ?_); refine with_tabW row_ReadCode.tab5 row_ReadCode.bits5 (fun HT_ HW_ => ?_)
  generalize w24.drew = w25 at HO178 BK174 HB hx182_0 hx183_0 hx184_0 hx185_0 hx186_0 hx187_0 hx188_0 hx189_0 hx190_0 hx191_0 hx192_0 hx193_0 hHeld ⊢
  refine pure_ (i := 0) (N := some 24) (v := ?_) (a' := ?_) #[true, false, false, false, false, false, false, false, false, false, false, false, false, false, false, false, false, false, false, false, false, false, false, false, false, false, false, false, false, false, false, false, false, false, false, false, false, false, false, false] rfl rfl (any_of HT_.out (by kernel_rfl)) (fun _ _ _ h => h) (Or.inl ⟨by rfl, ?_⟩) ?_ ?_
  rotate_left
  ·intro w'
   go_simp
   with_reducible rfl
  rotate_left
  ·simp only [Act.put, List.setIfInBounds_toArray, List.set_cons_zero, List.set_cons_succ, i64_w, i32_w]
   rfl
  refine pure_ (i := 1) (N := some 25) (v := ?_) (a' := ?_) #[true, true, false, false, false, false, false, false, false, false, false, false, false, false, false, false, false, false, false, false, false, false, false, false, false, false, false, false, false, false, false, false, false, false, false, false, false, false, false, false] rfl rfl (any_of HT_.out (by kernel_rfl)) (fun _ _ _ h => h) (Or.inl ⟨by rfl, ?_⟩) ?_ ?_
  rotate_left
  ·intro w'
   go_simp
   with_reducible rfl
  rotate_left
  ·simp only [Act.put, List.setIfInBounds_toArray, List.set_cons_zero, List.set_cons_succ, i64_w, i32_w]
   rfl
  refine pure_ (i := 3) (N := some 27) (v := ?_) (a' := ?_) #[true, true, false, true, false, false, false, false, false, false, false, false, false, false, false, false, false, false, false, false, false, false, false, false, false, false, false, false, false, false, false, false, false, false, false, false, false, false, false, false] rfl rfl (any_of HT_.out (by kernel_rfl)) (fun _ _ _ h => h) (Or.inl ⟨by rfl, ?_⟩) ?_ ?_
  rotate_left
  ·intro w'
   go_simp
   with_reducible rfl
  rotate_left
  ·simp only [Act.put, List.setIfInBounds_toArray, List.set_cons_zero, List.set_cons_succ, i64_w, i32_w]
   rfl
  refine pure_ (i := 4) (N := some 28) (v := ?_) (a' := ?_) #[true, true, false, true, true, false, false, false, false, false, false, false, false, false, false, false, false, false, false, false, false, false, false, false, false, false, false, false, false, false, false, false, false, false, false, false, false, false, false, false] rfl rfl (any_of HT_.out (by kernel_rfl)) (fun _ _ _ h => h) (Or.inl ⟨by rfl, ?_⟩) ?_ ?_
  rotate_left
  ·intro w'
   go_simp
   with_reducible rfl
  rotate_left
  ·simp only [Act.put, List.setIfInBounds_toArray, List.set_cons_zero, List.set_cons_succ, i64_w, i32_w]
   rfl
  refine pure_ (i := 6) (N := some 30) (v := ?_) (a' := ?_) #[true, true, false, true, true, false, true, false, false, false, false, false, false, false, false, false, false, false, false, false, false, false, false, false, false, false, false, false, false, false, false, false, false, false, false, false, false, false, false, false] rfl rfl (any_of HT_.out (by kernel_rfl)) (fun _ _ _ h => h) (Or.inl ⟨by rfl, ?_⟩) ?_ ?_
  rotate_left
  ·intro w'
   go_simp
   with_reducible rfl
  rotate_left
  ·simp only [Act.put, List.setIfInBounds_toArray, List.set_cons_zero, List.set_cons_succ, i64_w, i32_w]
   rfl
  refine pure_ (i := 7) (N := some 31) (v := ?_) (a' := ?_) #[true, true, false, true, true, false, true, true, false, false, false, false, false, false, false, false, false, false, false, false, false, false, false, false, false, false, false, false, false, false, false, false, false, false, false, false, false, false, false, false] rfl rfl (any_of HT_.out (by kernel_rfl)) (fun _ _ _ h => h) (Or.inl ⟨by rfl, ?_⟩) ?_ ?_
  rotate_left
  ·intro w'
   go_simp
   with_reducible rfl
  rotate_left
  ·simp only [Act.put, List.setIfInBounds_toArray, List.set_cons_zero, List.set_cons_succ, i64_w, i32_w]
   rfl
  refine pure_ (i := 9) (N := some 33) (v := ?_) (a' := ?_) #[true, true, false, true, true, false, true, true, false, true, false, false, false, false, false, false, false, false, false, false, false, false, false, false, false, false, false, false, false, false, false, false, false, false, false, false, false, false, false, false] rfl rfl (any_of HT_.out (by kernel_rfl)) (fun _ _ _ h => h) (Or.inl ⟨by rfl, ?_⟩) ?_ ?_
  rotate_left
  ·intro w'
   go_simp
   with_reducible rfl
  rotate_left
  ·simp only [Act.put, List.setIfInBounds_toArray, List.set_cons_zero, List.set_cons_succ, i64_w, i32_w]
   rfl
  refine pure_ (i := 10) (N := some 34) (v := ?_) (a' := ?_) #[true, true, false, true, true, false, true, true, false, true, true, false, false, false, false, false, false, false, false, false, false, false, false, false, false, false, false, false, false, false, false, false, false, false, false, false, false, false, false, false] rfl rfl (any_of HT_.out (by kernel_rfl)) (fun _ _ _ h => h) (Or.inl ⟨by rfl, ?_⟩) ?_ ?_
  rotate_left
  ·intro w'
   go_simp
   with_reducible rfl
  rotate_left
  ·simp only [Act.put, List.setIfInBounds_toArray, List.set_cons_zero, List.set_cons_succ, i64_w, i32_w]
   rfl
  refine pure_ (i := 12) (N := some 36) (v := ?_) (a' := ?_) #[true, true, false, true, true, false, true, true, false, true, true, false, true, false, false, false, false, false, false, false, false, false, false, false, false, false, false, false, false, false, false, false, false, false, false, false, false, false, false, false] rfl rfl (any_of HT_.out (by kernel_rfl)) (fun _ _ _ h => h) (Or.inl ⟨by rfl, ?_⟩) ?_ ?_
  rotate_left
  ·intro w'
   go_simp
   with_reducible rfl
  rotate_left
  ·simp only [Act.put, List.setIfInBounds_toArray, List.set_cons_zero, List.set_cons_succ, i64_w, i32_w]
   rfl
  refine pure_ (i := 13) (N := some 37) (v := ?_) (a' := ?_) #[true, true, false, true, true, false, true, true, false, true, true, false, true, true, false, false, false, false, false, false, false, false, false, false, false, false, false, false, false, false, false, false, false, false, false, false, false, false, false, false] rfl rfl (any_of HT_.out (by kernel_rfl)) (fun _ _ _ h => h) (Or.inl ⟨by rfl, ?_⟩) ?_ ?_
  rotate_left
  ·intro w'
   go_simp
   with_reducible rfl
  rotate_left
  ·simp only [Act.put, List.setIfInBounds_toArray, List.set_cons_zero, List.set_cons_succ, i64_w, i32_w]
   rfl
  refine pure_ (i := 15) (N := some 39) (v := ?_) (a' := ?_) #[true, true, false, true, true, false, true, true, false, true, true, false, true, true, false, true, false, false, false, false, false, false, false, false, false, false, false, false, false, false, false, false, false, false, false, false, false, false, false, false] rfl rfl (any_of HT_.out (by kernel_rfl)) (fun _ _ _ h => h) (Or.inl ⟨by rfl, ?_⟩) ?_ ?_
  rotate_left
  ·intro w'
   go_simp
   with_reducible rfl
  rotate_left
  ·simp only [Act.put, List.setIfInBounds_toArray, List.set_cons_zero, List.set_cons_succ, i64_w, i32_w]
   rfl
  refine pure_ (i := 16) (N := some 40) (v := ?_) (a' := ?_) #[true, true, false, true, true, false, true, true, false, true, true, false, true, true, false, true, true, false, false, false, false, false, false, false, false, false, false, false, false, false, false, false, false, false, false, false, false, false, false, false] rfl rfl (any_of HT_.out (by kernel_rfl)) (fun _ _ _ h => h) (Or.inl ⟨by rfl, ?_⟩) ?_ ?_
  rotate_left
  ·intro w'
   go_simp
   with_reducible rfl
  rotate_left
  ·simp only [Act.put, List.setIfInBounds_toArray, List.set_cons_zero, List.set_cons_succ, i64_w, i32_w]
   rfl
  refine pure_ (i := 18) (N := some 42) (v := ?_) (a' := ?_) #[true, true, false, true, true, false, true, true, false, true, true, false, true, true, false, true, true, false, true, false, false, false, false, false, false, false, false, false, false, false, false, false, false, false, false, false, false, false, false, false] rfl rfl (any_of HT_.out (by kernel_rfl)) (fun _ _ _ h => h) (Or.inl ⟨by rfl, ?_⟩) ?_ ?_
  rotate_left
  ·intro w'
   go_simp
   with_reducible rfl
  rotate_left
  ·simp only [Act.put, List.setIfInBounds_toArray, List.set_cons_zero, List.set_cons_succ, i64_w, i32_w]
   rfl
  refine pure_ (i := 19) (N := some 43) (v := ?_) (a' := ?_) #[true, true, false, true, true, false, true, true, false, true, true, false, true, true, false, true, true, false, true, true, false, false, false, false, false, false, false, false, false, false, false, false, false, false, false, false, false, false, false, false] rfl rfl (any_of HT_.out (by kernel_rfl)) (fun _ _ _ h => h) (Or.inl ⟨by rfl, ?_⟩) ?_ ?_
  rotate_left
  ·intro w'
   go_simp
   with_reducible rfl
  rotate_left
  ·simp only [Act.put, List.setIfInBounds_toArray, List.set_cons_zero, List.set_cons_succ, i64_w, i32_w]
   rfl
  refine pure_ (i := 21) (N := some 45) (v := ?_) (a' := ?_) #[true, true, false, true, true, false, true, true, false, true, true, false, true, true, false, true, true, false, true, true, false, true, false, false, false, false, false, false, false, false, false, false, false, false, false, false, false, false, false, false] rfl rfl (any_of HT_.out (by kernel_rfl)) (fun _ _ _ h => h) (Or.inl ⟨by rfl, ?_⟩) ?_ ?_
  rotate_left
  ·intro w'
   go_simp
   with_reducible rfl
  rotate_left
  ·simp only [Act.put, List.setIfInBounds_toArray, List.set_cons_zero, List.set_cons_succ, i64_w, i32_w]
   rfl
  refine pure_ (i := 22) (N := some 46) (v := ?_) (a' := ?_) #[true, true, false, true, true, false, true, true, false, true, true, false, true, true, false, true, true, false, true, true, false, true, true, false, false, false, false, false, false, false, false, false, false, false, false, false, false, false, false, false] rfl rfl (any_of HT_.out (by kernel_rfl)) (fun _ _ _ h => h) (Or.inl ⟨by rfl, ?_⟩) ?_ ?_
  rotate_left
  ·intro w'
   go_simp
   with_reducible rfl
  rotate_left
  ·simp only [Act.put, List.setIfInBounds_toArray, List.set_cons_zero, List.set_cons_succ, i64_w, i32_w]
   rfl
  refine pure_ (i := 24) (N := some 48) (v := ?_) (a' := ?_) #[true, true, false, true, true, false, true, true, false, true, true, false, true, true, false, true, true, false, true, true, false, true, true, false, true, false, false, false, false, false, false, false, false, false, false, false, false, false, false, false] rfl rfl (any_of HT_.out (by kernel_rfl)) (fun _ _ _ h => h) (Or.inl ⟨by rfl, ?_⟩) ?_ ?_
  rotate_left
  ·intro w'
   go_simp
   with_reducible rfl
  rotate_left
  ·simp only [Act.put, List.setIfInBounds_toArray, List.set_cons_zero, List.set_cons_succ, i64_w, i32_w]
   rfl
  refine pure_ (i := 25) (N := some 49) (v := ?_) (a' := ?_) #[true, true, false, true, true, false, true, true, false, true, true, false, true, true, false, true, true, false, true, true, false, true, true, false, true, true, false, false, false, false, false, false, false, false, false, false, false, false, false, false] rfl rfl (any_of HT_.out (by kernel_rfl)) (fun _ _ _ h => h) (Or.inl ⟨by rfl, ?_⟩) ?_ ?_
  rotate_left
  ·intro w'
   go_simp
   with_reducible rfl
  rotate_left
  ·simp only [Act.put, List.setIfInBounds_toArray, List.set_cons_zero, List.set_cons_succ, i64_w, i32_w]
   rfl
  refine pure_ (i := 27) (N := some 51) (v := ?_) (a' := ?_) #[true, true, false, true, true, false, true, true, false, true, true, false, true, true, false, true, true, false, true, true, false, true, true, false, true, true, false, true, false, false, false, false, false, false, false, false, false, false, false, false] rfl rfl (any_of HT_.out (by kernel_rfl)) (fun _ _ _ h => h) (Or.inl ⟨by rfl, ?_⟩) ?_ ?_
  rotate_left
  ·intro w'
   go_simp
   with_reducible rfl
  rotate_left
  ·simp only [Act.put, List.setIfInBounds_toArray, List.set_cons_zero, List.set_cons_succ, i64_w, i32_w]
   rfl
  refine pure_ (i := 28) (N := some 52) (v := ?_) (a' := ?_) #[true, true, false, true, true, false, true, true, false, true, true, false, true, true, false, true, true, false, true, true, false, true, true, false, true, true, false, true, true, false, false, false, false, false, false, false, false, false, false, false] rfl rfl (any_of HT_.out (by kernel_rfl)) (fun _ _ _ h => h) (Or.inl ⟨by rfl, ?_⟩) ?_ ?_
  rotate_left
  ·intro w'
   go_simp
   with_reducible rfl
  rotate_left
  ·simp only [Act.put, List.setIfInBounds_toArray, List.set_cons_zero, List.set_cons_succ, i64_w, i32_w]
   rfl
  refine pure_ (i := 30) (N := some 54) (v := ?_) (a' := ?_) #[true, true, false, true, true, false, true, true, false, true, true, false, true, true, false, true, true, false, true, true, false, true, true, false, true, true, false, true, true, false, true, false, false, false, false, false, false, false, false, false] rfl rfl (any_of HT_.out (by kernel_rfl)) (fun _ _ _ h => h) (Or.inl ⟨by rfl, ?_⟩) ?_ ?_
  rotate_left
  ·intro w'
   go_simp
   with_reducible rfl
  rotate_left
  ·simp only [Act.put, List.setIfInBounds_toArray, List.set_cons_zero, List.set_cons_succ, i64_w, i32_w]
   rfl
  refine pure_ (i := 31) (N := some 55) (v := ?_) (a' := ?_) #[true, true, false, true, true, false, true, true, false, true, true, false, true, true, false, true, true, false, true, true, false, true, true, false, true, true, false, true, true, false, true, true, false, false, false, false, false, false, false, false] rfl rfl (any_of HT_.out (by kernel_rfl)) (fun _ _ _ h => h) (Or.inl ⟨by rfl, ?_⟩) ?_ ?_
  rotate_left
  ·intro w'
   go_simp
   with_reducible rfl
  rotate_left
  ·simp only [Act.put, List.setIfInBounds_toArray, List.set_cons_zero, List.set_cons_succ, i64_w, i32_w]
   rfl
  refine pure_ (i := 33) (N := some 57) (v := ?_) (a' := ?_) #[true, true, false, true, true, false, true, true, false, true, true, false, true, true, false, true, true, false, true, true, false, true, true, false, true, true, false, true, true, false, true, true, false, true, false, false, false, false, false, false] rfl rfl (any_of HT_.out (by kernel_rfl)) (fun _ _ _ h => h) (Or.inl ⟨by rfl, ?_⟩) ?_ ?_
  rotate_left
  ·intro w'
   go_simp
   with_reducible rfl
  rotate_left
  ·simp only [Act.put, List.setIfInBounds_toArray, List.set_cons_zero, List.set_cons_succ, i64_w, i32_w]
   rfl
  refine pure_ (i := 34) (N := some 58) (v := ?_) (a' := ?_) #[true, true, false, true, true, false, true, true, false, true, true, false, true, true, false, true, true, false, true, true, false, true, true, false, true, true, false, true, true, false, true, true, false, true, true, false, false, false, false, false] rfl rfl (any_of HT_.out (by kernel_rfl)) (fun _ _ _ h => h) (Or.inl ⟨by rfl, ?_⟩) ?_ ?_
  rotate_left
  ·intro w'
   go_simp
   with_reducible rfl
  rotate_left
  ·simp only [Act.put, List.setIfInBounds_toArray, List.set_cons_zero, List.set_cons_succ, i64_w, i32_w]
   rfl
  refine pure_ (i := 35) (N := some 59) (v := ?_) (a' := ?_) #[true, true, false, true, true, false, true, true, false, true, true, false, true, true, false, true, true, false, true, true, false, true, true, false, true, true, false, true, true, false, true, true, false, true, true, true, false, false, false, false] rfl rfl (any_of HT_.out (by kernel_rfl)) (fun _ _ _ h => h) (Or.inl ⟨by rfl, ?_⟩) ?_ ?_
  rotate_left
  ·intro w'
   go_simp
   with_reducible rfl
  rotate_left
  ·simp only [Act.put, List.setIfInBounds_toArray, List.set_cons_zero, List.set_cons_succ, i64_w, i32_w]
   rfl
  refine take_ (i := 2) (N := some 26) (v := ?_) (a' := ?_) #[true, true, true, true, true, false, true, true, false, true, true, false, true, true, false, true, true, false, true, true, false, true, true, false, true, true, false, true, true, false, true, true, false, true, true, true, false, false, false, false] rfl rfl (take_ofW HT_.out HW_.out (by kernel_rfl)) (fun _ _ _ h => h) (Or.inl ⟨by rfl, ?_⟩) hHeld ?_ ?_
  rotate_left
  ·rintro w' ⟨s0, s1, s2, s3, s4, s5, s6, s7, s8, s9, s10, s11⟩
   go_simp
   with_reducible rfl
  rotate_left
  ·simp only [Act.put, List.setIfInBounds_toArray, List.set_cons_zero, List.set_cons_succ, i64_w, i32_w]
   rfl
  refine take_ (i := 5) (N := some 29) (v := ?_) (a' := ?_) #[true, true, true, true, true, true, true, true, false, true, true, false, true, true, false, true, true, false, true, true, false, true, true, false, true, true, false, true, true, false, true, true, false, true, true, true, false, false, false, false] rfl rfl (take_ofW HT_.out HW_.out (by kernel_rfl)) (fun _ _ _ h => h) (Or.inl ⟨by rfl, ?_⟩) hHeld ?_ ?_
  rotate_left
  ·rintro w' ⟨s0, s1, s2, s3, s4, s5, s6, s7, s8, s9, s10, s11⟩
   go_simp
   with_reducible rfl
  rotate_left
  ·simp only [Act.put, List.setIfInBounds_toArray, List.set_cons_zero, List.set_cons_succ, i64_w, i32_w]
   rfl
  refine take_ (i := 8) (N := some 32) (v := ?_) (a' := ?_) #[true, true, true, true, true, true, true, true, true, true, true, false, true, true, false, true, true, false, true, true, false, true, true, false, true, true, false, true, true, false, true, true, false, true, true, true, false, false, false, false] rfl rfl (take_ofW HT_.out HW_.out (by kernel_rfl)) (fun _ _ _ h => h) (Or.inl ⟨by rfl, ?_⟩) hHeld ?_ ?_
  rotate_left
  ·rintro w' ⟨s0, s1, s2, s3, s4, s5, s6, s7, s8, s9, s10, s11⟩
   go_simp
   with_reducible rfl
  rotate_left
  ·simp only [Act.put, List.setIfInBounds_toArray, List.set_cons_zero, List.set_cons_succ, i64_w, i32_w]
   rfl
  refine take_ (i := 11) (N := some 35) (v := ?_) (a' := ?_) #[true, true, true, true, true, true, true, true, true, true, true, true, true, true, false, true, true, false, true, true, false, true, true, false, true, true, false, true, true, false, true, true, false, true, true, true, false, false, false, false] rfl rfl (take_ofW HT_.out HW_.out (by kernel_rfl)) (fun _ _ _ h => h) (Or.inl ⟨by rfl, ?_⟩) hHeld ?_ ?_
  rotate_left
  ·rintro w' ⟨s0, s1, s2, s3, s4, s5, s6, s7, s8, s9, s10, s11⟩
   go_simp
   with_reducible rfl
  rotate_left
  ·simp only [Act.put, List.setIfInBounds_toArray, List.set_cons_zero, List.set_cons_succ, i64_w, i32_w]
   rfl
  refine take_ (i := 14) (N := some 38) (v := ?_) (a' := ?_) #[true, true, true, true, true, true, true, true, true, true, true, true, true, true, true, true, true, false, true, true, false, true, true, false, true, true, false, true, true, false, true, true, false, true, true, true, false, false, false, false] rfl rfl (take_ofW HT_.out HW_.out (by kernel_rfl)) (fun _ _ _ h => h) (Or.inl ⟨by rfl, ?_⟩) hHeld ?_ ?_
  rotate_left
  ·rintro w' ⟨s0, s1, s2, s3, s4, s5, s6, s7, s8, s9, s10, s11⟩
   go_simp
   with_reducible rfl
  rotate_left
  ·simp only [Act.put, List.setIfInBounds_toArray, List.set_cons_zero, List.set_cons_succ, i64_w, i32_w]
   rfl
  refine take_ (i := 17) (N := some 41) (v := ?_) (a' := ?_) #[true, true, true, true, true, true, true, true, true, true, true, true, true, true, true, true, true, true, true, true, false, true, true, false, true, true, false, true, true, false, true, true, false, true, true, true, false, false, false, false] rfl rfl (take_ofW HT_.out HW_.out (by kernel_rfl)) (fun _ _ _ h => h) (Or.inl ⟨by rfl, ?_⟩) hHeld ?_ ?_
  rotate_left
  ·rintro w' ⟨s0, s1, s2, s3, s4, s5, s6, s7, s8, s9, s10, s11⟩
   go_simp
   with_reducible rfl
  rotate_left
  ·simp only [Act.put, List.setIfInBounds_toArray, List.set_cons_zero, List.set_cons_succ, i64_w, i32_w]
   rfl
  refine take_ (i := 20) (N := some 44) (v := ?_) (a' := ?_) #[true, true, true, true, true, true, true, true, true, true, true, true, true, true, true, true, true, true, true, true, true, true, true, false, true, true, false, true, true, false, true, true, false, true, true, true, false, false, false, false] rfl rfl (take_ofW HT_.out HW_.out (by kernel_rfl)) (fun _ _ _ h => h) (Or.inl ⟨by rfl, ?_⟩) hHeld ?_ ?_
  rotate_left
  ·rintro w' ⟨s0, s1, s2, s3, s4, s5, s6, s7, s8, s9, s10, s11⟩
   go_simp
   with_reducible rfl
  rotate_left
  ·simp only [Act.put, List.setIfInBounds_toArray, List.set_cons_zero, List.set_cons_succ, i64_w, i32_w]
   rfl
  refine take_ (i := 23) (N := some 47) (v := ?_) (a' := ?_) #[true, true, true, true, true, true, true, true, true, true, true, true, true, true, true, true, true, true, true, true, true, true, true, true, true, true, false, true, true, false, true, true, false, true, true, true, false, false, false, false] rfl rfl (take_ofW HT_.out HW_.out (by kernel_rfl)) (fun _ _ _ h => h) (Or.inl ⟨by rfl, ?_⟩) hHeld ?_ ?_
  rotate_left
  ·rintro w' ⟨s0, s1, s2, s3, s4, s5, s6, s7, s8, s9, s10, s11⟩
   go_simp
   with_reducible rfl
  rotate_left
  ·simp only [Act.put, List.setIfInBounds_toArray, List.set_cons_zero, List.set_cons_succ, i64_w, i32_w]
   rfl
  refine take_ (i := 26) (N := some 50) (v := ?_) (a' := ?_) #[true, true, true, true, true, true, true, true, true, true, true, true, true, true, true, true, true, true, true, true, true, true, true, true, true, true, true, true, true, false, true, true, false, true, true, true, false, false, false, false] rfl rfl (take_ofW HT_.out HW_.out (by kernel_rfl)) (fun _ _ _ h => h) (Or.inl ⟨by rfl, ?_⟩) hHeld ?_ ?_
  rotate_left
  ·rintro w' ⟨s0, s1, s2, s3, s4, s5, s6, s7, s8, s9, s10, s11⟩
   go_simp
   with_reducible rfl
  rotate_left
  ·simp only [Act.put, List.setIfInBounds_toArray, List.set_cons_zero, List.set_cons_succ, i64_w, i32_w]
   rfl
  refine take_ (i := 29) (N := some 53) (v := ?_) (a' := ?_) #[true, true, true, true, true, true, true, true, true, true, true, true, true, true, true, true, true, true, true, true, true, true, true, true, true, true, true, true, true, true, true, true, false, true, true, true, false, false, false, false] rfl rfl (take_ofW HT_.out HW_.out (by kernel_rfl)) (fun _ _ _ h => h) (Or.inl ⟨by rfl, ?_⟩) hHeld ?_ ?_
  rotate_left
  ·rintro w' ⟨s0, s1, s2, s3, s4, s5, s6, s7, s8, s9, s10, s11⟩
   go_simp
   with_reducible rfl
  rotate_left
  ·simp only [Act.put, List.setIfInBounds_toArray, List.set_cons_zero, List.set_cons_succ, i64_w, i32_w]
   rfl
  refine take_ (i := 32) (N := some 56) (v := ?_) (a' := ?_) #[true, true, true, true, true, true, true, true, true, true, true, true, true, true, true, true, true, true, true, true, true, true, true, true, true, true, true, true, true, true, true, true, true, true, true, true, false, false, false, false] rfl rfl (take_ofW HT_.out HW_.out (by kernel_rfl)) (fun _ _ _ h => h) (Or.inl ⟨by rfl, ?_⟩) hHeld ?_ ?_
  rotate_left
  ·rintro w' ⟨s0, s1, s2, s3, s4, s5, s6, s7, s8, s9, s10, s11⟩
   go_simp
   with_reducible rfl
  rotate_left
  ·simp only [Act.put, List.setIfInBounds_toArray, List.set_cons_zero, List.set_cons_succ, i64_w, i32_w]
   rfl
  refine take_ (i := 36) (N := some 60) (v := ?_) (a' := ?_) #[true, true, true, true, true, true, true, true, true, true, true, true, true, true, true, true, true, true, true, true, true, true, true, true, true, true, true, true, true, true, true, true, true, true, true, true, true, false, false, false] rfl rfl (take_ofW HT_.out HW_.out (by kernel_rfl)) (fun _ _ _ h => h) (Or.inl ⟨by rfl, ?_⟩) hHeld ?_ ?_
  rotate_left
  ·rintro w' ⟨s0, s1, s2, s3, s4, s5, s6, s7, s8, s9, s10, s11⟩
   go_simp
   with_reducible rfl
  rotate_left
  ·simp only [Act.put, List.setIfInBounds_toArray, List.set_cons_zero, List.set_cons_succ, i64_w, i32_w]
   rfl
  refine pure_ (i := 37) (N := some 61) (v := ?_) (a' := ?_) #[true, true, true, true, true, true, true, true, true, true, true, true, true, true, true, true, true, true, true, true, true, true, true, true, true, true, true, true, true, true, true, true, true, true, true, true, true, true, false, false] rfl rfl (any_of HT_.out (by kernel_rfl)) (fun _ _ _ h => h) (Or.inl ⟨by rfl, ?_⟩) ?_ ?_
  rotate_left
  ·intro w'
   go_simp
   with_reducible rfl
  rotate_left
  ·simp only [Act.put, List.setIfInBounds_toArray, List.set_cons_zero, List.set_cons_succ, i64_w, i32_w]
   rfl
  refine one_ (i := 38) (N := some 8) #[true, true, true, true, true, true, true, true, true, true, true, true, true, true, true, true, true, true, true, true, true, true, true, true, true, true, true, true, true, true, true, true, true, true, true, true, true, true, true, false] rfl rfl (one_of HT_.out (by kernel_rfl)) (by decide) (fun K hK => ?_)
  refine box_step ?hg (N := 8) ?hd (cs := #[.string (⟨#[]⟩ : ByteArray), .string (⟨#[]⟩ : ByteArray), .string (⟨#[]⟩ : ByteArray), .string (⟨#[]⟩ : ByteArray), .string (⟨#[]⟩ : ByteArray), .string (⟨#[]⟩ : ByteArray), .string (⟨#[]⟩ : ByteArray), .string (⟨#[]⟩ : ByteArray), .string (⟨#[]⟩ : ByteArray), .string (⟨#[]⟩ : ByteArray), .string (⟨#[]⟩ : ByteArray), .int .i64 0, .string (⟨#[]⟩ : ByteArray)]) (t := 35) ?hr ?_; (case hd => rfl); (case hg => rfl); (case hr => first | (go_simp; done) | (go_simp; rfl))
  intro gb194 hg w26 hbox hb
  have HS0_ := (hb.cell (World.block_lt_of_cell? _ _ (hHeld.1))).trans (hHeld.1)
  have HS1_ := (hb.cell (World.block_lt_of_cell? _ _ (hHeld.2.1))).trans (hHeld.2.1)
  have HS2_ := (hb.cell (World.block_lt_of_cell? _ _ (hHeld.2.2.1))).trans (hHeld.2.2.1)
  have HS3_ := (hb.cell (World.block_lt_of_cell? _ _ (hHeld.2.2.2.1))).trans (hHeld.2.2.2.1)
  have HS4_ := (hb.cell (World.block_lt_of_cell? _ _ (hHeld.2.2.2.2.1))).trans (hHeld.2.2.2.2.1)
  have HS5_ := (hb.cell (World.block_lt_of_cell? _ _ (hHeld.2.2.2.2.2.1))).trans (hHeld.2.2.2.2.2.1)
  have HS6_ := (hb.cell (World.block_lt_of_cell? _ _ (hHeld.2.2.2.2.2.2.1))).trans (hHeld.2.2.2.2.2.2.1)
  have HS7_ := (hb.cell (World.block_lt_of_cell? _ _ (hHeld.2.2.2.2.2.2.2.1))).trans (hHeld.2.2.2.2.2.2.2.1)
  have HS8_ := (hb.cell (World.block_lt_of_cell? _ _ (hHeld.2.2.2.2.2.2.2.2.1))).trans (hHeld.2.2.2.2.2.2.2.2.1)
  have HS9_ := (hb.cell (World.block_lt_of_cell? _ _ (hHeld.2.2.2.2.2.2.2.2.2.1))).trans (hHeld.2.2.2.2.2.2.2.2.2.1)
  have HS10_ := (hb.cell (World.block_lt_of_cell? _ _ (hHeld.2.2.2.2.2.2.2.2.2.2.1))).trans (hHeld.2.2.2.2.2.2.2.2.2.2.1)
  have HS11_ := (hb.cell (World.block_lt_of_cell? _ _ (hHeld.2.2.2.2.2.2.2.2.2.2.2))).trans (hHeld.2.2.2.2.2.2.2.2.2.2.2)
  have n0_ := Aside0.mk (Kd.R_below (by (with_reducible repeat (first | apply Kd.R_alloc | apply Kd.R_drewN | apply Kd.R_drew)); exact HO178.out) hb)
  have n1_ := Aside0.mk (blk_belowB BK174.out (by (with_reducible repeat (first | refine blk_drewN ?_ _ | refine blk_drew ?_ | refine blk_alloc ?_ _)); exact BK174.out) hb)
  have n2_ := Aside0.mk (below_step (by repeat (first | (with_reducible first | exact HB.out | apply below_alloc | apply pw_below_drewN | apply below_drew1 | refine below_set ?_ GE174.out) | exact HB.out)) hb)
  have n3_ := Aside0.mk (hbox)
  have n4_ := Aside0.mk ((by rw [hg]; exact (below_size (by repeat (first | (with_reducible first | exact HB.out | apply below_alloc | apply pw_below_drewN | apply below_drew1 | refine below_set ?_ GE174.out) | exact HB.out))) : w.heap.size ≤ gb194))
  have n5_ := Aside0.mk ((by rw [hg]; exact (below_size (by repeat (first | (with_reducible first | exact HB.out | apply below_alloc | apply pw_below_drewN | apply below_drew1 | refine below_set ?_ GE174.out) | exact HB.out))) : w.heap.size ≤ gb194))
  have n6_ := Aside0.mk ((by rw [hg]; exact Nat.ne_of_lt (blk_lt (g := gb174) (o := .cells #[.string (⟨#[]⟩ : ByteArray), .string (⟨#[]⟩ : ByteArray), .string (⟨#[]⟩ : ByteArray), .string (⟨#[]⟩ : ByteArray), .string (⟨#[]⟩ : ByteArray), .string (⟨#[]⟩ : ByteArray), .string (⟨#[]⟩ : ByteArray), .string (⟨#[]⟩ : ByteArray), .string (⟨#[]⟩ : ByteArray), .string (⟨#[]⟩ : ByteArray), .string (⟨#[]⟩ : ByteArray), .int .i64 0, .string (⟨#[]⟩ : ByteArray)] 35 (0, 0)) (by (with_reducible repeat (first | refine blk_drewN ?_ _ | refine blk_drew ?_ | refine blk_alloc ?_ _)); exact BK174.out)) : gb174 ≠ gb194))
  have n7_ := Aside0.mk ((by rw [hg]; exact Nat.ne_of_gt (blk_lt (g := gb174) (o := .cells #[.string (⟨#[]⟩ : ByteArray), .string (⟨#[]⟩ : ByteArray), .string (⟨#[]⟩ : ByteArray), .string (⟨#[]⟩ : ByteArray), .string (⟨#[]⟩ : ByteArray), .string (⟨#[]⟩ : ByteArray), .string (⟨#[]⟩ : ByteArray), .string (⟨#[]⟩ : ByteArray), .string (⟨#[]⟩ : ByteArray), .string (⟨#[]⟩ : ByteArray), .string (⟨#[]⟩ : ByteArray), .int .i64 0, .string (⟨#[]⟩ : ByteArray)] 35 (0, 0)) (by (with_reducible repeat (first | refine blk_drewN ?_ _ | refine blk_drew ?_ | refine blk_alloc ?_ _)); exact BK174.out)) : gb194 ≠ gb174))
  clear HO178; clear BK174; clear HB
  have HO178 := n0_
  have BK174 := n1_
  have HB := n2_
  have BK194 := n3_
  have GW194 := n4_
  have GE194 := n5_
  have NB174_194 := n6_
  have NB194_174 := n7_
  clear n0_ n1_ n2_ n3_ n4_ n5_ n6_ n7_; clear hb hbox hg
  refine hK.out _ _ ⟨HS0_, HS1_, HS2_, HS3_, HS4_, HS5_, HS6_, HS7_, HS8_, HS9_, HS10_, HS11_⟩ (fun hHeld => ?_)
  clear hK K
  refine norm_ (a' := ?_) ?_ ?_
  rotate_left
  ·show Act.put _ (some 8) _ = _
   simp only [Act.put, List.setIfInBounds_toArray, List.set_cons_zero, List.set_cons_succ, i64_w, i32_w]
   rfl
  refine one_ (i := 39) (N := none) #[true, true, true, true, true, true, true, true, true, true, true, true, true, true, true, true, true, true, true, true, true, true, true, true, true, true, true, true, true, true, true, true, true, true, true, true, true, true, true, true] rfl rfl (one_of HT_.out (by kernel_rfl)) (by decide) (fun K hK => ?_)
  have hs27 : w26.cell? ⟨gb194, 0, none⟩ = some (.string (⟨#[]⟩ : ByteArray)) := (blk_cell BK194.out 0).trans rfl
  have hfs27 := blk_frozen BK194.out 0
  have hns27_0 := NB174_194.out
  have hms27_0 := NB194_174.out
  have hs28 : w26.cell? ⟨gb194, 1, none⟩ = some (.string (⟨#[]⟩ : ByteArray)) := (blk_cell BK194.out 1).trans rfl
  have hfs28 := blk_frozen BK194.out 1
  have hns28_0 := NB174_194.out
  have hms28_0 := NB194_174.out
  have hs29 : w26.cell? ⟨gb194, 2, none⟩ = some (.string (⟨#[]⟩ : ByteArray)) := (blk_cell BK194.out 2).trans rfl
  have hfs29 := blk_frozen BK194.out 2
  have hns29_0 := NB174_194.out
  have hms29_0 := NB194_174.out
  have hs30 : w26.cell? ⟨gb194, 3, none⟩ = some (.string (⟨#[]⟩ : ByteArray)) := (blk_cell BK194.out 3).trans rfl
  have hfs30 := blk_frozen BK194.out 3
  have hns30_0 := NB174_194.out
  have hms30_0 := NB194_174.out
  have hs31 : w26.cell? ⟨gb194, 4, none⟩ = some (.string (⟨#[]⟩ : ByteArray)) := (blk_cell BK194.out 4).trans rfl
  have hfs31 := blk_frozen BK194.out 4
  have hns31_0 := NB174_194.out
  have hms31_0 := NB194_174.out
  have hs32 : w26.cell? ⟨gb194, 5, none⟩ = some (.string (⟨#[]⟩ : ByteArray)) := (blk_cell BK194.out 5).trans rfl
  have hfs32 := blk_frozen BK194.out 5
  have hns32_0 := NB174_194.out
  have hms32_0 := NB194_174.out
  have hs33 : w26.cell? ⟨gb194, 6, none⟩ = some (.string (⟨#[]⟩ : ByteArray)) := (blk_cell BK194.out 6).trans rfl
  have hfs33 := blk_frozen BK194.out 6
  have hns33_0 := NB174_194.out
  have hms33_0 := NB194_174.out
  have hs34 : w26.cell? ⟨gb194, 7, none⟩ = some (.string (⟨#[]⟩ : ByteArray)) := (blk_cell BK194.out 7).trans rfl
  have hfs34 := blk_frozen BK194.out 7
  have hns34_0 := NB174_194.out
  have hms34_0 := NB194_174.out
  have hs35 : w26.cell? ⟨gb194, 8, none⟩ = some (.string (⟨#[]⟩ : ByteArray)) := (blk_cell BK194.out 8).trans rfl
  have hfs35 := blk_frozen BK194.out 8
  have hns35_0 := NB174_194.out
  have hms35_0 := NB194_174.out
  have hs36 : w26.cell? ⟨gb194, 9, none⟩ = some (.string (⟨#[]⟩ : ByteArray)) := (blk_cell BK194.out 9).trans rfl
  have hfs36 := blk_frozen BK194.out 9
  have hns36_0 := NB174_194.out
  have hms36_0 := NB194_174.out
  have hs37 : w26.cell? ⟨gb194, 10, none⟩ = some (.string (⟨#[]⟩ : ByteArray)) := (blk_cell BK194.out 10).trans rfl
  have hfs37 := blk_frozen BK194.out 10
  have hns37_0 := NB174_194.out
  have hms37_0 := NB194_174.out
  have hs38 : w26.cell? ⟨gb194, 11, none⟩ = some (.int .i64 0) := (blk_cell BK194.out 11).trans rfl
  have hfs38 := blk_frozen BK194.out 11
  have hns38_0 := NB174_194.out
  have hms38_0 := NB194_174.out
  have hs39 : w26.cell? ⟨gb194, 12, none⟩ = some (.string (⟨#[]⟩ : ByteArray)) := (blk_cell BK194.out 12).trans rfl
  have hfs39 := blk_frozen BK194.out 12
  have hns39_0 := NB174_194.out
  have hms39_0 := NB194_174.out
  refine skip_ (w1 := ?_) (by rfl) rfl ?_ ?_
  rotate_left
  ·go_simp
   rfl
  have hne0_ := Kd.own_blk (Kd.R_ne HO178.out BK194.out (by decide))
  refine hK.out _ _ ⟨(cfar (cfar (cfar (cfar (cfar (cfar (cfar (cfar (cfar (cfar (cfar (cfar (cfar hHeld.1 hne0_) hne0_) hne0_) hne0_) hne0_) hne0_) hne0_) hne0_) hne0_) hne0_) hne0_) hne0_) hne0_), (cfar (cfar (cfar (cfar (cfar (cfar (cfar (cfar (cfar (cfar (cfar (cfar (cfar hHeld.2.1 hne0_) hne0_) hne0_) hne0_) hne0_) hne0_) hne0_) hne0_) hne0_) hne0_) hne0_) hne0_) hne0_), (cfar (cfar (cfar (cfar (cfar (cfar (cfar (cfar (cfar (cfar (cfar (cfar (cfar hHeld.2.2.1 hne0_) hne0_) hne0_) hne0_) hne0_) hne0_) hne0_) hne0_) hne0_) hne0_) hne0_) hne0_) hne0_), (cfar (cfar (cfar (cfar (cfar (cfar (cfar (cfar (cfar (cfar (cfar (cfar (cfar hHeld.2.2.2.1 hne0_) hne0_) hne0_) hne0_) hne0_) hne0_) hne0_) hne0_) hne0_) hne0_) hne0_) hne0_) hne0_), (cfar (cfar (cfar (cfar (cfar (cfar (cfar (cfar (cfar (cfar (cfar (cfar (cfar hHeld.2.2.2.2.1 hne0_) hne0_) hne0_) hne0_) hne0_) hne0_) hne0_) hne0_) hne0_) hne0_) hne0_) hne0_) hne0_), (cfar (cfar (cfar (cfar (cfar (cfar (cfar (cfar (cfar (cfar (cfar (cfar (cfar hHeld.2.2.2.2.2.1 hne0_) hne0_) hne0_) hne0_) hne0_) hne0_) hne0_) hne0_) hne0_) hne0_) hne0_) hne0_) hne0_), (cfar (cfar (cfar (cfar (cfar (cfar (cfar (cfar (cfar (cfar (cfar (cfar (cfar hHeld.2.2.2.2.2.2.1 hne0_) hne0_) hne0_) hne0_) hne0_) hne0_) hne0_) hne0_) hne0_) hne0_) hne0_) hne0_) hne0_), (cfar (cfar (cfar (cfar (cfar (cfar (cfar (cfar (cfar (cfar (cfar (cfar (cfar hHeld.2.2.2.2.2.2.2.1 hne0_) hne0_) hne0_) hne0_) hne0_) hne0_) hne0_) hne0_) hne0_) hne0_) hne0_) hne0_) hne0_), (cfar (cfar (cfar (cfar (cfar (cfar (cfar (cfar (cfar (cfar (cfar (cfar (cfar hHeld.2.2.2.2.2.2.2.2.1 hne0_) hne0_) hne0_) hne0_) hne0_) hne0_) hne0_) hne0_) hne0_) hne0_) hne0_) hne0_) hne0_), (cfar (cfar (cfar (cfar (cfar (cfar (cfar (cfar (cfar (cfar (cfar (cfar (cfar hHeld.2.2.2.2.2.2.2.2.2.1 hne0_) hne0_) hne0_) hne0_) hne0_) hne0_) hne0_) hne0_) hne0_) hne0_) hne0_) hne0_) hne0_), (cfar (cfar (cfar (cfar (cfar (cfar (cfar (cfar (cfar (cfar (cfar (cfar (cfar hHeld.2.2.2.2.2.2.2.2.2.2.1 hne0_) hne0_) hne0_) hne0_) hne0_) hne0_) hne0_) hne0_) hne0_) hne0_) hne0_) hne0_) hne0_), (cfar (cfar (cfar (cfar (cfar (cfar (cfar (cfar (cfar (cfar (cfar (cfar (cfar hHeld.2.2.2.2.2.2.2.2.2.2.2 hne0_) hne0_) hne0_) hne0_) hne0_) hne0_) hne0_) hne0_) hne0_) hne0_) hne0_) hne0_) hne0_)⟩ (fun hHeld => ?_)
  (try clear hne0_); clear hK K
  refine done_ (done_of HT_.out (by kernel_rfl)) ?_
  have H := HH_.out
  clear HH_
  by_cases c18 : t181 = true
  ·subst c18
   have H1 : ((row_Code.f (rdOf ByteArray.empty t175 0) (rdOf ByteArray.empty t175 1) (rdOf ByteArray.empty t175 2) (rdOf ByteArray.empty t175 3) (rdOf ByteArray.empty t175 4) (rdOf ByteArray.empty t175 5) (rdOf ByteArray.empty t175 6) (rdOf ByteArray.empty t175 7) (rdOf ByteArray.empty t175 8) (rdOf ByteArray.empty t175 9) (rdOf ByteArray.empty t175 10) t180 (rdOf ByteArray.empty t175 12)).bind fun t195 => (if t195.toList = a0.toList then (some (rdOf ByteArray.empty t175 0, rdOf ByteArray.empty t175 1, rdOf ByteArray.empty t175 2, rdOf ByteArray.empty t175 3, rdOf ByteArray.empty t175 4, rdOf ByteArray.empty t175 5, rdOf ByteArray.empty t175 6, rdOf ByteArray.empty t175 7, rdOf ByteArray.empty t175 8, rdOf ByteArray.empty t175 9, rdOf ByteArray.empty t175 10, t180, rdOf ByteArray.empty t175 12, 0)) else (some ((⟨#[]⟩ : ByteArray), (⟨#[]⟩ : ByteArray), (⟨#[]⟩ : ByteArray), (⟨#[]⟩ : ByteArray), (⟨#[]⟩ : ByteArray), (⟨#[]⟩ : ByteArray), (⟨#[]⟩ : ByteArray), (⟨#[]⟩ : ByteArray), (⟨#[]⟩ : ByteArray), (⟨#[]⟩ : ByteArray), (⟨#[]⟩ : ByteArray), 0, (⟨#[]⟩ : ByteArray), 2)))) = some (r1, r2, r3, r4, r5, r6, r7, r8, r9, r10, r11, r12, r13, r14) := by rw [if_pos rfl] at H; exact H
   clear H
   have H := H1
   clear H1
   replace H := Option.bind_eq_some_iff.mp H
   obtain ⟨t195, A190, H⟩ := H
   replace H : (if t195.toList = a0.toList then (some (rdOf ByteArray.empty t175 0, rdOf ByteArray.empty t175 1, rdOf ByteArray.empty t175 2, rdOf ByteArray.empty t175 3, rdOf ByteArray.empty t175 4, rdOf ByteArray.empty t175 5, rdOf ByteArray.empty t175 6, rdOf ByteArray.empty t175 7, rdOf ByteArray.empty t175 8, rdOf ByteArray.empty t175 9, rdOf ByteArray.empty t175 10, t180, rdOf ByteArray.empty t175 12, 0)) else (some ((⟨#[]⟩ : ByteArray), (⟨#[]⟩ : ByteArray), (⟨#[]⟩ : ByteArray), (⟨#[]⟩ : ByteArray), (⟨#[]⟩ : ByteArray), (⟨#[]⟩ : ByteArray), (⟨#[]⟩ : ByteArray), (⟨#[]⟩ : ByteArray), (⟨#[]⟩ : ByteArray), (⟨#[]⟩ : ByteArray), (⟨#[]⟩ : ByteArray), 0, (⟨#[]⟩ : ByteArray), 2))) = some (r1, r2, r3, r4, r5, r6, r7, r8, r9, r10, r11, r12, r13, r14) := H
   have A19 := Aside0.mk A190
   clear A190
   by_cases c20 : t195.toList = a0.toList
   ·rw [if_pos c20] at H
    have c20b0 : (t195.toList == a0.toList) = true := beq_iff_eq.mpr c20
    have c20b1 : (t195.toList != a0.toList) = false := bne_eq_false_iff_eq.mpr c20
    clear c20
    simp only [Option.some.injEq, Prod.mk.injEq] at H
    obtain ⟨rfl, rfl, rfl, rfl, rfl, rfl, rfl, rfl, rfl, rfl, rfl, rfl, rfl, rfl⟩ := H
    have hnb40 := NB194_174.out
    have hnc40 := NB174_194.out
    obtain ⟨hcz41_0, hcz41_1, hcz41_2, hcz41_3, hcz41_4, hcz41_5, hcz41_6, hcz41_7, hcz41_8, hcz41_9, hcz41_10, hcz41_11, hcz41_12⟩ := cells13 BK194.out
    obtain ⟨hfz41_0, hfz41_1, hfz41_2, hfz41_3, hfz41_4, hfz41_5, hfz41_6, hfz41_7, hfz41_8, hfz41_9, hfz41_10, hfz41_11, hfz41_12⟩ := froz13 BK194.out
    try go_wp2_with (first | (go_at_call 17; (with_reducible refine (row_Code.calls (rdOf ByteArray.empty t175 0) (rdOf ByteArray.empty t175 1) (rdOf ByteArray.empty t175 2) (rdOf ByteArray.empty t175 3) (rdOf ByteArray.empty t175 4) (rdOf ByteArray.empty t175 5) (rdOf ByteArray.empty t175 6) (rdOf ByteArray.empty t175 7) (rdOf ByteArray.empty t175 8) (rdOf ByteArray.empty t175 9) (rdOf ByteArray.empty t175 10) t180 (rdOf ByteArray.empty t175 12) t195 _ A19.out).mono ?_); rintro e w42 ⟨rfl, hb⟩; have n0_ := Aside0.mk (Kd.R_below (by (with_reducible repeat (first | apply Kd.R_alloc | apply Kd.R_drewN | apply Kd.R_drew)); exact (Kd.R_mono (Kd.R_far (p := ⟨gb194, 12, none⟩) (Kd.R_far (p := ⟨gb194, 11, none⟩) (Kd.R_far (p := ⟨gb194, 10, none⟩) (Kd.R_far (p := ⟨gb194, 9, none⟩) (Kd.R_far (p := ⟨gb194, 8, none⟩) (Kd.R_far (p := ⟨gb194, 7, none⟩) (Kd.R_far (p := ⟨gb194, 6, none⟩) (Kd.R_far (p := ⟨gb194, 5, none⟩) (Kd.R_far (p := ⟨gb194, 4, none⟩) (Kd.R_far (p := ⟨gb194, 3, none⟩) (Kd.R_far (p := ⟨gb194, 2, none⟩) (Kd.R_far (p := ⟨gb194, 1, none⟩) (Kd.R_far (p := ⟨gb194, 0, none⟩) (Kd.R_types HO178.out BK194.out (by decide)) (fun _ hk => hk.2) (.string (rdOf ByteArray.empty t175 0))) (fun _ hk => hk.2) (.string (rdOf ByteArray.empty t175 1))) (fun _ hk => hk.2) (.string (rdOf ByteArray.empty t175 2))) (fun _ hk => hk.2) (.string (rdOf ByteArray.empty t175 3))) (fun _ hk => hk.2) (.string (rdOf ByteArray.empty t175 4))) (fun _ hk => hk.2) (.string (rdOf ByteArray.empty t175 5))) (fun _ hk => hk.2) (.string (rdOf ByteArray.empty t175 6))) (fun _ hk => hk.2) (.string (rdOf ByteArray.empty t175 7))) (fun _ hk => hk.2) (.string (rdOf ByteArray.empty t175 8))) (fun _ hk => hk.2) (.string (rdOf ByteArray.empty t175 9))) (fun _ hk => hk.2) (.string (rdOf ByteArray.empty t175 10))) (fun _ hk => hk.2) (.int .i64 t180)) (fun _ hk => hk.2) (.string (rdOf ByteArray.empty t175 12))) (fun _ h_ => h_.1))) hb); have n1_ := Aside0.mk (blk_belowB BK174.out (by (with_reducible repeat (first | refine blk_drewN ?_ _ | refine blk_drew ?_ | refine blk_alloc ?_ _)); refine blk_far (blk_far (blk_far (blk_far (blk_far (blk_far (blk_far (blk_far (blk_far (blk_far (blk_far (blk_far (blk_far ?_ NB174_194.out _) NB174_194.out _) NB174_194.out _) NB174_194.out _) NB174_194.out _) NB174_194.out _) NB174_194.out _) NB174_194.out _) NB174_194.out _) NB174_194.out _) NB174_194.out _) NB174_194.out _) NB174_194.out _; (with_reducible repeat (first | refine blk_drewN ?_ _ | refine blk_drew ?_ | refine blk_alloc ?_ _)); exact BK174.out) hb); have n2_ := Aside0.mk (blk_below (g := gb194) (o := .cells #[.string (rdOf ByteArray.empty t175 0), .string (rdOf ByteArray.empty t175 1), .string (rdOf ByteArray.empty t175 2), .string (rdOf ByteArray.empty t175 3), .string (rdOf ByteArray.empty t175 4), .string (rdOf ByteArray.empty t175 5), .string (rdOf ByteArray.empty t175 6), .string (rdOf ByteArray.empty t175 7), .string (rdOf ByteArray.empty t175 8), .string (rdOf ByteArray.empty t175 9), .string (rdOf ByteArray.empty t175 10), .int .i64 t180, .string (rdOf ByteArray.empty t175 12)] 35 (0, 0)) (by (with_reducible repeat (first | refine blk_drewN ?_ _ | refine blk_drew ?_ | refine blk_alloc ?_ _)); refine fillR (cs := ?cs_) rfl rfl ?h_ ?l_; (case h_ => (with_reducible repeat (first | refine blk_drewN ?_ _ | refine blk_drew ?_ | refine blk_alloc ?_ _)); exact BK194.out); (case l_ => rfl)) hb); have n3_ := Aside0.mk (below_step (by repeat (first | (with_reducible first | exact HB.out | apply below_alloc | apply pw_below_drewN | apply below_drew1 | refine below_set ?_ GE174.out | refine below_set ?_ GE194.out) | exact HB.out)) hb); clear HO178; clear BK174; clear BK194; clear HB; have HO178 := n0_; have BK174 := n1_; have BK194 := n2_; have HB := n3_; clear n0_ n1_ n2_ n3_; (try clear hb); (try clear hb2); (try clear hk); (try clear hi); obtain ⟨hcz43_0, hcz43_1, hcz43_2, hcz43_3, hcz43_4, hcz43_5, hcz43_6, hcz43_7, hcz43_8, hcz43_9, hcz43_10, hcz43_11, hcz43_12⟩ := cells13 BK194.out; obtain ⟨hfz43_0, hfz43_1, hfz43_2, hfz43_3, hfz43_4, hfz43_5, hfz43_6, hfz43_7, hfz43_8, hfz43_9, hfz43_10, hfz43_11, hfz43_12⟩ := froz13 BK194.out; obtain ⟨hcz44_0, hcz44_1, hcz44_2, hcz44_3, hcz44_4, hcz44_5, hcz44_6, hcz44_7, hcz44_8, hcz44_9, hcz44_10, hcz44_11, hcz44_12⟩ := cells13 BK174.out; obtain ⟨hfz44_0, hfz44_1, hfz44_2, hfz44_3, hfz44_4, hfz44_5, hfz44_6, hfz44_7, hfz44_8, hfz44_9, hfz44_10, hfz44_11, hfz44_12⟩ := froz13 BK174.out))
    refine bodyPost_ret (results_ct rfl _ _ gb174 35 #[.string (rdOf ByteArray.empty t175 0), .string (rdOf ByteArray.empty t175 1), .string (rdOf ByteArray.empty t175 2), .string (rdOf ByteArray.empty t175 3), .string (rdOf ByteArray.empty t175 4), .string (rdOf ByteArray.empty t175 5), .string (rdOf ByteArray.empty t175 6), .string (rdOf ByteArray.empty t175 7), .string (rdOf ByteArray.empty t175 8), .string (rdOf ByteArray.empty t175 9), .string (rdOf ByteArray.empty t175 10), .int .i64 t180, .string (rdOf ByteArray.empty t175 12)] (0, 0) _ rfl (by (with_reducible repeat (first | refine blk_drewN ?_ _ | refine blk_drew ?_ | refine blk_alloc ?_ _)); refine fillR (cs := ?cs2_) rfl rfl ?h2_ ?l2_; (case h2_ => (with_reducible repeat (first | refine blk_drewN ?_ _ | refine blk_drew ?_ | refine blk_alloc ?_ _)); exact BK174.out); (case l2_ => rfl)) Tryd.underlying35 rfl (by kernel_rfl)) rfl ?_
    exact ⟨by first | rfl | (simp [errW_none, errW_some] <;> rfl) | (simp [*, errW_none, errW_some] <;> rfl), by repeat (first | (with_reducible first | exact HB.out | apply below_alloc | apply pw_below_drewN | apply below_drew1 | refine below_set ?_ GE174.out | refine below_set ?_ GE194.out) | exact HB.out)⟩
   ·rw [if_neg c20] at H
    have c20b0 : (t195.toList == a0.toList) = false := beq_eq_false_iff_ne.mpr c20
    have c20b1 : (t195.toList != a0.toList) = true := bne_iff_ne.mpr c20
    simp only [Option.some.injEq, Prod.mk.injEq] at H
    obtain ⟨rfl, rfl, rfl, rfl, rfl, rfl, rfl, rfl, rfl, rfl, rfl, rfl, rfl, rfl⟩ := H
    have hnb64 := NB194_174.out
    have hnc64 := NB174_194.out
    obtain ⟨hcz65_0, hcz65_1, hcz65_2, hcz65_3, hcz65_4, hcz65_5, hcz65_6, hcz65_7, hcz65_8, hcz65_9, hcz65_10, hcz65_11, hcz65_12⟩ := cells13 BK194.out
    obtain ⟨hfz65_0, hfz65_1, hfz65_2, hfz65_3, hfz65_4, hfz65_5, hfz65_6, hfz65_7, hfz65_8, hfz65_9, hfz65_10, hfz65_11, hfz65_12⟩ := froz13 BK194.out
    try go_wp2_with (first | (go_at_call 17; (with_reducible refine (row_Code.calls (rdOf ByteArray.empty t175 0) (rdOf ByteArray.empty t175 1) (rdOf ByteArray.empty t175 2) (rdOf ByteArray.empty t175 3) (rdOf ByteArray.empty t175 4) (rdOf ByteArray.empty t175 5) (rdOf ByteArray.empty t175 6) (rdOf ByteArray.empty t175 7) (rdOf ByteArray.empty t175 8) (rdOf ByteArray.empty t175 9) (rdOf ByteArray.empty t175 10) t180 (rdOf ByteArray.empty t175 12) t195 _ A19.out).mono ?_); rintro e w66 ⟨rfl, hb⟩; have n0_ := Aside0.mk (Kd.R_below (by (with_reducible repeat (first | apply Kd.R_alloc | apply Kd.R_drewN | apply Kd.R_drew)); exact (Kd.R_mono (Kd.R_far (p := ⟨gb194, 12, none⟩) (Kd.R_far (p := ⟨gb194, 11, none⟩) (Kd.R_far (p := ⟨gb194, 10, none⟩) (Kd.R_far (p := ⟨gb194, 9, none⟩) (Kd.R_far (p := ⟨gb194, 8, none⟩) (Kd.R_far (p := ⟨gb194, 7, none⟩) (Kd.R_far (p := ⟨gb194, 6, none⟩) (Kd.R_far (p := ⟨gb194, 5, none⟩) (Kd.R_far (p := ⟨gb194, 4, none⟩) (Kd.R_far (p := ⟨gb194, 3, none⟩) (Kd.R_far (p := ⟨gb194, 2, none⟩) (Kd.R_far (p := ⟨gb194, 1, none⟩) (Kd.R_far (p := ⟨gb194, 0, none⟩) (Kd.R_types HO178.out BK194.out (by decide)) (fun _ hk => hk.2) (.string (rdOf ByteArray.empty t175 0))) (fun _ hk => hk.2) (.string (rdOf ByteArray.empty t175 1))) (fun _ hk => hk.2) (.string (rdOf ByteArray.empty t175 2))) (fun _ hk => hk.2) (.string (rdOf ByteArray.empty t175 3))) (fun _ hk => hk.2) (.string (rdOf ByteArray.empty t175 4))) (fun _ hk => hk.2) (.string (rdOf ByteArray.empty t175 5))) (fun _ hk => hk.2) (.string (rdOf ByteArray.empty t175 6))) (fun _ hk => hk.2) (.string (rdOf ByteArray.empty t175 7))) (fun _ hk => hk.2) (.string (rdOf ByteArray.empty t175 8))) (fun _ hk => hk.2) (.string (rdOf ByteArray.empty t175 9))) (fun _ hk => hk.2) (.string (rdOf ByteArray.empty t175 10))) (fun _ hk => hk.2) (.int .i64 t180)) (fun _ hk => hk.2) (.string (rdOf ByteArray.empty t175 12))) (fun _ h_ => h_.1))) hb); have n1_ := Aside0.mk (blk_belowB BK174.out (by (with_reducible repeat (first | refine blk_drewN ?_ _ | refine blk_drew ?_ | refine blk_alloc ?_ _)); refine blk_far (blk_far (blk_far (blk_far (blk_far (blk_far (blk_far (blk_far (blk_far (blk_far (blk_far (blk_far (blk_far ?_ NB174_194.out _) NB174_194.out _) NB174_194.out _) NB174_194.out _) NB174_194.out _) NB174_194.out _) NB174_194.out _) NB174_194.out _) NB174_194.out _) NB174_194.out _) NB174_194.out _) NB174_194.out _) NB174_194.out _; (with_reducible repeat (first | refine blk_drewN ?_ _ | refine blk_drew ?_ | refine blk_alloc ?_ _)); exact BK174.out) hb); have n2_ := Aside0.mk (blk_below (g := gb194) (o := .cells #[.string (rdOf ByteArray.empty t175 0), .string (rdOf ByteArray.empty t175 1), .string (rdOf ByteArray.empty t175 2), .string (rdOf ByteArray.empty t175 3), .string (rdOf ByteArray.empty t175 4), .string (rdOf ByteArray.empty t175 5), .string (rdOf ByteArray.empty t175 6), .string (rdOf ByteArray.empty t175 7), .string (rdOf ByteArray.empty t175 8), .string (rdOf ByteArray.empty t175 9), .string (rdOf ByteArray.empty t175 10), .int .i64 t180, .string (rdOf ByteArray.empty t175 12)] 35 (0, 0)) (by (with_reducible repeat (first | refine blk_drewN ?_ _ | refine blk_drew ?_ | refine blk_alloc ?_ _)); refine fillR (cs := ?cs3_) rfl rfl ?h3_ ?l3_; (case h3_ => (with_reducible repeat (first | refine blk_drewN ?_ _ | refine blk_drew ?_ | refine blk_alloc ?_ _)); exact BK194.out); (case l3_ => rfl)) hb); have n3_ := Aside0.mk (below_step (by repeat (first | (with_reducible first | exact HB.out | apply below_alloc | apply pw_below_drewN | apply below_drew1 | refine below_set ?_ GE174.out | refine below_set ?_ GE194.out) | exact HB.out)) hb); clear HO178; clear BK174; clear BK194; clear HB; have HO178 := n0_; have BK174 := n1_; have BK194 := n2_; have HB := n3_; clear n0_ n1_ n2_ n3_; (try clear hb); (try clear hb2); (try clear hk); (try clear hi); obtain ⟨hcz67_0, hcz67_1, hcz67_2, hcz67_3, hcz67_4, hcz67_5, hcz67_6, hcz67_7, hcz67_8, hcz67_9, hcz67_10, hcz67_11, hcz67_12⟩ := cells13 BK174.out; obtain ⟨hfz67_0, hfz67_1, hfz67_2, hfz67_3, hfz67_4, hfz67_5, hfz67_6, hfz67_7, hfz67_8, hfz67_9, hfz67_10, hfz67_11, hfz67_12⟩ := froz13 BK174.out))
    refine bodyPost_ret (results_ct rfl _ _ gb174 35 #[.string (⟨#[]⟩ : ByteArray), .string (⟨#[]⟩ : ByteArray), .string (⟨#[]⟩ : ByteArray), .string (⟨#[]⟩ : ByteArray), .string (⟨#[]⟩ : ByteArray), .string (⟨#[]⟩ : ByteArray), .string (⟨#[]⟩ : ByteArray), .string (⟨#[]⟩ : ByteArray), .string (⟨#[]⟩ : ByteArray), .string (⟨#[]⟩ : ByteArray), .string (⟨#[]⟩ : ByteArray), .int .i64 0, .string (⟨#[]⟩ : ByteArray)] (0, 0) _ rfl (by (with_reducible repeat (first | refine blk_drewN ?_ _ | refine blk_drew ?_ | refine blk_alloc ?_ _)); refine fillR (cs := ?cs4_) rfl rfl ?h4_ ?l4_; (case h4_ => (with_reducible repeat (first | refine blk_drewN ?_ _ | refine blk_drew ?_ | refine blk_alloc ?_ _)); exact BK174.out); (case l4_ => rfl)) Tryd.underlying35 rfl (by kernel_rfl)) rfl ?_
    exact ⟨by first | rfl | (simp [errW_none, errW_some] <;> rfl) | (simp [*, errW_none, errW_some] <;> rfl), by repeat (first | (with_reducible first | exact HB.out | apply below_alloc | apply pw_below_drewN | apply below_drew1 | refine below_set ?_ GE174.out | refine below_set ?_ GE194.out) | exact HB.out)⟩
  ·replace c18 := Bool.eq_false_iff.mpr c18
   subst c18
   have H1 : (some ((⟨#[]⟩ : ByteArray), (⟨#[]⟩ : ByteArray), (⟨#[]⟩ : ByteArray), (⟨#[]⟩ : ByteArray), (⟨#[]⟩ : ByteArray), (⟨#[]⟩ : ByteArray), (⟨#[]⟩ : ByteArray), (⟨#[]⟩ : ByteArray), (⟨#[]⟩ : ByteArray), (⟨#[]⟩ : ByteArray), (⟨#[]⟩ : ByteArray), 0, (⟨#[]⟩ : ByteArray), 2)) = some (r1, r2, r3, r4, r5, r6, r7, r8, r9, r10, r11, r12, r13, r14) := by rw [if_neg (show ¬ (false = true) by decide)] at H; exact H
   clear H
   have H := H1
   clear H1
   simp only [Option.some.injEq, Prod.mk.injEq] at H
   obtain ⟨rfl, rfl, rfl, rfl, rfl, rfl, rfl, rfl, rfl, rfl, rfl, rfl, rfl, rfl⟩ := H
   have hnb87 := NB174_194.out
   have hnc87 := NB194_174.out
   obtain ⟨hcz88_0, hcz88_1, hcz88_2, hcz88_3, hcz88_4, hcz88_5, hcz88_6, hcz88_7, hcz88_8, hcz88_9, hcz88_10, hcz88_11, hcz88_12⟩ := cells13 BK174.out
   obtain ⟨hfz88_0, hfz88_1, hfz88_2, hfz88_3, hfz88_4, hfz88_5, hfz88_6, hfz88_7, hfz88_8, hfz88_9, hfz88_10, hfz88_11, hfz88_12⟩ := froz13 BK174.out
   try go_wp2
   refine bodyPost_ret (results_ct rfl _ _ gb174 35 #[.string (⟨#[]⟩ : ByteArray), .string (⟨#[]⟩ : ByteArray), .string (⟨#[]⟩ : ByteArray), .string (⟨#[]⟩ : ByteArray), .string (⟨#[]⟩ : ByteArray), .string (⟨#[]⟩ : ByteArray), .string (⟨#[]⟩ : ByteArray), .string (⟨#[]⟩ : ByteArray), .string (⟨#[]⟩ : ByteArray), .string (⟨#[]⟩ : ByteArray), .string (⟨#[]⟩ : ByteArray), .int .i64 0, .string (⟨#[]⟩ : ByteArray)] (0, 0) _ rfl (by (with_reducible repeat (first | refine blk_drewN ?_ _ | refine blk_drew ?_ | refine blk_alloc ?_ _)); refine blk_put (cs := #[.string (⟨#[]⟩ : ByteArray), .string (⟨#[]⟩ : ByteArray), .string (⟨#[]⟩ : ByteArray), .string (⟨#[]⟩ : ByteArray), .string (⟨#[]⟩ : ByteArray), .string (⟨#[]⟩ : ByteArray), .string (⟨#[]⟩ : ByteArray), .string (⟨#[]⟩ : ByteArray), .string (⟨#[]⟩ : ByteArray), .string (⟨#[]⟩ : ByteArray), .string (⟨#[]⟩ : ByteArray), .int .i64 0, .string (⟨#[]⟩ : ByteArray)]) ?_ 12 _ rfl; (with_reducible repeat (first | refine blk_drewN ?_ _ | refine blk_drew ?_ | refine blk_alloc ?_ _)); refine blk_put (cs := #[.string (⟨#[]⟩ : ByteArray), .string (⟨#[]⟩ : ByteArray), .string (⟨#[]⟩ : ByteArray), .string (⟨#[]⟩ : ByteArray), .string (⟨#[]⟩ : ByteArray), .string (⟨#[]⟩ : ByteArray), .string (⟨#[]⟩ : ByteArray), .string (⟨#[]⟩ : ByteArray), .string (⟨#[]⟩ : ByteArray), .string (⟨#[]⟩ : ByteArray), .string (⟨#[]⟩ : ByteArray), .int .i64 0, .string (⟨#[]⟩ : ByteArray)]) ?_ 11 _ rfl; (with_reducible repeat (first | refine blk_drewN ?_ _ | refine blk_drew ?_ | refine blk_alloc ?_ _)); refine blk_put (cs := #[.string (⟨#[]⟩ : ByteArray), .string (⟨#[]⟩ : ByteArray), .string (⟨#[]⟩ : ByteArray), .string (⟨#[]⟩ : ByteArray), .string (⟨#[]⟩ : ByteArray), .string (⟨#[]⟩ : ByteArray), .string (⟨#[]⟩ : ByteArray), .string (⟨#[]⟩ : ByteArray), .string (⟨#[]⟩ : ByteArray), .string (⟨#[]⟩ : ByteArray), .string (⟨#[]⟩ : ByteArray), .int .i64 0, .string (⟨#[]⟩ : ByteArray)]) ?_ 10 _ rfl; (with_reducible repeat (first | refine blk_drewN ?_ _ | refine blk_drew ?_ | refine blk_alloc ?_ _)); refine blk_put (cs := #[.string (⟨#[]⟩ : ByteArray), .string (⟨#[]⟩ : ByteArray), .string (⟨#[]⟩ : ByteArray), .string (⟨#[]⟩ : ByteArray), .string (⟨#[]⟩ : ByteArray), .string (⟨#[]⟩ : ByteArray), .string (⟨#[]⟩ : ByteArray), .string (⟨#[]⟩ : ByteArray), .string (⟨#[]⟩ : ByteArray), .string (⟨#[]⟩ : ByteArray), .string (⟨#[]⟩ : ByteArray), .int .i64 0, .string (⟨#[]⟩ : ByteArray)]) ?_ 9 _ rfl; (with_reducible repeat (first | refine blk_drewN ?_ _ | refine blk_drew ?_ | refine blk_alloc ?_ _)); refine blk_put (cs := #[.string (⟨#[]⟩ : ByteArray), .string (⟨#[]⟩ : ByteArray), .string (⟨#[]⟩ : ByteArray), .string (⟨#[]⟩ : ByteArray), .string (⟨#[]⟩ : ByteArray), .string (⟨#[]⟩ : ByteArray), .string (⟨#[]⟩ : ByteArray), .string (⟨#[]⟩ : ByteArray), .string (⟨#[]⟩ : ByteArray), .string (⟨#[]⟩ : ByteArray), .string (⟨#[]⟩ : ByteArray), .int .i64 0, .string (⟨#[]⟩ : ByteArray)]) ?_ 8 _ rfl; (with_reducible repeat (first | refine blk_drewN ?_ _ | refine blk_drew ?_ | refine blk_alloc ?_ _)); refine blk_put (cs := #[.string (⟨#[]⟩ : ByteArray), .string (⟨#[]⟩ : ByteArray), .string (⟨#[]⟩ : ByteArray), .string (⟨#[]⟩ : ByteArray), .string (⟨#[]⟩ : ByteArray), .string (⟨#[]⟩ : ByteArray), .string (⟨#[]⟩ : ByteArray), .string (⟨#[]⟩ : ByteArray), .string (⟨#[]⟩ : ByteArray), .string (⟨#[]⟩ : ByteArray), .string (⟨#[]⟩ : ByteArray), .int .i64 0, .string (⟨#[]⟩ : ByteArray)]) ?_ 7 _ rfl; (with_reducible repeat (first | refine blk_drewN ?_ _ | refine blk_drew ?_ | refine blk_alloc ?_ _)); refine blk_put (cs := #[.string (⟨#[]⟩ : ByteArray), .string (⟨#[]⟩ : ByteArray), .string (⟨#[]⟩ : ByteArray), .string (⟨#[]⟩ : ByteArray), .string (⟨#[]⟩ : ByteArray), .string (⟨#[]⟩ : ByteArray), .string (⟨#[]⟩ : ByteArray), .string (⟨#[]⟩ : ByteArray), .string (⟨#[]⟩ : ByteArray), .string (⟨#[]⟩ : ByteArray), .string (⟨#[]⟩ : ByteArray), .int .i64 0, .string (⟨#[]⟩ : ByteArray)]) ?_ 6 _ rfl; (with_reducible repeat (first | refine blk_drewN ?_ _ | refine blk_drew ?_ | refine blk_alloc ?_ _)); refine blk_put (cs := #[.string (⟨#[]⟩ : ByteArray), .string (⟨#[]⟩ : ByteArray), .string (⟨#[]⟩ : ByteArray), .string (⟨#[]⟩ : ByteArray), .string (⟨#[]⟩ : ByteArray), .string (⟨#[]⟩ : ByteArray), .string (⟨#[]⟩ : ByteArray), .string (⟨#[]⟩ : ByteArray), .string (⟨#[]⟩ : ByteArray), .string (⟨#[]⟩ : ByteArray), .string (⟨#[]⟩ : ByteArray), .int .i64 0, .string (⟨#[]⟩ : ByteArray)]) ?_ 5 _ rfl; (with_reducible repeat (first | refine blk_drewN ?_ _ | refine blk_drew ?_ | refine blk_alloc ?_ _)); refine blk_put (cs := #[.string (⟨#[]⟩ : ByteArray), .string (⟨#[]⟩ : ByteArray), .string (⟨#[]⟩ : ByteArray), .string (⟨#[]⟩ : ByteArray), .string (⟨#[]⟩ : ByteArray), .string (⟨#[]⟩ : ByteArray), .string (⟨#[]⟩ : ByteArray), .string (⟨#[]⟩ : ByteArray), .string (⟨#[]⟩ : ByteArray), .string (⟨#[]⟩ : ByteArray), .string (⟨#[]⟩ : ByteArray), .int .i64 0, .string (⟨#[]⟩ : ByteArray)]) ?_ 4 _ rfl; (with_reducible repeat (first | refine blk_drewN ?_ _ | refine blk_drew ?_ | refine blk_alloc ?_ _)); refine blk_put (cs := #[.string (⟨#[]⟩ : ByteArray), .string (⟨#[]⟩ : ByteArray), .string (⟨#[]⟩ : ByteArray), .string (⟨#[]⟩ : ByteArray), .string (⟨#[]⟩ : ByteArray), .string (⟨#[]⟩ : ByteArray), .string (⟨#[]⟩ : ByteArray), .string (⟨#[]⟩ : ByteArray), .string (⟨#[]⟩ : ByteArray), .string (⟨#[]⟩ : ByteArray), .string (⟨#[]⟩ : ByteArray), .int .i64 0, .string (⟨#[]⟩ : ByteArray)]) ?_ 3 _ rfl; (with_reducible repeat (first | refine blk_drewN ?_ _ | refine blk_drew ?_ | refine blk_alloc ?_ _)); refine blk_put (cs := #[.string (⟨#[]⟩ : ByteArray), .string (⟨#[]⟩ : ByteArray), .string (⟨#[]⟩ : ByteArray), .string (⟨#[]⟩ : ByteArray), .string (⟨#[]⟩ : ByteArray), .string (⟨#[]⟩ : ByteArray), .string (⟨#[]⟩ : ByteArray), .string (⟨#[]⟩ : ByteArray), .string (⟨#[]⟩ : ByteArray), .string (⟨#[]⟩ : ByteArray), .string (⟨#[]⟩ : ByteArray), .int .i64 0, .string (⟨#[]⟩ : ByteArray)]) ?_ 2 _ rfl; (with_reducible repeat (first | refine blk_drewN ?_ _ | refine blk_drew ?_ | refine blk_alloc ?_ _)); refine blk_put (cs := #[.string (⟨#[]⟩ : ByteArray), .string (⟨#[]⟩ : ByteArray), .string (⟨#[]⟩ : ByteArray), .string (⟨#[]⟩ : ByteArray), .string (⟨#[]⟩ : ByteArray), .string (⟨#[]⟩ : ByteArray), .string (⟨#[]⟩ : ByteArray), .string (⟨#[]⟩ : ByteArray), .string (⟨#[]⟩ : ByteArray), .string (⟨#[]⟩ : ByteArray), .string (⟨#[]⟩ : ByteArray), .int .i64 0, .string (⟨#[]⟩ : ByteArray)]) ?_ 1 _ rfl; (with_reducible repeat (first | refine blk_drewN ?_ _ | refine blk_drew ?_ | refine blk_alloc ?_ _)); refine blk_put (cs := #[.string (⟨#[]⟩ : ByteArray), .string (⟨#[]⟩ : ByteArray), .string (⟨#[]⟩ : ByteArray), .string (⟨#[]⟩ : ByteArray), .string (⟨#[]⟩ : ByteArray), .string (⟨#[]⟩ : ByteArray), .string (⟨#[]⟩ : ByteArray), .string (⟨#[]⟩ : ByteArray), .string (⟨#[]⟩ : ByteArray), .string (⟨#[]⟩ : ByteArray), .string (⟨#[]⟩ : ByteArray), .int .i64 0, .string (⟨#[]⟩ : ByteArray)]) ?_ 0 _ rfl; (with_reducible repeat (first | refine blk_drewN ?_ _ | refine blk_drew ?_ | refine blk_alloc ?_ _)); refine blk_far (blk_far (blk_far (blk_far (blk_far (blk_far (blk_far (blk_far (blk_far (blk_far (blk_far (blk_far (blk_far ?_ NB174_194.out _) NB174_194.out _) NB174_194.out _) NB174_194.out _) NB174_194.out _) NB174_194.out _) NB174_194.out _) NB174_194.out _) NB174_194.out _) NB174_194.out _) NB174_194.out _) NB174_194.out _) NB174_194.out _; (with_reducible repeat (first | refine blk_drewN ?_ _ | refine blk_drew ?_ | refine blk_alloc ?_ _)); exact BK174.out) Tryd.underlying35 rfl (by kernel_rfl)) rfl ?_
   exact ⟨by first | rfl | (simp [errW_none, errW_some] <;> rfl) | (simp [*, errW_none, errW_some] <;> rfl), by repeat (first | (with_reducible first | exact HB.out | apply below_alloc | apply pw_below_drewN | apply below_drew1 | refine below_set ?_ GE174.out | refine below_set ?_ GE194.out) | exact HB.out)⟩
 ·replace c3 := Bool.eq_false_iff.mpr c3
  subst c3
  have H1 : (some ((⟨#[]⟩ : ByteArray), (⟨#[]⟩ : ByteArray), (⟨#[]⟩ : ByteArray), (⟨#[]⟩ : ByteArray), (⟨#[]⟩ : ByteArray), (⟨#[]⟩ : ByteArray), (⟨#[]⟩ : ByteArray), (⟨#[]⟩ : ByteArray), (⟨#[]⟩ : ByteArray), (⟨#[]⟩ : ByteArray), (⟨#[]⟩ : ByteArray), 0, (⟨#[]⟩ : ByteArray), 2)) = some (r1, r2, r3, r4, r5, r6, r7, r8, r9, r10, r11, r12, r13, r14) := by rw [if_neg (show ¬ (false = true) by decide)] at H; exact H
  clear H
  have H := H1
  clear H1
  simp only [Option.some.injEq, Prod.mk.injEq] at H
  obtain ⟨rfl, rfl, rfl, rfl, rfl, rfl, rfl, rfl, rfl, rfl, rfl, rfl, rfl, rfl⟩ := H
  go_enter Tryd.func18, Tryd.ntmps18
  go_wp2_with (first | ((with_reducible refine gate_dst (N := 2) rfl ?_); refine box_event ?hg (N := 2) ?hd (cs := #[.string (⟨#[]⟩ : ByteArray), .string (⟨#[]⟩ : ByteArray), .string (⟨#[]⟩ : ByteArray), .string (⟨#[]⟩ : ByteArray), .string (⟨#[]⟩ : ByteArray), .string (⟨#[]⟩ : ByteArray), .string (⟨#[]⟩ : ByteArray), .string (⟨#[]⟩ : ByteArray), .string (⟨#[]⟩ : ByteArray), .string (⟨#[]⟩ : ByteArray), .string (⟨#[]⟩ : ByteArray), .int .i64 0, .string (⟨#[]⟩ : ByteArray)]) (t := 35) ?hr ?_; (case hd => rfl); (case hg => rfl); (case hr => first | (go_simp; done) | (go_simp; rfl)); intro gb174 hg w89 hbox hb; have n0_ := Aside0.mk (below_step (by repeat (first | (with_reducible first | exact HB.out | apply below_alloc | apply pw_below_drewN | apply below_drew1) | exact HB.out)) hb); have n1_ := Aside0.mk (hbox); have n2_ := Aside0.mk ((by rw [hg]; exact (below_size (by repeat (first | (with_reducible first | exact HB.out | apply below_alloc | apply pw_below_drewN | apply below_drew1) | exact HB.out))) : w.heap.size ≤ gb174)); have n3_ := Aside0.mk ((by rw [hg]; exact (below_size (by repeat (first | (with_reducible first | exact HB.out | apply below_alloc | apply pw_below_drewN | apply below_drew1) | exact HB.out))) : w.heap.size ≤ gb174)); clear HB; have HB := n0_; have BK174 := n1_; have GW174 := n2_; have GE174 := n3_; clear n0_ n1_ n2_ n3_; clear hb hbox hg) | ((with_reducible refine gate_callee (f := 33) rfl ?_); refine goesL_ (some 11) rfl rfl Tryd.func33 (by kernel_rfl) rfl #[.string a0, .int .i64 13] rfl (by (try simp only [List.map_toArray, List.map_cons, List.map_nil]); first | done | rfl | (simp only [List.length_drop, List.length_take]; rfl)) ?_; (with_reducible refine (row_fields.calls a0 13 t175 false _ A2.out).mono ?_); rintro e w90 ⟨v177, rfl, ho0, hb⟩; refine ⟨_, rfl, ?_⟩; have n0_ := Aside0.mk (Kd.R_lower ho0 (below_size (by repeat (first | (with_reducible first | exact HB.out | apply below_alloc | apply pw_below_drewN | apply below_drew1 | refine below_set ?_ GE174.out) | exact HB.out)))); have n1_ := Aside0.mk (blk_belowB BK174.out (by (with_reducible repeat (first | refine blk_drewN ?_ _ | refine blk_drew ?_ | refine blk_alloc ?_ _)); exact BK174.out) hb); have n2_ := Aside0.mk (below_step (by repeat (first | (with_reducible first | exact HB.out | apply below_alloc | apply pw_below_drewN | apply below_drew1 | refine below_set ?_ GE174.out) | exact HB.out)) hb); clear BK174; clear HB; have HO178 := n0_; have BK174 := n1_; have HB := n2_; clear n0_ n1_ n2_; (try clear hb); (try clear hb2); (try clear hk); (try clear hi); (try clear ho0); obtain ⟨hcz91_0, hcz91_1, hcz91_2, hcz91_3, hcz91_4, hcz91_5, hcz91_6, hcz91_7, hcz91_8, hcz91_9, hcz91_10, hcz91_11, hcz91_12⟩ := cells13 BK174.out; obtain ⟨hfz91_0, hfz91_1, hfz91_2, hfz91_3, hfz91_4, hfz91_5, hfz91_6, hfz91_7, hfz91_8, hfz91_9, hfz91_10, hfz91_11, hfz91_12⟩ := froz13 BK174.out))
  refine bodyPost_ret (results_ct rfl _ _ gb174 35 #[.string (⟨#[]⟩ : ByteArray), .string (⟨#[]⟩ : ByteArray), .string (⟨#[]⟩ : ByteArray), .string (⟨#[]⟩ : ByteArray), .string (⟨#[]⟩ : ByteArray), .string (⟨#[]⟩ : ByteArray), .string (⟨#[]⟩ : ByteArray), .string (⟨#[]⟩ : ByteArray), .string (⟨#[]⟩ : ByteArray), .string (⟨#[]⟩ : ByteArray), .string (⟨#[]⟩ : ByteArray), .int .i64 0, .string (⟨#[]⟩ : ByteArray)] (0, 0) _ rfl (by (with_reducible repeat (first | refine blk_drewN ?_ _ | refine blk_drew ?_ | refine blk_alloc ?_ _)); refine fillR (cs := ?cs5_) rfl rfl ?h5_ ?l5_; (case h5_ => (with_reducible repeat (first | refine blk_drewN ?_ _ | refine blk_drew ?_ | refine blk_alloc ?_ _)); exact BK174.out); (case l5_ => rfl)) Tryd.underlying35 rfl (by kernel_rfl)) rfl ?_
  exact ⟨by first | rfl | (simp [errW_none, errW_some] <;> rfl) | (simp [*, errW_none, errW_some] <;> rfl), by repeat (first | (with_reducible first | exact HB.out | apply below_alloc | apply pw_below_drewN | apply below_drew1 | refine below_set ?_ GE174.out) | exact HB.out)⟩

end Go.Proofs.YtkjheoilidpckaaDoor.X
