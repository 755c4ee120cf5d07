-- Lean text made by xprint.py (ours) out of the seat's translation. Lean checks it.
import Derived.Test.YtkjheoilidpckaaDoorX0
import Derived.Test.YtkjheoilidpckaaDoorX13
import Derived.Test.YtkjheoilidpckaaDoorHFamC
import Derived.Test.YtkjheoilidpckaaDoorHSlc
namespace Go.Proofs.YtkjheoilidpckaaDoor.X
open Go.RowKit Go.Proofs.YtkjheoilidpckaaDoorW.PrintWords Go.Proofs.YtkjheoilidpckaaDoorW.PrintLast Go.Proofs.YtkjheoilidpckaaDoorW.PrintMore
attribute [local go_sem] max2_int min2_int max_two min_two max_three min_three max_four min_four   -- for this text's walks alone
set_option linter.unusedVariables false
set_option linter.unusedSimpArgs false

/-! ### row_ReadFamily: function 24 -/
def row_ReadFamily.f (a0 : ByteArray) : Option (ByteArray × ByteArray × ByteArray × ByteArray × ByteArray × ByteArray × ByteArray × ByteArray × ByteArray × ByteArray × List ByteArray × Bool × Int) := (row_fields.f a0 11).bind fun bt291 => (if bt291.2 = true then (if 0 < (bt291.1.length : Int) then (if 1 < (bt291.1.length : Int) then (if 2 < (bt291.1.length : Int) then (if 3 < (bt291.1.length : Int) then (if 4 < (bt291.1.length : Int) then (if 5 < (bt291.1.length : Int) then (if 6 < (bt291.1.length : Int) then (if 7 < (bt291.1.length : Int) then (if 8 < (bt291.1.length : Int) then (if 9 < (bt291.1.length : Int) then (if 10 < (bt291.1.length : Int) then (if 11 ≤ (bt291.1.length : Int) then ((slices_Clone_string_string.f (bt291.1.drop 11)).bind fun t310 => ((slices_Clip_string_string.f t310).bind fun t313 => ((row_FamilyC.f (rdOf ByteArray.empty bt291.1 0) (rdOf ByteArray.empty bt291.1 1) (rdOf ByteArray.empty bt291.1 2) (rdOf ByteArray.empty bt291.1 3) (rdOf ByteArray.empty bt291.1 4) (rdOf ByteArray.empty bt291.1 5) (rdOf ByteArray.empty bt291.1 6) (rdOf ByteArray.empty bt291.1 7) (rdOf ByteArray.empty bt291.1 8) (rdOf ByteArray.empty bt291.1 9) t313 ((rdOf ByteArray.empty bt291.1 10).toList == ([49] : List UInt8))).bind fun t317 => (if t317.toList = a0.toList then (some (rdOf ByteArray.empty bt291.1 0, rdOf ByteArray.empty bt291.1 1, rdOf ByteArray.empty bt291.1 2, rdOf ByteArray.empty bt291.1 3, rdOf ByteArray.empty bt291.1 4, rdOf ByteArray.empty bt291.1 5, rdOf ByteArray.empty bt291.1 6, rdOf ByteArray.empty bt291.1 7, rdOf ByteArray.empty bt291.1 8, rdOf ByteArray.empty bt291.1 9, t313, ((rdOf ByteArray.empty bt291.1 10).toList == ([49] : List UInt8)), 0)) else (some ((⟨#[]⟩ : ByteArray), (⟨#[]⟩ : ByteArray), (⟨#[]⟩ : ByteArray), (⟨#[]⟩ : ByteArray), (⟨#[]⟩ : ByteArray), (⟨#[]⟩ : ByteArray), (⟨#[]⟩ : ByteArray), (⟨#[]⟩ : ByteArray), (⟨#[]⟩ : ByteArray), (⟨#[]⟩ : ByteArray), ([] : List ByteArray), false, 2)))))) else (none)) else (none)) else (none)) else (none)) else (none)) else (none)) else (none)) else (none)) else (none)) else (none)) else (none)) else (none)) else (some ((⟨#[]⟩ : ByteArray), (⟨#[]⟩ : ByteArray), (⟨#[]⟩ : ByteArray), (⟨#[]⟩ : ByteArray), (⟨#[]⟩ : ByteArray), (⟨#[]⟩ : ByteArray), (⟨#[]⟩ : ByteArray), (⟨#[]⟩ : ByteArray), (⟨#[]⟩ : ByteArray), (⟨#[]⟩ : ByteArray), ([] : List ByteArray), false, 2)))
def row_ReadFamily.T4 : Bool × List (List Nat × List Nat) := (true, [([], []), ([0], [0]), ([1], [1]), ([], []), ([3], [3]), ([4], [4]), ([], []), ([6], [6]), ([7], [7]), ([], []), ([9], [9]), ([10], [10]), ([], []), ([12], [12]), ([13], [13]), ([], []), ([15], [15]), ([16], [16]), ([], []), ([18], [18]), ([19], [19]), ([], []), ([21], [21]), ([22], [22]), ([], []), ([24], [24]), ([25], [25]), ([], []), ([27], [27]), ([28], [28]), ([], []), ([30], [30]), ([31], [31]), ([32], [32]), ([], []), ([34], [34]), ([35], [35]), ([36, 36], [36]), ([2, 5, 8, 11, 14, 17, 20, 23, 26, 29, 33, 37], [2, 5, 8, 11, 14, 17, 20, 23, 26, 29, 33, 37]), ([], []), ([39, 38, 37, 0, 1, 2, 3, 4, 5, 6, 7, 8, 9, 10, 11, 12, 13, 14, 15, 16, 17, 18, 19, 20, 21, 22, 23, 24, 25, 26, 27, 28, 29, 30, 31, 32, 33, 34, 35, 36, 37, 38, 39], [38, 39])])
def row_ReadFamily.B4 : List Nat := [0, 1, 3, 0, 8, 24, 0, 64, 192, 0, 512, 1536, 0, 4096, 12288, 0, 32768, 98304, 0, 262144, 786432, 0, 2097152, 6291456, 0, 16777216, 50331648, 0, 134217728, 402653184, 0, 1073741824, 3221225472, 7516192768, 0, 17179869184, 51539607552, 120259084288, 274877906943, 0, 1099511627775]
theorem row_ReadFamily.tab4 : rtab .any (opsOf Tryd.f24 4) = row_ReadFamily.T4 := by kernel_rfl
theorem row_ReadFamily.bits4 : waitsOk row_ReadFamily.T4.2 row_ReadFamily.B4 = true := by kernel_rfl
set_option maxHeartbeats 8000000 in
set_option maxRecDepth 100000 in
theorem row_ReadFamily.calls (a0 : ByteArray) (r1 : ByteArray) (r2 : ByteArray) (r3 : ByteArray) (r4 : ByteArray) (r5 : ByteArray) (r6 : ByteArray) (r7 : ByteArray) (r8 : ByteArray) (r9 : ByteArray) (r10 : ByteArray) (r11 : List ByteArray) (r12 : Bool) (r13 : Int) (w : World) (h : row_ReadFamily.f a0 = some (r1, r2, r3, r4, r5, r6, r7, r8, r9, r10, r11, r12, r13)) (hG : GOK w := by first | assumption | exact hG | exact GOK.drewN _ hG | exact GOK.below hG (by repeat (first | (with_reducible first | exact HB.out | apply below_alloc | apply pw_below_drewN | apply below_drew1 | refine below_set ?_ (Aside0.out (by assumption))) | exact HB.out))) :
  Calls Tryd.prog 24 #[.string a0] w fun e w' => ∃ v10_ : Value, e = .returned (.tuple #[.agg #[.string r1, .string r2, .string r3, .string r4, .string r5, .string r6, .string r7, .string r8, .string r9, .string r10, v10_, .bool r12], .int .i64 r13]) ∧ Kd.V Kd.string 9 w' w.heap.size (fun k_ => (w.heap.size ≤ k_)) v10_ r11 ∧ Below w.heap.size w w' := by
 have hu47 := Tryd.underlying47
 have HB := Aside0.mk (Below.refl w.heap.size w)
 have H := h
 unfold row_ReadFamily.f at H
 clear h
 replace H := Option.bind_eq_some_iff.mp H
 obtain ⟨⟨t291, t292⟩, A20, H⟩ := H
 replace H : (if t292 = true then (if 0 < (t291.length : Int) then (if 1 < (t291.length : Int) then (if 2 < (t291.length : Int) then (if 3 < (t291.length : Int) then (if 4 < (t291.length : Int) then (if 5 < (t291.length : Int) then (if 6 < (t291.length : Int) then (if 7 < (t291.length : Int) then (if 8 < (t291.length : Int) then (if 9 < (t291.length : Int) then (if 10 < (t291.length : Int) then (if 11 ≤ (t291.length : Int) then ((slices_Clone_string_string.f (t291.drop 11)).bind fun t310 => ((slices_Clip_string_string.f t310).bind fun t313 => ((row_FamilyC.f (rdOf ByteArray.empty t291 0) (rdOf ByteArray.empty t291 1) (rdOf ByteArray.empty t291 2) (rdOf ByteArray.empty t291 3) (rdOf ByteArray.empty t291 4) (rdOf ByteArray.empty t291 5) (rdOf ByteArray.empty t291 6) (rdOf ByteArray.empty t291 7) (rdOf ByteArray.empty t291 8) (rdOf ByteArray.empty t291 9) t313 ((rdOf ByteArray.empty t291 10).toList == ([49] : List UInt8))).bind fun t317 => (if t317.toList = a0.toList then (some (rdOf ByteArray.empty t291 0, rdOf ByteArray.empty t291 1, rdOf ByteArray.empty t291 2, rdOf ByteArray.empty t291 3, rdOf ByteArray.empty t291 4, rdOf ByteArray.empty t291 5, rdOf ByteArray.empty t291 6, rdOf ByteArray.empty t291 7, rdOf ByteArray.empty t291 8, rdOf ByteArray.empty t291 9, t313, ((rdOf ByteArray.empty t291 10).toList == ([49] : List UInt8)), 0)) else (some ((⟨#[]⟩ : ByteArray), (⟨#[]⟩ : ByteArray), (⟨#[]⟩ : ByteArray), (⟨#[]⟩ : ByteArray), (⟨#[]⟩ : ByteArray), (⟨#[]⟩ : ByteArray), (⟨#[]⟩ : ByteArray), (⟨#[]⟩ : ByteArray), (⟨#[]⟩ : ByteArray), (⟨#[]⟩ : ByteArray), ([] : List ByteArray), false, 2)))))) else (none)) else (none)) else (none)) else (none)) else (none)) else (none)) else (none)) else (none)) else (none)) else (none)) else (none)) else (none)) else (some ((⟨#[]⟩ : ByteArray), (⟨#[]⟩ : ByteArray), (⟨#[]⟩ : ByteArray), (⟨#[]⟩ : ByteArray), (⟨#[]⟩ : ByteArray), (⟨#[]⟩ : ByteArray), (⟨#[]⟩ : ByteArray), (⟨#[]⟩ : ByteArray), (⟨#[]⟩ : ByteArray), (⟨#[]⟩ : ByteArray), ([] : List ByteArray), false, 2))) = some (r1, r2, r3, r4, r5, r6, r7, r8, r9, r10, r11, r12, r13) := H
 have A2 := Aside0.mk A20
 clear A20
 by_cases c3 : t292 = true
 ·subst c3
  have H1 : (if 0 < (t291.length : Int) then (if 1 < (t291.length : Int) then (if 2 < (t291.length : Int) then (if 3 < (t291.length : Int) then (if 4 < (t291.length : Int) then (if 5 < (t291.length : Int) then (if 6 < (t291.length : Int) then (if 7 < (t291.length : Int) then (if 8 < (t291.length : Int) then (if 9 < (t291.length : Int) then (if 10 < (t291.length : Int) then (if 11 ≤ (t291.length : Int) then ((slices_Clone_string_string.f (t291.drop 11)).bind fun t310 => ((slices_Clip_string_string.f t310).bind fun t313 => ((row_FamilyC.f (rdOf ByteArray.empty t291 0) (rdOf ByteArray.empty t291 1) (rdOf ByteArray.empty t291 2) (rdOf ByteArray.empty t291 3) (rdOf ByteArray.empty t291 4) (rdOf ByteArray.empty t291 5) (rdOf ByteArray.empty t291 6) (rdOf ByteArray.empty t291 7) (rdOf ByteArray.empty t291 8) (rdOf ByteArray.empty t291 9) t313 ((rdOf ByteArray.empty t291 10).toList == ([49] : List UInt8))).bind fun t317 => (if t317.toList = a0.toList then (some (rdOf ByteArray.empty t291 0, rdOf ByteArray.empty t291 1, rdOf ByteArray.empty t291 2, rdOf ByteArray.empty t291 3, rdOf ByteArray.empty t291 4, rdOf ByteArray.empty t291 5, rdOf ByteArray.empty t291 6, rdOf ByteArray.empty t291 7, rdOf ByteArray.empty t291 8, rdOf ByteArray.empty t291 9, t313, ((rdOf ByteArray.empty t291 10).toList == ([49] : List UInt8)), 0)) else (some ((⟨#[]⟩ : ByteArray), (⟨#[]⟩ : ByteArray), (⟨#[]⟩ : ByteArray), (⟨#[]⟩ : ByteArray), (⟨#[]⟩ : ByteArray), (⟨#[]⟩ : ByteArray), (⟨#[]⟩ : ByteArray), (⟨#[]⟩ : ByteArray), (⟨#[]⟩ : ByteArray), (⟨#[]⟩ : ByteArray), ([] : List ByteArray), false, 2)))))) else (none)) else (none)) else (none)) else (none)) else (none)) else (none)) else (none)) else (none)) else (none)) else (none)) else (none)) else (none)) = some (r1, r2, r3, r4, r5, r6, r7, r8, r9, r10, r11, r12, r13) := by rw [if_pos rfl] at H; exact H
  clear H
  have H := H1
  clear H1
  by_cases c4 : 0 < (t291.length : Int)
  rotate_left
  ·rw [if_neg c4] at H; exact absurd H (by simp)
  rw [if_pos c4] at H
  have c4b0 : decide (0 < (t291.length : Int)) = true := decide_eq_true c4
  have c4b1 : decide (0 < t291.length) = true := decide_eq_true (by omega)
  clear c4
  by_cases c5 : 1 < (t291.length : Int)
  rotate_left
  ·rw [if_neg c5] at H; exact absurd H (by simp)
  rw [if_pos c5] at H
  have c5b0 : decide (1 < (t291.length : Int)) = true := decide_eq_true c5
  have c5b1 : decide (1 < t291.length) = true := decide_eq_true (by omega)
  clear c5
  by_cases c6 : 2 < (t291.length : Int)
  rotate_left
  ·rw [if_neg c6] at H; exact absurd H (by simp)
  rw [if_pos c6] at H
  have c6b0 : decide (2 < (t291.length : Int)) = true := decide_eq_true c6
  have c6b1 : decide (2 < t291.length) = true := decide_eq_true (by omega)
  clear c6
  by_cases c7 : 3 < (t291.length : Int)
  rotate_left
  ·rw [if_neg c7] at H; exact absurd H (by simp)
  rw [if_pos c7] at H
  have c7b0 : decide (3 < (t291.length : Int)) = true := decide_eq_true c7
  have c7b1 : decide (3 < t291.length) = true := decide_eq_true (by omega)
  clear c7
  by_cases c8 : 4 < (t291.length : Int)
  rotate_left
  ·rw [if_neg c8] at H; exact absurd H (by simp)
  rw [if_pos c8] at H
  have c8b0 : decide (4 < (t291.length : Int)) = true := decide_eq_true c8
  have c8b1 : decide (4 < t291.length) = true := decide_eq_true (by omega)
  clear c8
  by_cases c9 : 5 < (t291.length : Int)
  rotate_left
  ·rw [if_neg c9] at H; exact absurd H (by simp)
  rw [if_pos c9] at H
  have c9b0 : decide (5 < (t291.length : Int)) = true := decide_eq_true c9
  have c9b1 : decide (5 < t291.length) = true := decide_eq_true (by omega)
  clear c9
  by_cases c10 : 6 < (t291.length : Int)
  rotate_left
  ·rw [if_neg c10] at H; exact absurd H (by simp)
  rw [if_pos c10] at H
  have c10b0 : decide (6 < (t291.length : Int)) = true := decide_eq_true c10
  have c10b1 : decide (6 < t291.length) = true := decide_eq_true (by omega)
  clear c10
  by_cases c11 : 7 < (t291.length : Int)
  rotate_left
  ·rw [if_neg c11] at H; exact absurd H (by simp)
  rw [if_pos c11] at H
  have c11b0 : decide (7 < (t291.length : Int)) = true := decide_eq_true c11
  have c11b1 : decide (7 < t291.length) = true := decide_eq_true (by omega)
  clear c11
  by_cases c12 : 8 < (t291.length : Int)
  rotate_left
  ·rw [if_neg c12] at H; exact absurd H (by simp)
  rw [if_pos c12] at H
  have c12b0 : decide (8 < (t291.length : Int)) = true := decide_eq_true c12
  have c12b1 : decide (8 < t291.length) = true := decide_eq_true (by omega)
  clear c12
  by_cases c13 : 9 < (t291.length : Int)
  rotate_left
  ·rw [if_neg c13] at H; exact absurd H (by simp)
  rw [if_pos c13] at H
  have c13b0 : decide (9 < (t291.length : Int)) = true := decide_eq_true c13
  have c13b1 : decide (9 < t291.length) = true := decide_eq_true (by omega)
  clear c13
  by_cases c14 : 10 < (t291.length : Int)
  rotate_left
  ·rw [if_neg c14] at H; exact absurd H (by simp)
  rw [if_pos c14] at H
  have c14b0 : decide (10 < (t291.length : Int)) = true := decide_eq_true c14
  have c14b1 : decide (10 < t291.length) = true := decide_eq_true (by omega)
  clear c14
  by_cases c15 : 11 ≤ (t291.length : Int)
  rotate_left
  ·rw [if_neg c15] at H; exact absurd H (by simp)
  rw [if_pos c15] at H
  have c15b0 := eq_true c15
  have c15b1 : decide (11 ≤ (t291.length : Int)) = true := decide_eq_true c15
  clear c15
  obtain ⟨y306, hy306⟩ : ∃ y_ : List ByteArray, y_ = (t291.drop 11) := ⟨_, rfl⟩
  replace H : ((slices_Clone_string_string.f y306).bind fun t310 => ((slices_Clip_string_string.f t310).bind fun t313 => ((row_FamilyC.f (rdOf ByteArray.empty t291 0) (rdOf ByteArray.empty t291 1) (rdOf ByteArray.empty t291 2) (rdOf ByteArray.empty t291 3) (rdOf ByteArray.empty t291 4) (rdOf ByteArray.empty t291 5) (rdOf ByteArray.empty t291 6) (rdOf ByteArray.empty t291 7) (rdOf ByteArray.empty t291 8) (rdOf ByteArray.empty t291 9) t313 ((rdOf ByteArray.empty t291 10).toList == ([49] : List UInt8))).bind fun t317 => (if t317.toList = a0.toList then (some (rdOf ByteArray.empty t291 0, rdOf ByteArray.empty t291 1, rdOf ByteArray.empty t291 2, rdOf ByteArray.empty t291 3, rdOf ByteArray.empty t291 4, rdOf ByteArray.empty t291 5, rdOf ByteArray.empty t291 6, rdOf ByteArray.empty t291 7, rdOf ByteArray.empty t291 8, rdOf ByteArray.empty t291 9, t313, ((rdOf ByteArray.empty t291 10).toList == ([49] : List UInt8)), 0)) else (some ((⟨#[]⟩ : ByteArray), (⟨#[]⟩ : ByteArray), (⟨#[]⟩ : ByteArray), (⟨#[]⟩ : ByteArray), (⟨#[]⟩ : ByteArray), (⟨#[]⟩ : ByteArray), (⟨#[]⟩ : ByteArray), (⟨#[]⟩ : ByteArray), (⟨#[]⟩ : ByteArray), (⟨#[]⟩ : ByteArray), ([] : List ByteArray), false, 2)))))) = some (r1, r2, r3, r4, r5, r6, r7, r8, r9, r10, r11, r12, r13) := by first | (rw [hy306]; with_reducible exact H) | (have H2_ := (Option.bind_some _ _).symm.trans H; rw [hy306]; with_reducible exact H2_) | (have H2_ := (Option.bind_some _ _).symm.trans H; with_reducible exact H2_) | with_reducible exact H | (rw [hy306]; exact H) | exact H
  have Ny306 := Aside0.mk hy306
  clear hy306
  replace H := Option.bind_eq_some_iff.mp H
  obtain ⟨t310, A160, H⟩ := H
  replace H : ((slices_Clip_string_string.f t310).bind fun t313 => ((row_FamilyC.f (rdOf ByteArray.empty t291 0) (rdOf ByteArray.empty t291 1) (rdOf ByteArray.empty t291 2) (rdOf ByteArray.empty t291 3) (rdOf ByteArray.empty t291 4) (rdOf ByteArray.empty t291 5) (rdOf ByteArray.empty t291 6) (rdOf ByteArray.empty t291 7) (rdOf ByteArray.empty t291 8) (rdOf ByteArray.empty t291 9) t313 ((rdOf ByteArray.empty t291 10).toList == ([49] : List UInt8))).bind fun t317 => (if t317.toList = a0.toList then (some (rdOf ByteArray.empty t291 0, rdOf ByteArray.empty t291 1, rdOf ByteArray.empty t291 2, rdOf ByteArray.empty t291 3, rdOf ByteArray.empty t291 4, rdOf ByteArray.empty t291 5, rdOf ByteArray.empty t291 6, rdOf ByteArray.empty t291 7, rdOf ByteArray.empty t291 8, rdOf ByteArray.empty t291 9, t313, ((rdOf ByteArray.empty t291 10).toList == ([49] : List UInt8)), 0)) else (some ((⟨#[]⟩ : ByteArray), (⟨#[]⟩ : ByteArray), (⟨#[]⟩ : ByteArray), (⟨#[]⟩ : ByteArray), (⟨#[]⟩ : ByteArray), (⟨#[]⟩ : ByteArray), (⟨#[]⟩ : ByteArray), (⟨#[]⟩ : ByteArray), (⟨#[]⟩ : ByteArray), (⟨#[]⟩ : ByteArray), ([] : List ByteArray), false, 2))))) = some (r1, r2, r3, r4, r5, r6, r7, r8, r9, r10, r11, r12, r13) := H
  have A16 := Aside0.mk A160
  clear A160
  replace H := Option.bind_eq_some_iff.mp H
  obtain ⟨t313, A170, H⟩ := H
  replace H : ((row_FamilyC.f (rdOf ByteArray.empty t291 0) (rdOf ByteArray.empty t291 1) (rdOf ByteArray.empty t291 2) (rdOf ByteArray.empty t291 3) (rdOf ByteArray.empty t291 4) (rdOf ByteArray.empty t291 5) (rdOf ByteArray.empty t291 6) (rdOf ByteArray.empty t291 7) (rdOf ByteArray.empty t291 8) (rdOf ByteArray.empty t291 9) t313 ((rdOf ByteArray.empty t291 10).toList == ([49] : List UInt8))).bind fun t317 => (if t317.toList = a0.toList then (some (rdOf ByteArray.empty t291 0, rdOf ByteArray.empty t291 1, rdOf ByteArray.empty t291 2, rdOf ByteArray.empty t291 3, rdOf ByteArray.empty t291 4, rdOf ByteArray.empty t291 5, rdOf ByteArray.empty t291 6, rdOf ByteArray.empty t291 7, rdOf ByteArray.empty t291 8, rdOf ByteArray.empty t291 9, t313, ((rdOf ByteArray.empty t291 10).toList == ([49] : List UInt8)), 0)) else (some ((⟨#[]⟩ : ByteArray), (⟨#[]⟩ : ByteArray), (⟨#[]⟩ : ByteArray), (⟨#[]⟩ : ByteArray), (⟨#[]⟩ : ByteArray), (⟨#[]⟩ : ByteArray), (⟨#[]⟩ : ByteArray), (⟨#[]⟩ : ByteArray), (⟨#[]⟩ : ByteArray), (⟨#[]⟩ : ByteArray), ([] : List ByteArray), false, 2)))) = some (r1, r2, r3, r4, r5, r6, r7, r8, r9, r10, r11, r12, r13) := H
  have A17 := Aside0.mk A170
  clear A170
  replace H := Option.bind_eq_some_iff.mp H
  obtain ⟨t317, A180, H⟩ := H
  replace H : (if t317.toList = a0.toList then (some (rdOf ByteArray.empty t291 0, rdOf ByteArray.empty t291 1, rdOf ByteArray.empty t291 2, rdOf ByteArray.empty t291 3, rdOf ByteArray.empty t291 4, rdOf ByteArray.empty t291 5, rdOf ByteArray.empty t291 6, rdOf ByteArray.empty t291 7, rdOf ByteArray.empty t291 8, rdOf ByteArray.empty t291 9, t313, ((rdOf ByteArray.empty t291 10).toList == ([49] : List UInt8)), 0)) else (some ((⟨#[]⟩ : ByteArray), (⟨#[]⟩ : ByteArray), (⟨#[]⟩ : ByteArray), (⟨#[]⟩ : ByteArray), (⟨#[]⟩ : ByteArray), (⟨#[]⟩ : ByteArray), (⟨#[]⟩ : ByteArray), (⟨#[]⟩ : ByteArray), (⟨#[]⟩ : ByteArray), (⟨#[]⟩ : ByteArray), ([] : List ByteArray), false, 2))) = some (r1, r2, r3, r4, r5, r6, r7, r8, r9, r10, r11, r12, r13) := H
  have A18 := Aside0.mk A180
  clear A180
  have HH_ := Aside0.mk H
  clear H
  go_enter Tryd.func24, Tryd.ntmps24
  try go_wp2_with (first | ((with_reducible refine gate_dst (N := 2) rfl ?_); refine box_event ?hg (N := 2) ?hd (cs := #[.string (⟨#[]⟩ : ByteArray), .string (⟨#[]⟩ : ByteArray), .string (⟨#[]⟩ : ByteArray), .string (⟨#[]⟩ : ByteArray), .string (⟨#[]⟩ : ByteArray), .string (⟨#[]⟩ : ByteArray), .string (⟨#[]⟩ : ByteArray), .string (⟨#[]⟩ : ByteArray), .string (⟨#[]⟩ : ByteArray), .string (⟨#[]⟩ : ByteArray), .slice none 0 0, .bool false]) (t := 47) ?hr ?_; (case hd => rfl); (case hg => rfl); (case hr => first | (go_simp; done) | (go_simp; rfl)); intro gb290 hg w20 hbox hb; have n0_ := Aside0.mk (below_step (by repeat (first | (with_reducible first | exact HB.out | apply below_alloc | apply pw_below_drewN | apply below_drew1) | exact HB.out)) hb); have n1_ := Aside0.mk (hbox); have n2_ := Aside0.mk ((by rw [hg]; exact (below_size (by repeat (first | (with_reducible first | exact HB.out | apply below_alloc | apply pw_below_drewN | apply below_drew1) | exact HB.out))) : w.heap.size ≤ gb290)); have n3_ := Aside0.mk ((by rw [hg]; exact (below_size (by repeat (first | (with_reducible first | exact HB.out | apply below_alloc | apply pw_below_drewN | apply below_drew1) | exact HB.out))) : w.heap.size ≤ gb290)); clear HB; have HB := n0_; have BK290 := n1_; have GW290 := n2_; have GE290 := n3_; clear n0_ n1_ n2_ n3_; clear hb hbox hg) | ((with_reducible refine gate_callee (f := 33) rfl ?_); refine goesL_ (some 9) rfl rfl Tryd.func33 (by kernel_rfl) rfl #[.string a0, .int .i64 11] rfl (by (try simp only [List.map_toArray, List.map_cons, List.map_nil]); first | done | rfl | (simp only [List.length_drop, List.length_take]; rfl)) ?_; (with_reducible refine (row_fields.calls a0 11 t291 true _ A2.out).mono ?_); rintro e w21 ⟨v293, rfl, ho0, hb⟩; refine ⟨_, rfl, ?_⟩; have n0_ := Aside0.mk (Kd.R_lower (Kd.R_newM (M := fun k_ => (w.heap.size ≤ k_)) ho0 (below_size (by repeat (first | (with_reducible first | exact HB.out | apply below_alloc | apply pw_below_drewN | apply below_drew1 | refine below_set ?_ GE290.out) | exact HB.out))) (fun k_ h_ => h_)) (below_size (by repeat (first | (with_reducible first | exact HB.out | apply below_alloc | apply pw_below_drewN | apply below_drew1 | refine below_set ?_ GE290.out) | exact HB.out)))); have n1_ := Aside0.mk (blk_belowB BK290.out (by (with_reducible repeat (first | refine blk_drewN ?_ _ | refine blk_drew ?_ | refine blk_alloc ?_ _)); exact BK290.out) hb); have n2_ := Aside0.mk (below_step (by repeat (first | (with_reducible first | exact HB.out | apply below_alloc | apply pw_below_drewN | apply below_drew1 | refine below_set ?_ GE290.out) | exact HB.out)) hb); clear BK290; clear HB; have HO294 := n0_; have BK290 := n1_; have HB := n2_; clear n0_ n1_ n2_; (try clear hb); (try clear hb2); (try clear hk); (try clear hi); (try clear ho0)))
  have n0_ := Aside0.mk (Kd.R_drew HO294.out)
  have n1_ := Aside0.mk (blk_drew BK290.out)
  have n2_ := Aside0.mk (below_drew1 HB.out)
  clear HO294; clear BK290; clear HB
  have HO294 := n0_
  have BK290 := n1_
  have HB := n2_
  clear n0_ n1_ n2_
  obtain ⟨Ao23, co23, eo23⟩ := Kd.R_slice HO294.out
  (first | subst eo23 | (injection eo23 with f1_ f2_ f3_; have f4_ := f1_.symm; have f5_ := f3_.symm; clear f1_ f2_ f3_; subst f4_; subst f5_))
  have p295 : 0 ≤ (0 : Int) := (by omega)
  have q295 : 0 < (t291.length : Int) := of_decide_eq_true (by first | (with_reducible assumption) | assumption)
  obtain ⟨ad295, e295, hx295_0⟩ := Kd.at_string (Kd.R_reads' HO294.out).2.2 0 p295 q295
  cases e295
  have qi295 : (0 < t291.length) = True := eq_true (by omega)
  (try rw [show ((0 : Int)).toNat = 0 from rfl] at hx295_0)
  (try rw [Addr.add_zero'] at hx295_0)
  replace p295 := eq_true p295
  replace q295 := eq_true q295
  have p296 : 0 ≤ (1 : Int) := (by omega)
  have q296 : 1 < (t291.length : Int) := of_decide_eq_true (by first | (with_reducible assumption) | assumption)
  obtain ⟨ad296, e296, hx296_0⟩ := Kd.at_string (Kd.R_reads' HO294.out).2.2 1 p296 q296
  obtain rfl : ad295 = ad296 := (by injection e296)
  (try simp only [show (1 : Int).toNat = 1 from rfl, Nat.reduceMul, Nat.reduceEqDiff, Go.Addr.add, ↓reduceIte] at hx296_0)
  have qi296 : (1 < t291.length) = True := eq_true (by omega)
  (try rw [show ((1 : Int)).toNat = 1 from rfl] at hx296_0)
  replace p296 := eq_true p296
  replace q296 := eq_true q296
  have p297 : 0 ≤ (2 : Int) := (by omega)
  have q297 : 2 < (t291.length : Int) := of_decide_eq_true (by first | (with_reducible assumption) | assumption)
  obtain ⟨ad297, e297, hx297_0⟩ := Kd.at_string (Kd.R_reads' HO294.out).2.2 2 p297 q297
  obtain rfl : ad295 = ad297 := (by injection e297)
  (try simp only [show (2 : Int).toNat = 2 from rfl, Nat.reduceMul, Nat.reduceEqDiff, Go.Addr.add, ↓reduceIte] at hx297_0)
  have qi297 : (2 < t291.length) = True := eq_true (by omega)
  (try rw [show ((2 : Int)).toNat = 2 from rfl] at hx297_0)
  replace p297 := eq_true p297
  replace q297 := eq_true q297
  have p298 : 0 ≤ (3 : Int) := (by omega)
  have q298 : 3 < (t291.length : Int) := of_decide_eq_true (by first | (with_reducible assumption) | assumption)
  obtain ⟨ad298, e298, hx298_0⟩ := Kd.at_string (Kd.R_reads' HO294.out).2.2 3 p298 q298
  obtain rfl : ad295 = ad298 := (by injection e298)
  (try simp only [show (3 : Int).toNat = 3 from rfl, Nat.reduceMul, Nat.reduceEqDiff, Go.Addr.add, ↓reduceIte] at hx298_0)
  have qi298 : (3 < t291.length) = True := eq_true (by omega)
  (try rw [show ((3 : Int)).toNat = 3 from rfl] at hx298_0)
  replace p298 := eq_true p298
  replace q298 := eq_true q298
  have p299 : 0 ≤ (4 : Int) := (by omega)
  have q299 : 4 < (t291.length : Int) := of_decide_eq_true (by first | (with_reducible assumption) | assumption)
  obtain ⟨ad299, e299, hx299_0⟩ := Kd.at_string (Kd.R_reads' HO294.out).2.2 4 p299 q299
  obtain rfl : ad295 = ad299 := (by injection e299)
  (try simp only [show (4 : Int).toNat = 4 from rfl, Nat.reduceMul, Nat.reduceEqDiff, Go.Addr.add, ↓reduceIte] at hx299_0)
  have qi299 : (4 < t291.length) = True := eq_true (by omega)
  (try rw [show ((4 : Int)).toNat = 4 from rfl] at hx299_0)
  replace p299 := eq_true p299
  replace q299 := eq_true q299
  have p300 : 0 ≤ (5 : Int) := (by omega)
  have q300 : 5 < (t291.length : Int) := of_decide_eq_true (by first | (with_reducible assumption) | assumption)
  obtain ⟨ad300, e300, hx300_0⟩ := Kd.at_string (Kd.R_reads' HO294.out).2.2 5 p300 q300
  obtain rfl : ad295 = ad300 := (by injection e300)
  (try simp only [show (5 : Int).toNat = 5 from rfl, Nat.reduceMul, Nat.reduceEqDiff, Go.Addr.add, ↓reduceIte] at hx300_0)
  have qi300 : (5 < t291.length) = True := eq_true (by omega)
  (try rw [show ((5 : Int)).toNat = 5 from rfl] at hx300_0)
  replace p300 := eq_true p300
  replace q300 := eq_true q300
  have p301 : 0 ≤ (6 : Int) := (by omega)
  have q301 : 6 < (t291.length : Int) := of_decide_eq_true (by first | (with_reducible assumption) | assumption)
  obtain ⟨ad301, e301, hx301_0⟩ := Kd.at_string (Kd.R_reads' HO294.out).2.2 6 p301 q301
  obtain rfl : ad295 = ad301 := (by injection e301)
  (try simp only [show (6 : Int).toNat = 6 from rfl, Nat.reduceMul, Nat.reduceEqDiff, Go.Addr.add, ↓reduceIte] at hx301_0)
  have qi301 : (6 < t291.length) = True := eq_true (by omega)
  (try rw [show ((6 : Int)).toNat = 6 from rfl] at hx301_0)
  replace p301 := eq_true p301
  replace q301 := eq_true q301
  have p302 : 0 ≤ (7 : Int) := (by omega)
  have q302 : 7 < (t291.length : Int) := of_decide_eq_true (by first | (with_reducible assumption) | assumption)
  obtain ⟨ad302, e302, hx302_0⟩ := Kd.at_string (Kd.R_reads' HO294.out).2.2 7 p302 q302
  obtain rfl : ad295 = ad302 := (by injection e302)
  (try simp only [show (7 : Int).toNat = 7 from rfl, Nat.reduceMul, Nat.reduceEqDiff, Go.Addr.add, ↓reduceIte] at hx302_0)
  have qi302 : (7 < t291.length) = True := eq_true (by omega)
  (try rw [show ((7 : Int)).toNat = 7 from rfl] at hx302_0)
  replace p302 := eq_true p302
  replace q302 := eq_true q302
  have p303 : 0 ≤ (8 : Int) := (by omega)
  have q303 : 8 < (t291.length : Int) := of_decide_eq_true (by first | (with_reducible assumption) | assumption)
  obtain ⟨ad303, e303, hx303_0⟩ := Kd.at_string (Kd.R_reads' HO294.out).2.2 8 p303 q303
  obtain rfl : ad295 = ad303 := (by injection e303)
  (try simp only [show (8 : Int).toNat = 8 from rfl, Nat.reduceMul, Nat.reduceEqDiff, Go.Addr.add, ↓reduceIte] at hx303_0)
  have qi303 : (8 < t291.length) = True := eq_true (by omega)
  (try rw [show ((8 : Int)).toNat = 8 from rfl] at hx303_0)
  replace p303 := eq_true p303
  replace q303 := eq_true q303
  have p304 : 0 ≤ (9 : Int) := (by omega)
  have q304 : 9 < (t291.length : Int) := of_decide_eq_true (by first | (with_reducible assumption) | assumption)
  obtain ⟨ad304, e304, hx304_0⟩ := Kd.at_string (Kd.R_reads' HO294.out).2.2 9 p304 q304
  obtain rfl : ad295 = ad304 := (by injection e304)
  (try simp only [show (9 : Int).toNat = 9 from rfl, Nat.reduceMul, Nat.reduceEqDiff, Go.Addr.add, ↓reduceIte] at hx304_0)
  have qi304 : (9 < t291.length) = True := eq_true (by omega)
  (try rw [show ((9 : Int)).toNat = 9 from rfl] at hx304_0)
  replace p304 := eq_true p304
  replace q304 := eq_true q304
  have p305 : 0 ≤ (10 : Int) := (by omega)
  have q305 : 10 < (t291.length : Int) := of_decide_eq_true (by first | (with_reducible assumption) | assumption)
  obtain ⟨ad305, e305, hx305_0⟩ := Kd.at_string (Kd.R_reads' HO294.out).2.2 10 p305 q305
  obtain rfl : ad295 = ad305 := (by injection e305)
  (try simp only [show (10 : Int).toNat = 10 from rfl, Nat.reduceMul, Nat.reduceEqDiff, Go.Addr.add, ↓reduceIte] at hx305_0)
  have qi305 : (10 < t291.length) = True := eq_true (by omega)
  (try rw [show ((10 : Int)).toNat = 10 from rfl] at hx305_0)
  replace p305 := eq_true p305
  replace q305 := eq_true q305
  have q24 : (11 : Int) ≤ ((t291.length : Int) : Int) := of_decide_eq_true (by first | (with_reducible assumption) | assumption)
  obtain ⟨i024, hi024, _, hsz24, _⟩ := info_parts info9
  have hroom24 : t291.length ≤ co23 := (Kd.R_reads' HO294.out).2.1
  have hC24 : Kd.C Kd.string _ (some ad295) t291.length t291 := (Kd.R_reads' HO294.out).2.2
  have hcut24 := cut_from (P := Tryd.prog) 22 9 .i64 Tryd.underlying22 hi024 1 hsz24 (some ad295) t291.length co23 11 (by omega) q24
  have hr24 := Kd.C_drop (m := (11 : Int).toNat) (c := co23) hC24 (by omega) hroom24
  obtain ⟨A24, hA24⟩ : ∃ A1, A1 = (if co23 = (11 : Int).toNat then (some ad295) else ((some ad295) : Option Addr).map (·.add ((11 : Int).toNat * 1))) := ⟨_, rfl⟩
  obtain ⟨c24, hc24⟩ : ∃ c1, c1 = co23 - (11 : Int).toNat := ⟨_, rfl⟩
  have hy24 : y306.length = t291.length - (11 : Int).toNat := (by rw [Ny306.out, List.length_drop] <;> omega)
  rw [show (t291).drop (11 : Int).toNat = y306 from Ny306.out.symm] at hr24
  replace hr24 : Kd.C Kd.string _ A24 y306.length y306 := (by rw [hA24]; exact hr24)
  rw [← hy24, ← hA24, ← hc24] at hcut24
  have HR309 := Aside0.mk hr24
  have HC309 := Aside0.mk (show y306.length ≤ c24 from by rw [hy24, hc24]; exact Nat.sub_le_sub_right hroom24 _)
  clear hr24 hC24 hroom24 hi024 hsz24 hc24
  have KY24 := Aside0.mk hy24
  have KA24 := Aside0.mk hA24
  clear hy24 hA24
  have KL24 := Aside0.mk (show 11 ≤ t291.length from by omega)
  replace q24 := eq_true q24
  refine start_ (n := 41) (S := fun w' => w'.cell? ad295 = some (.string (rdOf ByteArray.empty t291 0)) ∧ w'.cell? ⟨ad295.block, ad295.off + 1, none⟩ = some (.string (rdOf ByteArray.empty t291 1)) ∧ w'.cell? ⟨ad295.block, ad295.off + 2, none⟩ = some (.string (rdOf ByteArray.empty t291 2)) ∧ w'.cell? ⟨ad295.block, ad295.off + 3, none⟩ = some (.string (rdOf ByteArray.empty t291 3)) ∧ w'.cell? ⟨ad295.block, ad295.off + 4, none⟩ = some (.string (rdOf ByteArray.empty t291 4)) ∧ w'.cell? ⟨ad295.block, ad295.off + 5, none⟩ = some (.string (rdOf ByteArray.empty t291 5)) ∧ w'.cell? ⟨ad295.block, ad295.off + 6, none⟩ = some (.string (rdOf ByteArray.empty t291 6)) ∧ w'.cell? ⟨ad295.block, ad295.off + 7, none⟩ = some (.string (rdOf ByteArray.empty t291 7)) ∧ w'.cell? ⟨ad295.block, ad295.off + 8, none⟩ = some (.string (rdOf ByteArray.empty t291 8)) ∧ w'.cell? ⟨ad295.block, ad295.off + 9, none⟩ = some (.string (rdOf ByteArray.empty t291 9)) ∧ w'.cell? ⟨ad295.block, ad295.off + 10, none⟩ = some (.string (rdOf ByteArray.empty t291 10))) (ds := []) #[false, false, false, false, false, false, false, false, false, false, false, false, false, false, false, false, false, false, false, false, false, false, false, false, false, false, false, false, false, false, false, false, false, false, false, false, false, false, false, false, false] (by kernel_rfl) rfl rfl ⟨hx295_0, hx296_0, hx297_0, hx298_0, hx299_0, hx300_0, hx301_0, hx302_0, hx303_0, hx304_0, hx305_0⟩ (fun hHeld => ?_); refine with_tabW row_ReadFamily.tab4 row_ReadFamily.bits4 (fun HT_ HW_ => ?_)
  generalize w21.drew = w22 at HO294 BK290 HB HR309 hx295_0 hx296_0 hx297_0 hx298_0 hx299_0 hx300_0 hx301_0 hx302_0 hx303_0 hx304_0 hx305_0 hHeld ⊢
  refine pure_ (i := 0) (N := some 15) (v := ?_) (a' := ?_) #[true, false, false, false, false, false, false, false, false, false, false, false, false, false, false, false, false, false, false, false, false, false, false, false, false, false, false, false, false, false, false, false, false, false, false, false, false, false, false, false, false] rfl rfl (any_of HT_.out (by kernel_rfl)) (fun _ _ _ h => h) (Or.inl ⟨by rfl, ?_⟩) ?_ ?_
  rotate_left
  ·intro w'
   go_simp
   with_reducible rfl
  rotate_left
  ·simp only [Act.put, List.setIfInBounds_toArray, List.set_cons_zero, List.set_cons_succ, i64_w, i32_w]
   rfl
  refine pure_ (i := 1) (N := some 16) (v := ?_) (a' := ?_) #[true, true, false, false, false, false, false, false, false, false, false, false, false, false, false, false, false, false, false, false, false, false, false, false, false, false, false, false, false, false, false, false, false, false, false, false, false, false, false, false, false] rfl rfl (any_of HT_.out (by kernel_rfl)) (fun _ _ _ h => h) (Or.inl ⟨by rfl, ?_⟩) ?_ ?_
  rotate_left
  ·intro w'
   go_simp
   with_reducible rfl
  rotate_left
  ·simp only [Act.put, List.setIfInBounds_toArray, List.set_cons_zero, List.set_cons_succ, i64_w, i32_w]
   rfl
  refine pure_ (i := 3) (N := some 18) (v := ?_) (a' := ?_) #[true, true, false, true, false, false, false, false, false, false, false, false, false, false, false, false, false, false, false, false, false, false, false, false, false, false, false, false, false, false, false, false, false, false, false, false, false, false, false, false, false] rfl rfl (any_of HT_.out (by kernel_rfl)) (fun _ _ _ h => h) (Or.inl ⟨by rfl, ?_⟩) ?_ ?_
  rotate_left
  ·intro w'
   go_simp
   with_reducible rfl
  rotate_left
  ·simp only [Act.put, List.setIfInBounds_toArray, List.set_cons_zero, List.set_cons_succ, i64_w, i32_w]
   rfl
  refine pure_ (i := 4) (N := some 19) (v := ?_) (a' := ?_) #[true, true, false, true, true, false, false, false, false, false, false, false, false, false, false, false, false, false, false, false, false, false, false, false, false, false, false, false, false, false, false, false, false, false, false, false, false, false, false, false, false] rfl rfl (any_of HT_.out (by kernel_rfl)) (fun _ _ _ h => h) (Or.inl ⟨by rfl, ?_⟩) ?_ ?_
  rotate_left
  ·intro w'
   go_simp
   with_reducible rfl
  rotate_left
  ·simp only [Act.put, List.setIfInBounds_toArray, List.set_cons_zero, List.set_cons_succ, i64_w, i32_w]
   rfl
  refine pure_ (i := 6) (N := some 21) (v := ?_) (a' := ?_) #[true, true, false, true, true, false, true, false, false, false, false, false, false, false, false, false, false, false, false, false, false, false, false, false, false, false, false, false, false, false, false, false, false, false, false, false, false, false, false, false, false] rfl rfl (any_of HT_.out (by kernel_rfl)) (fun _ _ _ h => h) (Or.inl ⟨by rfl, ?_⟩) ?_ ?_
  rotate_left
  ·intro w'
   go_simp
   with_reducible rfl
  rotate_left
  ·simp only [Act.put, List.setIfInBounds_toArray, List.set_cons_zero, List.set_cons_succ, i64_w, i32_w]
   rfl
  refine pure_ (i := 7) (N := some 22) (v := ?_) (a' := ?_) #[true, true, false, true, true, false, true, true, false, false, false, false, false, false, false, false, false, false, false, false, false, false, false, false, false, false, false, false, false, false, false, false, false, false, false, false, false, false, false, false, false] rfl rfl (any_of HT_.out (by kernel_rfl)) (fun _ _ _ h => h) (Or.inl ⟨by rfl, ?_⟩) ?_ ?_
  rotate_left
  ·intro w'
   go_simp
   with_reducible rfl
  rotate_left
  ·simp only [Act.put, List.setIfInBounds_toArray, List.set_cons_zero, List.set_cons_succ, i64_w, i32_w]
   rfl
  refine pure_ (i := 9) (N := some 24) (v := ?_) (a' := ?_) #[true, true, false, true, true, false, true, true, false, true, false, false, false, false, false, false, false, false, false, false, false, false, false, false, false, false, false, false, false, false, false, false, false, false, false, false, false, false, false, false, false] rfl rfl (any_of HT_.out (by kernel_rfl)) (fun _ _ _ h => h) (Or.inl ⟨by rfl, ?_⟩) ?_ ?_
  rotate_left
  ·intro w'
   go_simp
   with_reducible rfl
  rotate_left
  ·simp only [Act.put, List.setIfInBounds_toArray, List.set_cons_zero, List.set_cons_succ, i64_w, i32_w]
   rfl
  refine pure_ (i := 10) (N := some 25) (v := ?_) (a' := ?_) #[true, true, false, true, true, false, true, true, false, true, true, false, false, false, false, false, false, false, false, false, false, false, false, false, false, false, false, false, false, false, false, false, false, false, false, false, false, false, false, false, false] rfl rfl (any_of HT_.out (by kernel_rfl)) (fun _ _ _ h => h) (Or.inl ⟨by rfl, ?_⟩) ?_ ?_
  rotate_left
  ·intro w'
   go_simp
   with_reducible rfl
  rotate_left
  ·simp only [Act.put, List.setIfInBounds_toArray, List.set_cons_zero, List.set_cons_succ, i64_w, i32_w]
   rfl
  refine pure_ (i := 12) (N := some 27) (v := ?_) (a' := ?_) #[true, true, false, true, true, false, true, true, false, true, true, false, true, false, false, false, false, false, false, false, false, false, false, false, false, false, false, false, false, false, false, false, false, false, false, false, false, false, false, false, false] rfl rfl (any_of HT_.out (by kernel_rfl)) (fun _ _ _ h => h) (Or.inl ⟨by rfl, ?_⟩) ?_ ?_
  rotate_left
  ·intro w'
   go_simp
   with_reducible rfl
  rotate_left
  ·simp only [Act.put, List.setIfInBounds_toArray, List.set_cons_zero, List.set_cons_succ, i64_w, i32_w]
   rfl
  refine pure_ (i := 13) (N := some 28) (v := ?_) (a' := ?_) #[true, true, false, true, true, false, true, true, false, true, true, false, true, true, false, false, false, false, false, false, false, false, false, false, false, false, false, false, false, false, false, false, false, false, false, false, false, false, false, false, false] rfl rfl (any_of HT_.out (by kernel_rfl)) (fun _ _ _ h => h) (Or.inl ⟨by rfl, ?_⟩) ?_ ?_
  rotate_left
  ·intro w'
   go_simp
   with_reducible rfl
  rotate_left
  ·simp only [Act.put, List.setIfInBounds_toArray, List.set_cons_zero, List.set_cons_succ, i64_w, i32_w]
   rfl
  refine pure_ (i := 15) (N := some 30) (v := ?_) (a' := ?_) #[true, true, false, true, true, false, true, true, false, true, true, false, true, true, false, true, false, false, false, false, false, false, false, false, false, false, false, false, false, false, false, false, false, false, false, false, false, false, false, false, false] rfl rfl (any_of HT_.out (by kernel_rfl)) (fun _ _ _ h => h) (Or.inl ⟨by rfl, ?_⟩) ?_ ?_
  rotate_left
  ·intro w'
   go_simp
   with_reducible rfl
  rotate_left
  ·simp only [Act.put, List.setIfInBounds_toArray, List.set_cons_zero, List.set_cons_succ, i64_w, i32_w]
   rfl
  refine pure_ (i := 16) (N := some 31) (v := ?_) (a' := ?_) #[true, true, false, true, true, false, true, true, false, true, true, false, true, true, false, true, true, false, false, false, false, false, false, false, false, false, false, false, false, false, false, false, false, false, false, false, false, false, false, false, false] rfl rfl (any_of HT_.out (by kernel_rfl)) (fun _ _ _ h => h) (Or.inl ⟨by rfl, ?_⟩) ?_ ?_
  rotate_left
  ·intro w'
   go_simp
   with_reducible rfl
  rotate_left
  ·simp only [Act.put, List.setIfInBounds_toArray, List.set_cons_zero, List.set_cons_succ, i64_w, i32_w]
   rfl
  refine pure_ (i := 18) (N := some 33) (v := ?_) (a' := ?_) #[true, true, false, true, true, false, true, true, false, true, true, false, true, true, false, true, true, false, true, false, false, false, false, false, false, false, false, false, false, false, false, false, false, false, false, false, false, false, false, false, false] rfl rfl (any_of HT_.out (by kernel_rfl)) (fun _ _ _ h => h) (Or.inl ⟨by rfl, ?_⟩) ?_ ?_
  rotate_left
  ·intro w'
   go_simp
   with_reducible rfl
  rotate_left
  ·simp only [Act.put, List.setIfInBounds_toArray, List.set_cons_zero, List.set_cons_succ, i64_w, i32_w]
   rfl
  refine pure_ (i := 19) (N := some 34) (v := ?_) (a' := ?_) #[true, true, false, true, true, false, true, true, false, true, true, false, true, true, false, true, true, false, true, true, false, false, false, false, false, false, false, false, false, false, false, false, false, false, false, false, false, false, false, false, false] rfl rfl (any_of HT_.out (by kernel_rfl)) (fun _ _ _ h => h) (Or.inl ⟨by rfl, ?_⟩) ?_ ?_
  rotate_left
  ·intro w'
   go_simp
   with_reducible rfl
  rotate_left
  ·simp only [Act.put, List.setIfInBounds_toArray, List.set_cons_zero, List.set_cons_succ, i64_w, i32_w]
   rfl
  refine pure_ (i := 21) (N := some 36) (v := ?_) (a' := ?_) #[true, true, false, true, true, false, true, true, false, true, true, false, true, true, false, true, true, false, true, true, false, true, false, false, false, false, false, false, false, false, false, false, false, false, false, false, false, false, false, false, false] rfl rfl (any_of HT_.out (by kernel_rfl)) (fun _ _ _ h => h) (Or.inl ⟨by rfl, ?_⟩) ?_ ?_
  rotate_left
  ·intro w'
   go_simp
   with_reducible rfl
  rotate_left
  ·simp only [Act.put, List.setIfInBounds_toArray, List.set_cons_zero, List.set_cons_succ, i64_w, i32_w]
   rfl
  refine pure_ (i := 22) (N := some 37) (v := ?_) (a' := ?_) #[true, true, false, true, true, false, true, true, false, true, true, false, true, true, false, true, true, false, true, true, false, true, true, false, false, false, false, false, false, false, false, false, false, false, false, false, false, false, false, false, false] rfl rfl (any_of HT_.out (by kernel_rfl)) (fun _ _ _ h => h) (Or.inl ⟨by rfl, ?_⟩) ?_ ?_
  rotate_left
  ·intro w'
   go_simp
   with_reducible rfl
  rotate_left
  ·simp only [Act.put, List.setIfInBounds_toArray, List.set_cons_zero, List.set_cons_succ, i64_w, i32_w]
   rfl
  refine pure_ (i := 24) (N := some 39) (v := ?_) (a' := ?_) #[true, true, false, true, true, false, true, true, false, true, true, false, true, true, false, true, true, false, true, true, false, true, true, false, true, false, false, false, false, false, false, false, false, false, false, false, false, false, false, false, false] rfl rfl (any_of HT_.out (by kernel_rfl)) (fun _ _ _ h => h) (Or.inl ⟨by rfl, ?_⟩) ?_ ?_
  rotate_left
  ·intro w'
   go_simp
   with_reducible rfl
  rotate_left
  ·simp only [Act.put, List.setIfInBounds_toArray, List.set_cons_zero, List.set_cons_succ, i64_w, i32_w]
   rfl
  refine pure_ (i := 25) (N := some 40) (v := ?_) (a' := ?_) #[true, true, false, true, true, false, true, true, false, true, true, false, true, true, false, true, true, false, true, true, false, true, true, false, true, true, false, false, false, false, false, false, false, false, false, false, false, false, false, false, false] rfl rfl (any_of HT_.out (by kernel_rfl)) (fun _ _ _ h => h) (Or.inl ⟨by rfl, ?_⟩) ?_ ?_
  rotate_left
  ·intro w'
   go_simp
   with_reducible rfl
  rotate_left
  ·simp only [Act.put, List.setIfInBounds_toArray, List.set_cons_zero, List.set_cons_succ, i64_w, i32_w]
   rfl
  refine pure_ (i := 27) (N := some 42) (v := ?_) (a' := ?_) #[true, true, false, true, true, false, true, true, false, true, true, false, true, true, false, true, true, false, true, true, false, true, true, false, true, true, false, true, false, false, false, false, false, false, false, false, false, false, false, false, false] rfl rfl (any_of HT_.out (by kernel_rfl)) (fun _ _ _ h => h) (Or.inl ⟨by rfl, ?_⟩) ?_ ?_
  rotate_left
  ·intro w'
   go_simp
   with_reducible rfl
  rotate_left
  ·simp only [Act.put, List.setIfInBounds_toArray, List.set_cons_zero, List.set_cons_succ, i64_w, i32_w]
   rfl
  refine pure_ (i := 28) (N := some 43) (v := ?_) (a' := ?_) #[true, true, false, true, true, false, true, true, false, true, true, false, true, true, false, true, true, false, true, true, false, true, true, false, true, true, false, true, true, false, false, false, false, false, false, false, false, false, false, false, false] rfl rfl (any_of HT_.out (by kernel_rfl)) (fun _ _ _ h => h) (Or.inl ⟨by rfl, ?_⟩) ?_ ?_
  rotate_left
  ·intro w'
   go_simp
   with_reducible rfl
  rotate_left
  ·simp only [Act.put, List.setIfInBounds_toArray, List.set_cons_zero, List.set_cons_succ, i64_w, i32_w]
   rfl
  refine pure_ (i := 30) (N := some 45) (v := ?_) (a' := ?_) #[true, true, false, true, true, false, true, true, false, true, true, false, true, true, false, true, true, false, true, true, false, true, true, false, true, true, false, true, true, false, true, false, false, false, false, false, false, false, false, false, false] rfl rfl (any_of HT_.out (by kernel_rfl)) (fun _ _ _ h => h) (Or.inl ⟨by rfl, ?_⟩) ?_ ?_
  rotate_left
  ·intro w'
   go_simp
   with_reducible rfl
  rotate_left
  ·simp only [Act.put, List.setIfInBounds_toArray, List.set_cons_zero, List.set_cons_succ, i64_w, i32_w]
   rfl
  refine pure_ (i := 31) (N := some 46) (v := ?_) (a' := ?_) #[true, true, false, true, true, false, true, true, false, true, true, false, true, true, false, true, true, false, true, true, false, true, true, false, true, true, false, true, true, false, true, true, false, false, false, false, false, false, false, false, false] rfl rfl (any_of HT_.out (by kernel_rfl)) (fun _ _ _ h => h) (Or.inl ⟨by rfl, ?_⟩) ?_ ?_
  rotate_left
  ·intro w'
   go_simp
   with_reducible rfl
  rotate_left
  ·simp only [Act.put, List.setIfInBounds_toArray, List.set_cons_zero, List.set_cons_succ, i64_w, i32_w]
   rfl
  refine pure_ (i := 34) (N := some 49) (v := ?_) (a' := ?_) #[true, true, false, true, true, false, true, true, false, true, true, false, true, true, false, true, true, false, true, true, false, true, true, false, true, true, false, true, true, false, true, true, false, false, true, false, false, false, false, false, false] rfl rfl (any_of HT_.out (by kernel_rfl)) (fun _ _ _ h => h) (Or.inl ⟨by rfl, ?_⟩) ?_ ?_
  rotate_left
  ·intro w'
   go_simp
   with_reducible rfl
  rotate_left
  ·simp only [Act.put, List.setIfInBounds_toArray, List.set_cons_zero, List.set_cons_succ, i64_w, i32_w]
   rfl
  refine pure_ (i := 35) (N := some 50) (v := ?_) (a' := ?_) #[true, true, false, true, true, false, true, true, false, true, true, false, true, true, false, true, true, false, true, true, false, true, true, false, true, true, false, true, true, false, true, true, false, false, true, true, false, false, false, false, false] rfl rfl (any_of HT_.out (by kernel_rfl)) (fun _ _ _ h => h) (Or.inl ⟨by rfl, ?_⟩) ?_ ?_
  rotate_left
  ·intro w'
   go_simp
   with_reducible rfl
  rotate_left
  ·simp only [Act.put, List.setIfInBounds_toArray, List.set_cons_zero, List.set_cons_succ, i64_w, i32_w]
   rfl
  refine take_ (i := 2) (N := some 17) (v := ?_) (a' := ?_) #[true, true, true, true, true, false, true, true, false, true, true, false, true, true, false, true, true, false, true, true, false, true, true, false, true, true, false, true, true, false, true, true, false, false, true, true, false, false, false, false, false] rfl rfl (take_ofW HT_.out HW_.out (by kernel_rfl)) (fun _ _ _ h => h) (Or.inl ⟨by rfl, ?_⟩) hHeld ?_ ?_
  rotate_left
  ·rintro w' ⟨s0, s1, s2, s3, s4, s5, s6, s7, s8, s9, s10⟩
   go_simp
   with_reducible rfl
  rotate_left
  ·simp only [Act.put, List.setIfInBounds_toArray, List.set_cons_zero, List.set_cons_succ, i64_w, i32_w]
   rfl
  refine take_ (i := 5) (N := some 20) (v := ?_) (a' := ?_) #[true, true, true, true, true, true, true, true, false, true, true, false, true, true, false, true, true, false, true, true, false, true, true, false, true, true, false, true, true, false, true, true, false, false, true, true, false, false, false, false, false] rfl rfl (take_ofW HT_.out HW_.out (by kernel_rfl)) (fun _ _ _ h => h) (Or.inl ⟨by rfl, ?_⟩) hHeld ?_ ?_
  rotate_left
  ·rintro w' ⟨s0, s1, s2, s3, s4, s5, s6, s7, s8, s9, s10⟩
   go_simp
   with_reducible rfl
  rotate_left
  ·simp only [Act.put, List.setIfInBounds_toArray, List.set_cons_zero, List.set_cons_succ, i64_w, i32_w]
   rfl
  refine take_ (i := 8) (N := some 23) (v := ?_) (a' := ?_) #[true, true, true, true, true, true, true, true, true, true, true, false, true, true, false, true, true, false, true, true, false, true, true, false, true, true, false, true, true, false, true, true, false, false, true, true, false, false, false, false, false] rfl rfl (take_ofW HT_.out HW_.out (by kernel_rfl)) (fun _ _ _ h => h) (Or.inl ⟨by rfl, ?_⟩) hHeld ?_ ?_
  rotate_left
  ·rintro w' ⟨s0, s1, s2, s3, s4, s5, s6, s7, s8, s9, s10⟩
   go_simp
   with_reducible rfl
  rotate_left
  ·simp only [Act.put, List.setIfInBounds_toArray, List.set_cons_zero, List.set_cons_succ, i64_w, i32_w]
   rfl
  refine take_ (i := 11) (N := some 26) (v := ?_) (a' := ?_) #[true, true, true, true, true, true, true, true, true, true, true, true, true, true, false, true, true, false, true, true, false, true, true, false, true, true, false, true, true, false, true, true, false, false, true, true, false, false, false, false, false] rfl rfl (take_ofW HT_.out HW_.out (by kernel_rfl)) (fun _ _ _ h => h) (Or.inl ⟨by rfl, ?_⟩) hHeld ?_ ?_
  rotate_left
  ·rintro w' ⟨s0, s1, s2, s3, s4, s5, s6, s7, s8, s9, s10⟩
   go_simp
   with_reducible rfl
  rotate_left
  ·simp only [Act.put, List.setIfInBounds_toArray, List.set_cons_zero, List.set_cons_succ, i64_w, i32_w]
   rfl
  refine take_ (i := 14) (N := some 29) (v := ?_) (a' := ?_) #[true, true, true, true, true, true, true, true, true, true, true, true, true, true, true, true, true, false, true, true, false, true, true, false, true, true, false, true, true, false, true, true, false, false, true, true, false, false, false, false, false] rfl rfl (take_ofW HT_.out HW_.out (by kernel_rfl)) (fun _ _ _ h => h) (Or.inl ⟨by rfl, ?_⟩) hHeld ?_ ?_
  rotate_left
  ·rintro w' ⟨s0, s1, s2, s3, s4, s5, s6, s7, s8, s9, s10⟩
   go_simp
   with_reducible rfl
  rotate_left
  ·simp only [Act.put, List.setIfInBounds_toArray, List.set_cons_zero, List.set_cons_succ, i64_w, i32_w]
   rfl
  refine take_ (i := 17) (N := some 32) (v := ?_) (a' := ?_) #[true, true, true, true, true, true, true, true, true, true, true, true, true, true, true, true, true, true, true, true, false, true, true, false, true, true, false, true, true, false, true, true, false, false, true, true, false, false, false, false, false] rfl rfl (take_ofW HT_.out HW_.out (by kernel_rfl)) (fun _ _ _ h => h) (Or.inl ⟨by rfl, ?_⟩) hHeld ?_ ?_
  rotate_left
  ·rintro w' ⟨s0, s1, s2, s3, s4, s5, s6, s7, s8, s9, s10⟩
   go_simp
   with_reducible rfl
  rotate_left
  ·simp only [Act.put, List.setIfInBounds_toArray, List.set_cons_zero, List.set_cons_succ, i64_w, i32_w]
   rfl
  refine take_ (i := 20) (N := some 35) (v := ?_) (a' := ?_) #[true, true, true, true, true, true, true, true, true, true, true, true, true, true, true, true, true, true, true, true, true, true, true, false, true, true, false, true, true, false, true, true, false, false, true, true, false, false, false, false, false] rfl rfl (take_ofW HT_.out HW_.out (by kernel_rfl)) (fun _ _ _ h => h) (Or.inl ⟨by rfl, ?_⟩) hHeld ?_ ?_
  rotate_left
  ·rintro w' ⟨s0, s1, s2, s3, s4, s5, s6, s7, s8, s9, s10⟩
   go_simp
   with_reducible rfl
  rotate_left
  ·simp only [Act.put, List.setIfInBounds_toArray, List.set_cons_zero, List.set_cons_succ, i64_w, i32_w]
   rfl
  refine take_ (i := 23) (N := some 38) (v := ?_) (a' := ?_) #[true, true, true, true, true, true, true, true, true, true, true, true, true, true, true, true, true, true, true, true, true, true, true, true, true, true, false, true, true, false, true, true, false, false, true, true, false, false, false, false, false] rfl rfl (take_ofW HT_.out HW_.out (by kernel_rfl)) (fun _ _ _ h => h) (Or.inl ⟨by rfl, ?_⟩) hHeld ?_ ?_
  rotate_left
  ·rintro w' ⟨s0, s1, s2, s3, s4, s5, s6, s7, s8, s9, s10⟩
   go_simp
   with_reducible rfl
  rotate_left
  ·simp only [Act.put, List.setIfInBounds_toArray, List.set_cons_zero, List.set_cons_succ, i64_w, i32_w]
   rfl
  refine take_ (i := 26) (N := some 41) (v := ?_) (a' := ?_) #[true, true, true, true, true, true, true, true, true, true, true, true, true, true, true, true, true, true, true, true, true, true, true, true, true, true, true, true, true, false, true, true, false, false, true, true, false, false, false, false, false] rfl rfl (take_ofW HT_.out HW_.out (by kernel_rfl)) (fun _ _ _ h => h) (Or.inl ⟨by rfl, ?_⟩) hHeld ?_ ?_
  rotate_left
  ·rintro w' ⟨s0, s1, s2, s3, s4, s5, s6, s7, s8, s9, s10⟩
   go_simp
   with_reducible rfl
  rotate_left
  ·simp only [Act.put, List.setIfInBounds_toArray, List.set_cons_zero, List.set_cons_succ, i64_w, i32_w]
   rfl
  refine take_ (i := 29) (N := some 44) (v := ?_) (a' := ?_) #[true, true, true, true, true, true, true, true, true, true, true, true, true, true, true, true, true, true, true, true, true, true, true, true, true, true, true, true, true, true, true, true, false, false, true, true, false, false, false, false, false] rfl rfl (take_ofW HT_.out HW_.out (by kernel_rfl)) (fun _ _ _ h => h) (Or.inl ⟨by rfl, ?_⟩) hHeld ?_ ?_
  rotate_left
  ·rintro w' ⟨s0, s1, s2, s3, s4, s5, s6, s7, s8, s9, s10⟩
   go_simp
   with_reducible rfl
  rotate_left
  ·simp only [Act.put, List.setIfInBounds_toArray, List.set_cons_zero, List.set_cons_succ, i64_w, i32_w]
   rfl
  refine take_ (i := 32) (N := some 47) (v := ?_) (a' := ?_) #[true, true, true, true, true, true, true, true, true, true, true, true, true, true, true, true, true, true, true, true, true, true, true, true, true, true, true, true, true, true, true, true, true, false, true, true, false, false, false, false, false] rfl rfl (take_ofW HT_.out HW_.out (by kernel_rfl)) (fun _ _ _ h => h) (Or.inl ⟨by rfl, ?_⟩) hHeld ?_ ?_
  rotate_left
  ·rintro w' ⟨s0, s1, s2, s3, s4, s5, s6, s7, s8, s9, s10⟩
   go_simp
   with_reducible rfl
  rotate_left
  ·simp only [Act.put, List.setIfInBounds_toArray, List.set_cons_zero, List.set_cons_succ, i64_w, i32_w]
   rfl
  refine pure_ (i := 33) (N := some 48) (v := ?_) (a' := ?_) #[true, true, true, true, true, true, true, true, true, true, true, true, true, true, true, true, true, true, true, true, true, true, true, true, true, true, true, true, true, true, true, true, true, true, true, true, false, false, false, false, false] rfl rfl (any_of HT_.out (by kernel_rfl)) (fun _ _ _ h => h) (Or.inl ⟨by rfl, ?_⟩) ?_ ?_
  rotate_left
  ·intro w'
   go_simp
   with_reducible rfl
  rotate_left
  ·simp only [Act.put, List.setIfInBounds_toArray, List.set_cons_zero, List.set_cons_succ, i64_w, i32_w]
   rfl
  refine join_ (σ := Value × Value × Nat) 1 #[true, true, true, true, true, true, true, true, true, true, true, true, true, true, true, true, true, true, true, true, true, true, true, true, true, true, true, true, true, true, true, true, true, true, true, true, true, true, true, true, false] (fun s_ => [(51, s_.1), (52, s_.2.1), (6, .pointer (some ⟨s_.2.2, 0, none⟩)), (53, .agg #[.string (rdOf ByteArray.empty t291 0), .string (rdOf ByteArray.empty t291 1), .string (rdOf ByteArray.empty t291 2), .string (rdOf ByteArray.empty t291 3), .string (rdOf ByteArray.empty t291 4), .string (rdOf ByteArray.empty t291 5), .string (rdOf ByteArray.empty t291 6), .string (rdOf ByteArray.empty t291 7), .string (rdOf ByteArray.empty t291 8), .string (rdOf ByteArray.empty t291 9), s_.2.1, .bool ((rdOf ByteArray.empty t291 10).toList == ([49] : List UInt8))])]) (fun s_ w' => (w'.cell? ad295 = some (.string (rdOf ByteArray.empty t291 0)) ∧ w'.cell? ⟨ad295.block, ad295.off + 1, none⟩ = some (.string (rdOf ByteArray.empty t291 1)) ∧ w'.cell? ⟨ad295.block, ad295.off + 2, none⟩ = some (.string (rdOf ByteArray.empty t291 2)) ∧ w'.cell? ⟨ad295.block, ad295.off + 3, none⟩ = some (.string (rdOf ByteArray.empty t291 3)) ∧ w'.cell? ⟨ad295.block, ad295.off + 4, none⟩ = some (.string (rdOf ByteArray.empty t291 4)) ∧ w'.cell? ⟨ad295.block, ad295.off + 5, none⟩ = some (.string (rdOf ByteArray.empty t291 5)) ∧ w'.cell? ⟨ad295.block, ad295.off + 6, none⟩ = some (.string (rdOf ByteArray.empty t291 6)) ∧ w'.cell? ⟨ad295.block, ad295.off + 7, none⟩ = some (.string (rdOf ByteArray.empty t291 7)) ∧ w'.cell? ⟨ad295.block, ad295.off + 8, none⟩ = some (.string (rdOf ByteArray.empty t291 8)) ∧ w'.cell? ⟨ad295.block, ad295.off + 9, none⟩ = some (.string (rdOf ByteArray.empty t291 9)) ∧ w'.cell? ⟨ad295.block, ad295.off + 10, none⟩ = some (.string (rdOf ByteArray.empty t291 10))) ∧ (Kd.R Kd.string 9 w' w.heap.size (fun k_ => (w.heap.size ≤ k_) ∧ some k_ ≠ (s_.1 : Value).ownBlock) (.slice (some ad295) t291.length co23) t291) ∧ (Kd.R Kd.string 9 w' w.heap.size (fun k_ => (w.heap.size ≤ k_) ∧ some k_ ≠ (.slice (some ad295) t291.length co23 : Value).ownBlock) s_.1 t310) ∧ (Kd.V Kd.string 9 w' w.heap.size (fun k_ => (w.heap.size ≤ k_) ∧ some k_ ≠ (.slice (some ad295) t291.length co23 : Value).ownBlock ∧ k_ ≠ gb290 ∧ k_ ≠ s_.2.2) s_.2.1 t313) ∧ (w'.heap[gb290]? = some (.cells #[.string (⟨#[]⟩ : ByteArray), .string (⟨#[]⟩ : ByteArray), .string (⟨#[]⟩ : ByteArray), .string (⟨#[]⟩ : ByteArray), .string (⟨#[]⟩ : ByteArray), .string (⟨#[]⟩ : ByteArray), .string (⟨#[]⟩ : ByteArray), .string (⟨#[]⟩ : ByteArray), .string (⟨#[]⟩ : ByteArray), .string (⟨#[]⟩ : ByteArray), .slice none 0 0, .bool false] 47 (0, 0))) ∧ (w'.heap[s_.2.2]? = some (.cells #[.string (⟨#[]⟩ : ByteArray), .string (⟨#[]⟩ : ByteArray), .string (⟨#[]⟩ : ByteArray), .string (⟨#[]⟩ : ByteArray), .string (⟨#[]⟩ : ByteArray), .string (⟨#[]⟩ : ByteArray), .string (⟨#[]⟩ : ByteArray), .string (⟨#[]⟩ : ByteArray), .string (⟨#[]⟩ : ByteArray), .string (⟨#[]⟩ : ByteArray), .slice none 0 0, .bool false] 47 (0, 0))) ∧ (w.heap.size ≤ s_.2.2) ∧ (w.heap.size ≤ s_.2.2) ∧ (gb290 ≠ s_.2.2) ∧ (s_.2.2 ≠ gb290) ∧ (Below w.heap.size w w')) ?_ ?_
  rotate_left
  ·intro hCont
   refine two_ (i := 36) (j := 39) (Ni := some 51) (Nj := some 6) #[true, true, true, true, true, true, true, true, true, true, true, true, true, true, true, true, true, true, true, true, true, true, true, true, true, true, true, true, true, true, true, true, true, true, true, true, true, false, false, false, false] #[true, true, true, true, true, true, true, true, true, true, true, true, true, true, true, true, true, true, true, true, true, true, true, true, true, true, true, true, true, true, true, true, true, true, true, true, false, false, false, true, false] rfl rfl rfl rfl (two_of HT_.out (by kernel_rfl)) (by decide) (by decide) (fun K hK => ?_) (fun K hK => ?_)
   ·skip
    refine goes_ Tryd.func38 (by kernel_rfl) rfl #[.slice A24 y306.length c24] (by rfl) rfl rfl (by (try simp only [List.map_toArray, List.map_cons, List.map_nil]); first | done | rfl | (simp only [List.length_drop, List.length_take]; rfl)) ?_
    with_reducible refine (slices_Clone_string_string.calls _ _ y306 t310 _ ?side1 ?side2 A16.out).mono ?_
    (case side1 => repeat (first | exact (by repeat (first | (with_reducible exact HR309.out) | (with_reducible refine Kd.C_alloc ?_ _) | (with_reducible refine Kd.C_drewN ?_ _) | (with_reducible refine Kd.C_drew ?_) | exact HR309.out)) | (with_reducible refine Kd.C_alloc ?_ _) | (with_reducible refine Kd.C_drewN ?_ _) | (with_reducible refine Kd.C_drew ?_)))
    (case side2 => exact HC309.out)
    rintro e w25 ⟨v311, rfl, ho0, hb⟩
    have HS0_ := (hb.cell (World.block_lt_of_cell? _ _ (hHeld.1))).trans (hHeld.1)
    have HS1_ := (hb.cell (World.block_lt_of_cell? _ _ (hHeld.2.1))).trans (hHeld.2.1)
    have HS2_ := (hb.cell (World.block_lt_of_cell? _ _ (hHeld.2.2.1))).trans (hHeld.2.2.1)
    have HS3_ := (hb.cell (World.block_lt_of_cell? _ _ (hHeld.2.2.2.1))).trans (hHeld.2.2.2.1)
    have HS4_ := (hb.cell (World.block_lt_of_cell? _ _ (hHeld.2.2.2.2.1))).trans (hHeld.2.2.2.2.1)
    have HS5_ := (hb.cell (World.block_lt_of_cell? _ _ (hHeld.2.2.2.2.2.1))).trans (hHeld.2.2.2.2.2.1)
    have HS6_ := (hb.cell (World.block_lt_of_cell? _ _ (hHeld.2.2.2.2.2.2.1))).trans (hHeld.2.2.2.2.2.2.1)
    have HS7_ := (hb.cell (World.block_lt_of_cell? _ _ (hHeld.2.2.2.2.2.2.2.1))).trans (hHeld.2.2.2.2.2.2.2.1)
    have HS8_ := (hb.cell (World.block_lt_of_cell? _ _ (hHeld.2.2.2.2.2.2.2.2.1))).trans (hHeld.2.2.2.2.2.2.2.2.1)
    have HS9_ := (hb.cell (World.block_lt_of_cell? _ _ (hHeld.2.2.2.2.2.2.2.2.2.1))).trans (hHeld.2.2.2.2.2.2.2.2.2.1)
    have HS10_ := (hb.cell (World.block_lt_of_cell? _ _ (hHeld.2.2.2.2.2.2.2.2.2.2))).trans (hHeld.2.2.2.2.2.2.2.2.2.2)
    refine ⟨_, rfl, ?_⟩
    have n0_ := Aside0.mk (Kd.R_elder' (by (with_reducible repeat (first | apply Kd.R_alloc | apply Kd.R_drewN | apply Kd.R_drew)); exact HO294.out) (Kd.R_base ho0) hb)
    have n1_ := Aside0.mk (Kd.R_lower (Kd.R_new' (Kd.R_newM (M := fun k_ => (w.heap.size ≤ k_)) ho0 (below_size (by repeat (first | (with_reducible first | exact HB.out | apply below_alloc | apply pw_below_drewN | apply below_drew1 | refine below_set ?_ GE290.out) | exact HB.out))) (fun k_ h_ => h_)) (Kd.R_lt (by (with_reducible repeat (first | apply Kd.R_alloc | apply Kd.R_drewN | apply Kd.R_drew)); exact HO294.out))) (below_size (by repeat (first | (with_reducible first | exact HB.out | apply below_alloc | apply pw_below_drewN | apply below_drew1 | refine below_set ?_ GE290.out) | exact HB.out))))
    have n2_ := Aside0.mk (blk_belowB BK290.out (by (with_reducible repeat (first | refine blk_drewN ?_ _ | refine blk_drew ?_ | refine blk_alloc ?_ _)); exact BK290.out) hb)
    have n3_ := Aside0.mk (Kd.C_below (by repeat (first | (with_reducible exact HR309.out) | (with_reducible refine Kd.C_alloc ?_ _) | (with_reducible refine Kd.C_drewN ?_ _) | (with_reducible refine Kd.C_drew ?_) | exact HR309.out)) hb)
    have n4_ := Aside0.mk (below_step (by repeat (first | (with_reducible first | exact HB.out | apply below_alloc | apply pw_below_drewN | apply below_drew1 | refine below_set ?_ GE290.out) | exact HB.out)) hb)
    clear HO294; clear BK290; clear HR309; clear HB
    have HO294 := n0_
    have HO312 := n1_
    have BK290 := n2_
    have HR309 := n3_
    have HB := n4_
    clear n0_ n1_ n2_ n3_ n4_; (try clear hb); (try clear hb2); (try clear hk); (try clear hi); (try clear ho0)
    obtain ⟨Ao26, co26, eo26⟩ := Kd.R_slice HO312.out
    (first | subst eo26 | (injection eo26 with f1_ f2_ f3_; have f4_ := f1_.symm; have f5_ := f3_.symm; clear f1_ f2_ f3_; subst f4_; subst f5_))
    refine hK.out _ _ ⟨HS0_, HS1_, HS2_, HS3_, HS4_, HS5_, HS6_, HS7_, HS8_, HS9_, HS10_⟩ (fun hHeld => ?_)
    clear hK K
    refine norm_ (a' := ?_) ?_ ?_
    rotate_left
    ·show Act.put _ (some 51) _ = _
     simp only [Act.put, List.setIfInBounds_toArray, List.set_cons_zero, List.set_cons_succ, i64_w, i32_w]
     rfl
    refine two_ (i := 37) (j := 39) (Ni := some 52) (Nj := some 6) #[true, true, true, true, true, true, true, true, true, true, true, true, true, true, true, true, true, true, true, true, true, true, true, true, true, true, true, true, true, true, true, true, true, true, true, true, true, true, false, false, false] #[true, true, true, true, true, true, true, true, true, true, true, true, true, true, true, true, true, true, true, true, true, true, true, true, true, true, true, true, true, true, true, true, true, true, true, true, true, false, false, true, false] rfl rfl rfl rfl (two_of HT_.out (by kernel_rfl)) (by decide) (by decide) (fun K hK => ?_) (fun K hK => ?_)
    ·skip
     refine goes_ Tryd.func37 (by kernel_rfl) rfl #[.slice Ao26 t310.length co26] (by rfl) rfl rfl (by (try simp only [List.map_toArray, List.map_cons, List.map_nil]); first | done | rfl | (simp only [List.length_drop, List.length_take]; rfl)) ?_
     with_reducible refine (slices_Clip_string_string.calls (fun k_ => some k_ = (.slice Ao26 t310.length co26 : Value).ownBlock) _ _ t310 t313 _ ?side1 A17.out).mono ?_
     (case side1 => exact Kd.R_V (Kd.R_tight rfl (Kd.R_types (HO312.out) BK290.out (by decide))))
     rintro e w27 ⟨v314, rfl, ho0, hb⟩
     have HS0_ := (hb.cell (World.block_lt_of_cell? _ _ (hHeld.1))).trans (hHeld.1)
     have HS1_ := (hb.cell (World.block_lt_of_cell? _ _ (hHeld.2.1))).trans (hHeld.2.1)
     have HS2_ := (hb.cell (World.block_lt_of_cell? _ _ (hHeld.2.2.1))).trans (hHeld.2.2.1)
     have HS3_ := (hb.cell (World.block_lt_of_cell? _ _ (hHeld.2.2.2.1))).trans (hHeld.2.2.2.1)
     have HS4_ := (hb.cell (World.block_lt_of_cell? _ _ (hHeld.2.2.2.2.1))).trans (hHeld.2.2.2.2.1)
     have HS5_ := (hb.cell (World.block_lt_of_cell? _ _ (hHeld.2.2.2.2.2.1))).trans (hHeld.2.2.2.2.2.1)
     have HS6_ := (hb.cell (World.block_lt_of_cell? _ _ (hHeld.2.2.2.2.2.2.1))).trans (hHeld.2.2.2.2.2.2.1)
     have HS7_ := (hb.cell (World.block_lt_of_cell? _ _ (hHeld.2.2.2.2.2.2.2.1))).trans (hHeld.2.2.2.2.2.2.2.1)
     have HS8_ := (hb.cell (World.block_lt_of_cell? _ _ (hHeld.2.2.2.2.2.2.2.2.1))).trans (hHeld.2.2.2.2.2.2.2.2.1)
     have HS9_ := (hb.cell (World.block_lt_of_cell? _ _ (hHeld.2.2.2.2.2.2.2.2.2.1))).trans (hHeld.2.2.2.2.2.2.2.2.2.1)
     have HS10_ := (hb.cell (World.block_lt_of_cell? _ _ (hHeld.2.2.2.2.2.2.2.2.2.2))).trans (hHeld.2.2.2.2.2.2.2.2.2.2)
     refine ⟨_, rfl, ?_⟩
     have n0_ := Aside0.mk (Kd.R_below (by (with_reducible repeat (first | apply Kd.R_alloc | apply Kd.R_drewN | apply Kd.R_drew)); exact HO294.out) hb)
     have n1_ := Aside0.mk (Kd.R_below (by (with_reducible repeat (first | apply Kd.R_alloc | apply Kd.R_drewN | apply Kd.R_drew)); exact HO312.out) hb)
     have n2_ := Aside0.mk (Kd.V_lower (Kd.V_mono (ok' := fun k_ => (w.heap.size ≤ k_) ∧ some k_ ≠ (.slice (some ad295) t291.length co23 : Value).ownBlock ∧ k_ ≠ gb290) ho0 (fun k_ hk_ => ⟨Or.elim hk_ (fun hs_ => ((Kd.R_types (HO312.out) BK290.out (by decide)).1 k_ hs_.symm).1.1.1) (fun hn_ => (Nat.le_trans (below_size (by repeat (first | (with_reducible first | exact HB.out | apply below_alloc | apply pw_below_drewN | apply below_drew1 | refine below_set ?_ GE290.out) | exact HB.out))) hn_)), Or.elim hk_ (fun hs_ => ((Kd.R_types (HO312.out) BK290.out (by decide)).1 k_ hs_.symm).1.2) (fun hn_ => (Kd.fresh' (Kd.R_lt (by (with_reducible repeat (first | apply Kd.R_alloc | apply Kd.R_drewN | apply Kd.R_drew)); exact HO294.out)) k_ hn_)), Or.elim hk_ (fun hs_ => ((Kd.R_types (HO312.out) BK290.out (by decide)).1 k_ hs_.symm).2) (fun hn_ => (Kd.freshB (g := gb290) (o := .cells #[.string (⟨#[]⟩ : ByteArray), .string (⟨#[]⟩ : ByteArray), .string (⟨#[]⟩ : ByteArray), .string (⟨#[]⟩ : ByteArray), .string (⟨#[]⟩ : ByteArray), .string (⟨#[]⟩ : ByteArray), .string (⟨#[]⟩ : ByteArray), .string (⟨#[]⟩ : ByteArray), .string (⟨#[]⟩ : ByteArray), .string (⟨#[]⟩ : ByteArray), .slice none 0 0, .bool false] 47 (0, 0)) (by (with_reducible repeat (first | refine blk_drewN ?_ _ | refine blk_drew ?_ | refine blk_alloc ?_ _)); exact BK290.out) k_ hn_))⟩)) (below_size (by repeat (first | (with_reducible first | exact HB.out | apply below_alloc | apply pw_below_drewN | apply below_drew1 | refine below_set ?_ GE290.out) | exact HB.out))))
     have n3_ := Aside0.mk (blk_belowB BK290.out (by (with_reducible repeat (first | refine blk_drewN ?_ _ | refine blk_drew ?_ | refine blk_alloc ?_ _)); exact BK290.out) hb)
     have n4_ := Aside0.mk (Kd.C_below (by repeat (first | (with_reducible exact HR309.out) | (with_reducible refine Kd.C_alloc ?_ _) | (with_reducible refine Kd.C_drewN ?_ _) | (with_reducible refine Kd.C_drew ?_) | exact HR309.out)) hb)
     have n5_ := Aside0.mk (below_step (by repeat (first | (with_reducible first | exact HB.out | apply below_alloc | apply pw_below_drewN | apply below_drew1 | refine below_set ?_ GE290.out) | exact HB.out)) hb)
     clear HO294; clear HO312; clear BK290; clear HR309; clear HB
     have HO294 := n0_
     have HO312 := n1_
     have HO315 := n2_
     have BK290 := n3_
     have HR309 := n4_
     have HB := n5_
     clear n0_ n1_ n2_ n3_ n4_ n5_; (try clear hb); (try clear hb2); (try clear hk); (try clear hi); (try clear ho0)
     obtain ⟨Ao28, co28, eo28⟩ := Kd.V_slice HO315.out
     (first | subst eo28 | (injection eo28 with f1_ f2_ f3_; have f4_ := f1_.symm; have f5_ := f3_.symm; clear f1_ f2_ f3_; subst f4_; subst f5_))
     refine hK.out _ _ ⟨HS0_, HS1_, HS2_, HS3_, HS4_, HS5_, HS6_, HS7_, HS8_, HS9_, HS10_⟩ (fun hHeld => ?_)
     clear hK K
     refine norm_ (a' := ?_) ?_ ?_
     rotate_left
     ·show Act.put _ (some 52) _ = _
      simp only [Act.put, List.setIfInBounds_toArray, List.set_cons_zero, List.set_cons_succ, i64_w, i32_w]
      rfl
     refine pure_ (i := 38) (N := some 53) (v := ?_) (a' := ?_) #[true, true, true, true, true, true, true, true, true, true, true, true, true, true, true, true, true, true, true, true, true, true, true, true, true, true, true, true, true, true, true, true, true, true, true, true, true, true, true, false, false] rfl rfl (any_of HT_.out (by kernel_rfl)) (fun _ _ _ h => h) (Or.inl ⟨by rfl, ?_⟩) ?_ ?_
     rotate_left
     ·intro w'
      go_simp
      with_reducible rfl
     rotate_left
     ·simp only [Act.put, List.setIfInBounds_toArray, List.set_cons_zero, List.set_cons_succ, i64_w, i32_w]
      rfl
     refine one_ (i := 39) (N := some 6) #[true, true, true, true, true, true, true, true, true, true, true, true, true, true, true, true, true, true, true, true, true, true, true, true, true, true, true, true, true, true, true, true, true, true, true, true, true, true, true, true, false] rfl rfl (one_of HT_.out (by kernel_rfl)) (by decide) (fun K hK => ?_)
     refine box_step ?hg (N := 6) ?hd (cs := #[.string (⟨#[]⟩ : ByteArray), .string (⟨#[]⟩ : ByteArray), .string (⟨#[]⟩ : ByteArray), .string (⟨#[]⟩ : ByteArray), .string (⟨#[]⟩ : ByteArray), .string (⟨#[]⟩ : ByteArray), .string (⟨#[]⟩ : ByteArray), .string (⟨#[]⟩ : ByteArray), .string (⟨#[]⟩ : ByteArray), .string (⟨#[]⟩ : ByteArray), .slice none 0 0, .bool false]) (t := 47) ?hr ?_; (case hd => rfl); (case hg => rfl); (case hr => first | (go_simp; done) | (go_simp; rfl))
     intro gb316 hg w29 hbox hb
     have HS0_ := (hb.cell (World.block_lt_of_cell? _ _ (hHeld.1))).trans (hHeld.1)
     have HS1_ := (hb.cell (World.block_lt_of_cell? _ _ (hHeld.2.1))).trans (hHeld.2.1)
     have HS2_ := (hb.cell (World.block_lt_of_cell? _ _ (hHeld.2.2.1))).trans (hHeld.2.2.1)
     have HS3_ := (hb.cell (World.block_lt_of_cell? _ _ (hHeld.2.2.2.1))).trans (hHeld.2.2.2.1)
     have HS4_ := (hb.cell (World.block_lt_of_cell? _ _ (hHeld.2.2.2.2.1))).trans (hHeld.2.2.2.2.1)
     have HS5_ := (hb.cell (World.block_lt_of_cell? _ _ (hHeld.2.2.2.2.2.1))).trans (hHeld.2.2.2.2.2.1)
     have HS6_ := (hb.cell (World.block_lt_of_cell? _ _ (hHeld.2.2.2.2.2.2.1))).trans (hHeld.2.2.2.2.2.2.1)
     have HS7_ := (hb.cell (World.block_lt_of_cell? _ _ (hHeld.2.2.2.2.2.2.2.1))).trans (hHeld.2.2.2.2.2.2.2.1)
     have HS8_ := (hb.cell (World.block_lt_of_cell? _ _ (hHeld.2.2.2.2.2.2.2.2.1))).trans (hHeld.2.2.2.2.2.2.2.2.1)
     have HS9_ := (hb.cell (World.block_lt_of_cell? _ _ (hHeld.2.2.2.2.2.2.2.2.2.1))).trans (hHeld.2.2.2.2.2.2.2.2.2.1)
     have HS10_ := (hb.cell (World.block_lt_of_cell? _ _ (hHeld.2.2.2.2.2.2.2.2.2.2))).trans (hHeld.2.2.2.2.2.2.2.2.2.2)
     have n0_ := Aside0.mk (Kd.R_below (by (with_reducible repeat (first | apply Kd.R_alloc | apply Kd.R_drewN | apply Kd.R_drew)); exact HO294.out) hb)
     have n1_ := Aside0.mk (Kd.R_below (by (with_reducible repeat (first | apply Kd.R_alloc | apply Kd.R_drewN | apply Kd.R_drew)); exact HO312.out) hb)
     have n2_ := Aside0.mk (Kd.V_below (Kd.V_elderB (by (with_reducible repeat (first | apply Kd.V_alloc | apply Kd.V_drewN | apply Kd.V_drew)); exact HO315.out) gb316 (Nat.le_of_eq hg.symm)) hb)
     have n3_ := Aside0.mk (blk_belowB BK290.out (by (with_reducible repeat (first | refine blk_drewN ?_ _ | refine blk_drew ?_ | refine blk_alloc ?_ _)); exact BK290.out) hb)
     have n4_ := Aside0.mk (Kd.C_below (by repeat (first | (with_reducible exact HR309.out) | (with_reducible refine Kd.C_alloc ?_ _) | (with_reducible refine Kd.C_drewN ?_ _) | (with_reducible refine Kd.C_drew ?_) | exact HR309.out)) hb)
     have n5_ := Aside0.mk (below_step (by repeat (first | (with_reducible first | exact HB.out | apply below_alloc | apply pw_below_drewN | apply below_drew1 | refine below_set ?_ GE290.out) | exact HB.out)) hb)
     have n6_ := Aside0.mk (hbox)
     have n7_ := Aside0.mk ((by rw [hg]; exact (below_size (by repeat (first | (with_reducible first | exact HB.out | apply below_alloc | apply pw_below_drewN | apply below_drew1 | refine below_set ?_ GE290.out) | exact HB.out))) : w.heap.size ≤ gb316))
     have n8_ := Aside0.mk ((by rw [hg]; exact (below_size (by repeat (first | (with_reducible first | exact HB.out | apply below_alloc | apply pw_below_drewN | apply below_drew1 | refine below_set ?_ GE290.out) | exact HB.out))) : w.heap.size ≤ gb316))
     have n9_ := Aside0.mk ((by rw [hg]; exact Nat.ne_of_lt (blk_lt (g := gb290) (o := .cells #[.string (⟨#[]⟩ : ByteArray), .string (⟨#[]⟩ : ByteArray), .string (⟨#[]⟩ : ByteArray), .string (⟨#[]⟩ : ByteArray), .string (⟨#[]⟩ : ByteArray), .string (⟨#[]⟩ : ByteArray), .string (⟨#[]⟩ : ByteArray), .string (⟨#[]⟩ : ByteArray), .string (⟨#[]⟩ : ByteArray), .string (⟨#[]⟩ : ByteArray), .slice none 0 0, .bool false] 47 (0, 0)) (by (with_reducible repeat (first | refine blk_drewN ?_ _ | refine blk_drew ?_ | refine blk_alloc ?_ _)); exact BK290.out)) : gb290 ≠ gb316))
     have n10_ := Aside0.mk ((by rw [hg]; exact Nat.ne_of_gt (blk_lt (g := gb290) (o := .cells #[.string (⟨#[]⟩ : ByteArray), .string (⟨#[]⟩ : ByteArray), .string (⟨#[]⟩ : ByteArray), .string (⟨#[]⟩ : ByteArray), .string (⟨#[]⟩ : ByteArray), .string (⟨#[]⟩ : ByteArray), .string (⟨#[]⟩ : ByteArray), .string (⟨#[]⟩ : ByteArray), .string (⟨#[]⟩ : ByteArray), .string (⟨#[]⟩ : ByteArray), .slice none 0 0, .bool false] 47 (0, 0)) (by (with_reducible repeat (first | refine blk_drewN ?_ _ | refine blk_drew ?_ | refine blk_alloc ?_ _)); exact BK290.out)) : gb316 ≠ gb290))
     clear HO294; clear HO312; clear HO315; clear BK290; clear HR309; clear HB
     have HO294 := n0_
     have HO312 := n1_
     have HO315 := n2_
     have BK290 := n3_
     have HR309 := n4_
     have HB := n5_
     have BK316 := n6_
     have GW316 := n7_
     have GE316 := n8_
     have NB290_316 := n9_
     have NB316_290 := n10_
     clear n0_ n1_ n2_ n3_ n4_ n5_ n6_ n7_ n8_ n9_ n10_; clear hb hbox hg
     refine hK.out _ _ ⟨HS0_, HS1_, HS2_, HS3_, HS4_, HS5_, HS6_, HS7_, HS8_, HS9_, HS10_⟩ (fun hHeld => ?_)
     clear hK K
     refine norm_ (a' := ?_) ?_ ?_
     rotate_left
     ·show Act.put _ (some 6) _ = _
      simp only [Act.put, List.setIfInBounds_toArray, List.set_cons_zero, List.set_cons_succ, i64_w, i32_w]
      rfl
     exact norm_ (by simp only [putAll, Act.put, List.setIfInBounds_toArray, List.set_cons_zero, List.set_cons_succ]) (hCont (.slice Ao26 t310.length co26, .slice Ao28 t313.length co28, gb316) _ ⟨hHeld, (by (with_reducible repeat (first | apply Kd.R_alloc | apply Kd.R_drewN | apply Kd.R_drew)); exact Kd.R_mono HO294.out (fun _ hk => ⟨hk.1.1, hk.2⟩)), (by (with_reducible repeat (first | apply Kd.R_alloc | apply Kd.R_drewN | apply Kd.R_drew)); exact Kd.R_mono HO312.out (fun _ hk => ⟨hk.1.1, hk.2⟩)), (by (with_reducible repeat (first | apply Kd.V_alloc | apply Kd.V_drewN | apply Kd.V_drew)); exact Kd.V_mono HO315.out (fun _ hk => ⟨hk.1.1, ⟨hk.1.2.1, ⟨hk.1.2.2, hk.2⟩⟩⟩)), (by (with_reducible repeat (first | refine blk_drewN ?_ _ | refine blk_drew ?_ | refine blk_alloc ?_ _)); exact BK290.out), (by (with_reducible repeat (first | refine blk_drewN ?_ _ | refine blk_drew ?_ | refine blk_alloc ?_ _)); exact BK316.out), GW316.out, GE316.out, NB290_316.out, NB316_290.out, (by repeat (first | (with_reducible first | exact HB.out | apply below_alloc | apply pw_below_drewN | apply below_drew1 | refine below_set ?_ GE290.out | refine below_set ?_ GE316.out) | exact HB.out))⟩)
    ·skip
     refine box_step ?hg (N := 6) ?hd (cs := #[.string (⟨#[]⟩ : ByteArray), .string (⟨#[]⟩ : ByteArray), .string (⟨#[]⟩ : ByteArray), .string (⟨#[]⟩ : ByteArray), .string (⟨#[]⟩ : ByteArray), .string (⟨#[]⟩ : ByteArray), .string (⟨#[]⟩ : ByteArray), .string (⟨#[]⟩ : ByteArray), .string (⟨#[]⟩ : ByteArray), .string (⟨#[]⟩ : ByteArray), .slice none 0 0, .bool false]) (t := 47) ?hr ?_; (case hd => rfl); (case hg => rfl); (case hr => first | (go_simp; done) | (go_simp; rfl))
     intro gb316 hg w26 hbox hb
     have HS0_ := (hb.cell (World.block_lt_of_cell? _ _ (hHeld.1))).trans (hHeld.1)
     have HS1_ := (hb.cell (World.block_lt_of_cell? _ _ (hHeld.2.1))).trans (hHeld.2.1)
     have HS2_ := (hb.cell (World.block_lt_of_cell? _ _ (hHeld.2.2.1))).trans (hHeld.2.2.1)
     have HS3_ := (hb.cell (World.block_lt_of_cell? _ _ (hHeld.2.2.2.1))).trans (hHeld.2.2.2.1)
     have HS4_ := (hb.cell (World.block_lt_of_cell? _ _ (hHeld.2.2.2.2.1))).trans (hHeld.2.2.2.2.1)
     have HS5_ := (hb.cell (World.block_lt_of_cell? _ _ (hHeld.2.2.2.2.2.1))).trans (hHeld.2.2.2.2.2.1)
     have HS6_ := (hb.cell (World.block_lt_of_cell? _ _ (hHeld.2.2.2.2.2.2.1))).trans (hHeld.2.2.2.2.2.2.1)
     have HS7_ := (hb.cell (World.block_lt_of_cell? _ _ (hHeld.2.2.2.2.2.2.2.1))).trans (hHeld.2.2.2.2.2.2.2.1)
     have HS8_ := (hb.cell (World.block_lt_of_cell? _ _ (hHeld.2.2.2.2.2.2.2.2.1))).trans (hHeld.2.2.2.2.2.2.2.2.1)
     have HS9_ := (hb.cell (World.block_lt_of_cell? _ _ (hHeld.2.2.2.2.2.2.2.2.2.1))).trans (hHeld.2.2.2.2.2.2.2.2.2.1)
     have HS10_ := (hb.cell (World.block_lt_of_cell? _ _ (hHeld.2.2.2.2.2.2.2.2.2.2))).trans (hHeld.2.2.2.2.2.2.2.2.2.2)
     have n0_ := Aside0.mk (Kd.R_below (by (with_reducible repeat (first | apply Kd.R_alloc | apply Kd.R_drewN | apply Kd.R_drew)); exact HO294.out) hb)
     have n1_ := Aside0.mk (Kd.R_below (by (with_reducible repeat (first | apply Kd.R_alloc | apply Kd.R_drewN | apply Kd.R_drew)); exact HO312.out) hb)
     have n2_ := Aside0.mk (blk_belowB BK290.out (by (with_reducible repeat (first | refine blk_drewN ?_ _ | refine blk_drew ?_ | refine blk_alloc ?_ _)); exact BK290.out) hb)
     have n3_ := Aside0.mk (Kd.C_below (by repeat (first | (with_reducible exact HR309.out) | (with_reducible refine Kd.C_alloc ?_ _) | (with_reducible refine Kd.C_drewN ?_ _) | (with_reducible refine Kd.C_drew ?_) | exact HR309.out)) hb)
     have n4_ := Aside0.mk (below_step (by repeat (first | (with_reducible first | exact HB.out | apply below_alloc | apply pw_below_drewN | apply below_drew1 | refine below_set ?_ GE290.out) | exact HB.out)) hb)
     have n5_ := Aside0.mk (hbox)
     have n6_ := Aside0.mk ((by rw [hg]; exact (below_size (by repeat (first | (with_reducible first | exact HB.out | apply below_alloc | apply pw_below_drewN | apply below_drew1 | refine below_set ?_ GE290.out) | exact HB.out))) : w.heap.size ≤ gb316))
     have n7_ := Aside0.mk ((by rw [hg]; exact (below_size (by repeat (first | (with_reducible first | exact HB.out | apply below_alloc | apply pw_below_drewN | apply below_drew1 | refine below_set ?_ GE290.out) | exact HB.out))) : w.heap.size ≤ gb316))
     have n8_ := Aside0.mk ((by rw [hg]; exact Nat.ne_of_lt (blk_lt (g := gb290) (o := .cells #[.string (⟨#[]⟩ : ByteArray), .string (⟨#[]⟩ : ByteArray), .string (⟨#[]⟩ : ByteArray), .string (⟨#[]⟩ : ByteArray), .string (⟨#[]⟩ : ByteArray), .string (⟨#[]⟩ : ByteArray), .string (⟨#[]⟩ : ByteArray), .string (⟨#[]⟩ : ByteArray), .string (⟨#[]⟩ : ByteArray), .string (⟨#[]⟩ : ByteArray), .slice none 0 0, .bool false] 47 (0, 0)) (by (with_reducible repeat (first | refine blk_drewN ?_ _ | refine blk_drew ?_ | refine blk_alloc ?_ _)); exact BK290.out)) : gb290 ≠ gb316))
     have n9_ := Aside0.mk ((by rw [hg]; exact Nat.ne_of_gt (blk_lt (g := gb290) (o := .cells #[.string (⟨#[]⟩ : ByteArray), .string (⟨#[]⟩ : ByteArray), .string (⟨#[]⟩ : ByteArray), .string (⟨#[]⟩ : ByteArray), .string (⟨#[]⟩ : ByteArray), .string (⟨#[]⟩ : ByteArray), .string (⟨#[]⟩ : ByteArray), .string (⟨#[]⟩ : ByteArray), .string (⟨#[]⟩ : ByteArray), .string (⟨#[]⟩ : ByteArray), .slice none 0 0, .bool false] 47 (0, 0)) (by (with_reducible repeat (first | refine blk_drewN ?_ _ | refine blk_drew ?_ | refine blk_alloc ?_ _)); exact BK290.out)) : gb316 ≠ gb290))
     clear HO294; clear HO312; clear BK290; clear HR309; clear HB
     have HO294 := n0_
     have HO312 := n1_
     have BK290 := n2_
     have HR309 := n3_
     have HB := n4_
     have BK316 := n5_
     have GW316 := n6_
     have GE316 := n7_
     have NB290_316 := n8_
     have NB316_290 := n9_
     clear n0_ n1_ n2_ n3_ n4_ n5_ n6_ n7_ n8_ n9_; clear hb hbox hg
     obtain ⟨Ao27, co27, eo27⟩ := Kd.R_slice HO312.out
     (first | subst eo27 | (injection eo27 with f1_ f2_ f3_; have f4_ := f1_.symm; have f5_ := f3_.symm; clear f1_ f2_ f3_; subst f4_; subst f5_))
     refine hK.out _ _ ⟨HS0_, HS1_, HS2_, HS3_, HS4_, HS5_, HS6_, HS7_, HS8_, HS9_, HS10_⟩ (fun hHeld => ?_)
     clear hK K
     refine norm_ (a' := ?_) ?_ ?_
     rotate_left
     ·show Act.put _ (some 6) _ = _
      simp only [Act.put, List.setIfInBounds_toArray, List.set_cons_zero, List.set_cons_succ, i64_w, i32_w]
      rfl
     refine one_ (i := 37) (N := some 52) #[true, true, true, true, true, true, true, true, true, true, true, true, true, true, true, true, true, true, true, true, true, true, true, true, true, true, true, true, true, true, true, true, true, true, true, true, true, true, false, true, false] rfl rfl (one_of HT_.out (by kernel_rfl)) (by decide) (fun K hK => ?_)
     refine goes_ Tryd.func37 (by kernel_rfl) rfl #[.slice Ao27 t310.length co27] (by rfl) rfl rfl (by (try simp only [List.map_toArray, List.map_cons, List.map_nil]); first | done | rfl | (simp only [List.length_drop, List.length_take]; rfl)) ?_
     with_reducible refine (slices_Clip_string_string.calls (fun k_ => some k_ = (.slice Ao27 t310.length co27 : Value).ownBlock) _ _ t310 t313 _ ?side1 A17.out).mono ?_
     (case side1 => exact Kd.R_V (Kd.R_tight rfl (Kd.R_types (Kd.R_types (HO312.out) BK290.out (by decide)) BK316.out (by decide))))
     rintro e w28 ⟨v314, rfl, ho0, hb⟩
     have HS0_ := (hb.cell (World.block_lt_of_cell? _ _ (hHeld.1))).trans (hHeld.1)
     have HS1_ := (hb.cell (World.block_lt_of_cell? _ _ (hHeld.2.1))).trans (hHeld.2.1)
     have HS2_ := (hb.cell (World.block_lt_of_cell? _ _ (hHeld.2.2.1))).trans (hHeld.2.2.1)
     have HS3_ := (hb.cell (World.block_lt_of_cell? _ _ (hHeld.2.2.2.1))).trans (hHeld.2.2.2.1)
     have HS4_ := (hb.cell (World.block_lt_of_cell? _ _ (hHeld.2.2.2.2.1))).trans (hHeld.2.2.2.2.1)
     have HS5_ := (hb.cell (World.block_lt_of_cell? _ _ (hHeld.2.2.2.2.2.1))).trans (hHeld.2.2.2.2.2.1)
     have HS6_ := (hb.cell (World.block_lt_of_cell? _ _ (hHeld.2.2.2.2.2.2.1))).trans (hHeld.2.2.2.2.2.2.1)
     have HS7_ := (hb.cell (World.block_lt_of_cell? _ _ (hHeld.2.2.2.2.2.2.2.1))).trans (hHeld.2.2.2.2.2.2.2.1)
     have HS8_ := (hb.cell (World.block_lt_of_cell? _ _ (hHeld.2.2.2.2.2.2.2.2.1))).trans (hHeld.2.2.2.2.2.2.2.2.1)
     have HS9_ := (hb.cell (World.block_lt_of_cell? _ _ (hHeld.2.2.2.2.2.2.2.2.2.1))).trans (hHeld.2.2.2.2.2.2.2.2.2.1)
     have HS10_ := (hb.cell (World.block_lt_of_cell? _ _ (hHeld.2.2.2.2.2.2.2.2.2.2))).trans (hHeld.2.2.2.2.2.2.2.2.2.2)
     refine ⟨_, rfl, ?_⟩
     have n0_ := Aside0.mk (Kd.R_below (by (with_reducible repeat (first | apply Kd.R_alloc | apply Kd.R_drewN | apply Kd.R_drew)); exact HO294.out) hb)
     have n1_ := Aside0.mk (Kd.R_below (by (with_reducible repeat (first | apply Kd.R_alloc | apply Kd.R_drewN | apply Kd.R_drew)); exact HO312.out) hb)
     have n2_ := Aside0.mk (Kd.V_lower (Kd.V_mono (ok' := fun k_ => (w.heap.size ≤ k_) ∧ some k_ ≠ (.slice (some ad295) t291.length co23 : Value).ownBlock ∧ k_ ≠ gb290 ∧ k_ ≠ gb316) ho0 (fun k_ hk_ => ⟨Or.elim hk_ (fun hs_ => ((Kd.R_types (Kd.R_types (HO312.out) BK290.out (by decide)) BK316.out (by decide)).1 k_ hs_.symm).1.1.1.1) (fun hn_ => (Nat.le_trans (below_size (by repeat (first | (with_reducible first | exact HB.out | apply below_alloc | apply pw_below_drewN | apply below_drew1 | refine below_set ?_ GE290.out | refine below_set ?_ GE316.out) | exact HB.out))) hn_)), Or.elim hk_ (fun hs_ => ((Kd.R_types (Kd.R_types (HO312.out) BK290.out (by decide)) BK316.out (by decide)).1 k_ hs_.symm).1.1.2) (fun hn_ => (Kd.fresh' (Kd.R_lt (by (with_reducible repeat (first | apply Kd.R_alloc | apply Kd.R_drewN | apply Kd.R_drew)); exact HO294.out)) k_ hn_)), Or.elim hk_ (fun hs_ => ((Kd.R_types (Kd.R_types (HO312.out) BK290.out (by decide)) BK316.out (by decide)).1 k_ hs_.symm).1.2) (fun hn_ => (Kd.freshB (g := gb290) (o := .cells #[.string (⟨#[]⟩ : ByteArray), .string (⟨#[]⟩ : ByteArray), .string (⟨#[]⟩ : ByteArray), .string (⟨#[]⟩ : ByteArray), .string (⟨#[]⟩ : ByteArray), .string (⟨#[]⟩ : ByteArray), .string (⟨#[]⟩ : ByteArray), .string (⟨#[]⟩ : ByteArray), .string (⟨#[]⟩ : ByteArray), .string (⟨#[]⟩ : ByteArray), .slice none 0 0, .bool false] 47 (0, 0)) (by (with_reducible repeat (first | refine blk_drewN ?_ _ | refine blk_drew ?_ | refine blk_alloc ?_ _)); exact BK290.out) k_ hn_)), Or.elim hk_ (fun hs_ => ((Kd.R_types (Kd.R_types (HO312.out) BK290.out (by decide)) BK316.out (by decide)).1 k_ hs_.symm).2) (fun hn_ => (Kd.freshB (g := gb316) (o := .cells #[.string (⟨#[]⟩ : ByteArray), .string (⟨#[]⟩ : ByteArray), .string (⟨#[]⟩ : ByteArray), .string (⟨#[]⟩ : ByteArray), .string (⟨#[]⟩ : ByteArray), .string (⟨#[]⟩ : ByteArray), .string (⟨#[]⟩ : ByteArray), .string (⟨#[]⟩ : ByteArray), .string (⟨#[]⟩ : ByteArray), .string (⟨#[]⟩ : ByteArray), .slice none 0 0, .bool false] 47 (0, 0)) (by (with_reducible repeat (first | refine blk_drewN ?_ _ | refine blk_drew ?_ | refine blk_alloc ?_ _)); exact BK316.out) k_ hn_))⟩)) (below_size (by repeat (first | (with_reducible first | exact HB.out | apply below_alloc | apply pw_below_drewN | apply below_drew1 | refine below_set ?_ GE290.out | refine below_set ?_ GE316.out) | exact HB.out))))
     have n3_ := Aside0.mk (blk_belowB BK290.out (by (with_reducible repeat (first | refine blk_drewN ?_ _ | refine blk_drew ?_ | refine blk_alloc ?_ _)); exact BK290.out) hb)
     have n4_ := Aside0.mk (Kd.C_below (by repeat (first | (with_reducible exact HR309.out) | (with_reducible refine Kd.C_alloc ?_ _) | (with_reducible refine Kd.C_drewN ?_ _) | (with_reducible refine Kd.C_drew ?_) | exact HR309.out)) hb)
     have n5_ := Aside0.mk (blk_belowB BK316.out (by (with_reducible repeat (first | refine blk_drewN ?_ _ | refine blk_drew ?_ | refine blk_alloc ?_ _)); exact BK316.out) hb)
     have n6_ := Aside0.mk (below_step (by repeat (first | (with_reducible first | exact HB.out | apply below_alloc | apply pw_below_drewN | apply below_drew1 | refine below_set ?_ GE290.out | refine below_set ?_ GE316.out) | exact HB.out)) hb)
     clear HO294; clear HO312; clear BK290; clear HR309; clear BK316; clear HB
     have HO294 := n0_
     have HO312 := n1_
     have HO315 := n2_
     have BK290 := n3_
     have HR309 := n4_
     have BK316 := n5_
     have HB := n6_
     clear n0_ n1_ n2_ n3_ n4_ n5_ n6_; (try clear hb); (try clear hb2); (try clear hk); (try clear hi); (try clear ho0)
     obtain ⟨Ao29, co29, eo29⟩ := Kd.V_slice HO315.out
     (first | subst eo29 | (injection eo29 with f1_ f2_ f3_; have f4_ := f1_.symm; have f5_ := f3_.symm; clear f1_ f2_ f3_; subst f4_; subst f5_))
     refine hK.out _ _ ⟨HS0_, HS1_, HS2_, HS3_, HS4_, HS5_, HS6_, HS7_, HS8_, HS9_, HS10_⟩ (fun hHeld => ?_)
     clear hK K
     refine norm_ (a' := ?_) ?_ ?_
     rotate_left
     ·show Act.put _ (some 52) _ = _
      simp only [Act.put, List.setIfInBounds_toArray, List.set_cons_zero, List.set_cons_succ, i64_w, i32_w]
      rfl
     refine pure_ (i := 38) (N := some 53) (v := ?_) (a' := ?_) #[true, true, true, true, true, true, true, true, true, true, true, true, true, true, true, true, true, true, true, true, true, true, true, true, true, true, true, true, true, true, true, true, true, true, true, true, true, true, true, true, false] rfl rfl (any_of HT_.out (by kernel_rfl)) (fun _ _ _ h => h) (Or.inl ⟨by rfl, ?_⟩) ?_ ?_
     rotate_left
     ·intro w'
      go_simp
      with_reducible rfl
     rotate_left
     ·simp only [Act.put, List.setIfInBounds_toArray, List.set_cons_zero, List.set_cons_succ, i64_w, i32_w]
      rfl
     exact norm_ (by simp only [putAll, Act.put, List.setIfInBounds_toArray, List.set_cons_zero, List.set_cons_succ]) (hCont (.slice Ao27 t310.length co27, .slice Ao29 t313.length co29, gb316) _ ⟨hHeld, (by (with_reducible repeat (first | apply Kd.R_alloc | apply Kd.R_drewN | apply Kd.R_drew)); exact Kd.R_mono HO294.out (fun _ hk => ⟨hk.1.1, hk.2⟩)), (by (with_reducible repeat (first | apply Kd.R_alloc | apply Kd.R_drewN | apply Kd.R_drew)); exact Kd.R_mono HO312.out (fun _ hk => ⟨hk.1.1, hk.2⟩)), (by (with_reducible repeat (first | apply Kd.V_alloc | apply Kd.V_drewN | apply Kd.V_drew)); exact HO315.out), (by (with_reducible repeat (first | refine blk_drewN ?_ _ | refine blk_drew ?_ | refine blk_alloc ?_ _)); exact BK290.out), (by (with_reducible repeat (first | refine blk_drewN ?_ _ | refine blk_drew ?_ | refine blk_alloc ?_ _)); exact BK316.out), GW316.out, GE316.out, NB290_316.out, NB316_290.out, (by repeat (first | (with_reducible first | exact HB.out | apply below_alloc | apply pw_below_drewN | apply below_drew1 | refine below_set ?_ GE290.out | refine below_set ?_ GE316.out) | exact HB.out))⟩)
   ·skip
    refine box_step ?hg (N := 6) ?hd (cs := #[.string (⟨#[]⟩ : ByteArray), .string (⟨#[]⟩ : ByteArray), .string (⟨#[]⟩ : ByteArray), .string (⟨#[]⟩ : ByteArray), .string (⟨#[]⟩ : ByteArray), .string (⟨#[]⟩ : ByteArray), .string (⟨#[]⟩ : ByteArray), .string (⟨#[]⟩ : ByteArray), .string (⟨#[]⟩ : ByteArray), .string (⟨#[]⟩ : ByteArray), .slice none 0 0, .bool false]) (t := 47) ?hr ?_; (case hd => rfl); (case hg => rfl); (case hr => first | (go_simp; done) | (go_simp; rfl))
    intro gb316 hg w25 hbox hb
    have HS0_ := (hb.cell (World.block_lt_of_cell? _ _ (hHeld.1))).trans (hHeld.1)
    have HS1_ := (hb.cell (World.block_lt_of_cell? _ _ (hHeld.2.1))).trans (hHeld.2.1)
    have HS2_ := (hb.cell (World.block_lt_of_cell? _ _ (hHeld.2.2.1))).trans (hHeld.2.2.1)
    have HS3_ := (hb.cell (World.block_lt_of_cell? _ _ (hHeld.2.2.2.1))).trans (hHeld.2.2.2.1)
    have HS4_ := (hb.cell (World.block_lt_of_cell? _ _ (hHeld.2.2.2.2.1))).trans (hHeld.2.2.2.2.1)
    have HS5_ := (hb.cell (World.block_lt_of_cell? _ _ (hHeld.2.2.2.2.2.1))).trans (hHeld.2.2.2.2.2.1)
    have HS6_ := (hb.cell (World.block_lt_of_cell? _ _ (hHeld.2.2.2.2.2.2.1))).trans (hHeld.2.2.2.2.2.2.1)
    have HS7_ := (hb.cell (World.block_lt_of_cell? _ _ (hHeld.2.2.2.2.2.2.2.1))).trans (hHeld.2.2.2.2.2.2.2.1)
    have HS8_ := (hb.cell (World.block_lt_of_cell? _ _ (hHeld.2.2.2.2.2.2.2.2.1))).trans (hHeld.2.2.2.2.2.2.2.2.1)
    have HS9_ := (hb.cell (World.block_lt_of_cell? _ _ (hHeld.2.2.2.2.2.2.2.2.2.1))).trans (hHeld.2.2.2.2.2.2.2.2.2.1)
    have HS10_ := (hb.cell (World.block_lt_of_cell? _ _ (hHeld.2.2.2.2.2.2.2.2.2.2))).trans (hHeld.2.2.2.2.2.2.2.2.2.2)
    have n0_ := Aside0.mk (Kd.R_below (by (with_reducible repeat (first | apply Kd.R_alloc | apply Kd.R_drewN | apply Kd.R_drew)); exact HO294.out) hb)
    have n1_ := Aside0.mk (blk_belowB BK290.out (by (with_reducible repeat (first | refine blk_drewN ?_ _ | refine blk_drew ?_ | refine blk_alloc ?_ _)); exact BK290.out) hb)
    have n2_ := Aside0.mk (Kd.C_below (by repeat (first | (with_reducible exact HR309.out) | (with_reducible refine Kd.C_alloc ?_ _) | (with_reducible refine Kd.C_drewN ?_ _) | (with_reducible refine Kd.C_drew ?_) | exact HR309.out)) hb)
    have n3_ := Aside0.mk (below_step (by repeat (first | (with_reducible first | exact HB.out | apply below_alloc | apply pw_below_drewN | apply below_drew1 | refine below_set ?_ GE290.out) | exact HB.out)) hb)
    have n4_ := Aside0.mk (hbox)
    have n5_ := Aside0.mk ((by rw [hg]; exact (below_size (by repeat (first | (with_reducible first | exact HB.out | apply below_alloc | apply pw_below_drewN | apply below_drew1 | refine below_set ?_ GE290.out) | exact HB.out))) : w.heap.size ≤ gb316))
    have n6_ := Aside0.mk ((by rw [hg]; exact (below_size (by repeat (first | (with_reducible first | exact HB.out | apply below_alloc | apply pw_below_drewN | apply below_drew1 | refine below_set ?_ GE290.out) | exact HB.out))) : w.heap.size ≤ gb316))
    have n7_ := Aside0.mk ((by rw [hg]; exact Nat.ne_of_lt (blk_lt (g := gb290) (o := .cells #[.string (⟨#[]⟩ : ByteArray), .string (⟨#[]⟩ : ByteArray), .string (⟨#[]⟩ : ByteArray), .string (⟨#[]⟩ : ByteArray), .string (⟨#[]⟩ : ByteArray), .string (⟨#[]⟩ : ByteArray), .string (⟨#[]⟩ : ByteArray), .string (⟨#[]⟩ : ByteArray), .string (⟨#[]⟩ : ByteArray), .string (⟨#[]⟩ : ByteArray), .slice none 0 0, .bool false] 47 (0, 0)) (by (with_reducible repeat (first | refine blk_drewN ?_ _ | refine blk_drew ?_ | refine blk_alloc ?_ _)); exact BK290.out)) : gb290 ≠ gb316))
    have n8_ := Aside0.mk ((by rw [hg]; exact Nat.ne_of_gt (blk_lt (g := gb290) (o := .cells #[.string (⟨#[]⟩ : ByteArray), .string (⟨#[]⟩ : ByteArray), .string (⟨#[]⟩ : ByteArray), .string (⟨#[]⟩ : ByteArray), .string (⟨#[]⟩ : ByteArray), .string (⟨#[]⟩ : ByteArray), .string (⟨#[]⟩ : ByteArray), .string (⟨#[]⟩ : ByteArray), .string (⟨#[]⟩ : ByteArray), .string (⟨#[]⟩ : ByteArray), .slice none 0 0, .bool false] 47 (0, 0)) (by (with_reducible repeat (first | refine blk_drewN ?_ _ | refine blk_drew ?_ | refine blk_alloc ?_ _)); exact BK290.out)) : gb316 ≠ gb290))
    clear HO294; clear BK290; clear HR309; clear HB
    have HO294 := n0_
    have BK290 := n1_
    have HR309 := n2_
    have HB := n3_
    have BK316 := n4_
    have GW316 := n5_
    have GE316 := n6_
    have NB290_316 := n7_
    have NB316_290 := n8_
    clear n0_ n1_ n2_ n3_ n4_ n5_ n6_ n7_ n8_; clear hb hbox hg
    refine hK.out _ _ ⟨HS0_, HS1_, HS2_, HS3_, HS4_, HS5_, HS6_, HS7_, HS8_, HS9_, HS10_⟩ (fun hHeld => ?_)
    clear hK K
    refine norm_ (a' := ?_) ?_ ?_
    rotate_left
    ·show Act.put _ (some 6) _ = _
     simp only [Act.put, List.setIfInBounds_toArray, List.set_cons_zero, List.set_cons_succ, i64_w, i32_w]
     rfl
    refine one_ (i := 36) (N := some 51) #[true, true, true, true, true, true, true, true, true, true, true, true, true, true, true, true, true, true, true, true, true, true, true, true, true, true, true, true, true, true, true, true, true, true, true, true, true, false, false, true, false] rfl rfl (one_of HT_.out (by kernel_rfl)) (by decide) (fun K hK => ?_)
    refine goes_ Tryd.func38 (by kernel_rfl) rfl #[.slice A24 y306.length c24] (by rfl) rfl rfl (by (try simp only [List.map_toArray, List.map_cons, List.map_nil]); first | done | rfl | (simp only [List.length_drop, List.length_take]; rfl)) ?_
    with_reducible refine (slices_Clone_string_string.calls _ _ y306 t310 _ ?side1 ?side2 A16.out).mono ?_
    (case side1 => repeat (first | exact (by repeat (first | (with_reducible exact HR309.out) | (with_reducible refine Kd.C_alloc ?_ _) | (with_reducible refine Kd.C_drewN ?_ _) | (with_reducible refine Kd.C_drew ?_) | exact HR309.out)) | (with_reducible refine Kd.C_alloc ?_ _) | (with_reducible refine Kd.C_drewN ?_ _) | (with_reducible refine Kd.C_drew ?_)))
    (case side2 => exact HC309.out)
    rintro e w26 ⟨v311, rfl, ho0, hb⟩
    have HS0_ := (hb.cell (World.block_lt_of_cell? _ _ (hHeld.1))).trans (hHeld.1)
    have HS1_ := (hb.cell (World.block_lt_of_cell? _ _ (hHeld.2.1))).trans (hHeld.2.1)
    have HS2_ := (hb.cell (World.block_lt_of_cell? _ _ (hHeld.2.2.1))).trans (hHeld.2.2.1)
    have HS3_ := (hb.cell (World.block_lt_of_cell? _ _ (hHeld.2.2.2.1))).trans (hHeld.2.2.2.1)
    have HS4_ := (hb.cell (World.block_lt_of_cell? _ _ (hHeld.2.2.2.2.1))).trans (hHeld.2.2.2.2.1)
    have HS5_ := (hb.cell (World.block_lt_of_cell? _ _ (hHeld.2.2.2.2.2.1))).trans (hHeld.2.2.2.2.2.1)
    have HS6_ := (hb.cell (World.block_lt_of_cell? _ _ (hHeld.2.2.2.2.2.2.1))).trans (hHeld.2.2.2.2.2.2.1)
    have HS7_ := (hb.cell (World.block_lt_of_cell? _ _ (hHeld.2.2.2.2.2.2.2.1))).trans (hHeld.2.2.2.2.2.2.2.1)
    have HS8_ := (hb.cell (World.block_lt_of_cell? _ _ (hHeld.2.2.2.2.2.2.2.2.1))).trans (hHeld.2.2.2.2.2.2.2.2.1)
    have HS9_ := (hb.cell (World.block_lt_of_cell? _ _ (hHeld.2.2.2.2.2.2.2.2.2.1))).trans (hHeld.2.2.2.2.2.2.2.2.2.1)
    have HS10_ := (hb.cell (World.block_lt_of_cell? _ _ (hHeld.2.2.2.2.2.2.2.2.2.2))).trans (hHeld.2.2.2.2.2.2.2.2.2.2)
    refine ⟨_, rfl, ?_⟩
    have n0_ := Aside0.mk (Kd.R_elder' (by (with_reducible repeat (first | apply Kd.R_alloc | apply Kd.R_drewN | apply Kd.R_drew)); exact HO294.out) (Kd.R_base ho0) hb)
    have n1_ := Aside0.mk (Kd.R_lower (Kd.R_new' (Kd.R_newM (M := fun k_ => (w.heap.size ≤ k_)) ho0 (below_size (by repeat (first | (with_reducible first | exact HB.out | apply below_alloc | apply pw_below_drewN | apply below_drew1 | refine below_set ?_ GE290.out | refine below_set ?_ GE316.out) | exact HB.out))) (fun k_ h_ => h_)) (Kd.R_lt (by (with_reducible repeat (first | apply Kd.R_alloc | apply Kd.R_drewN | apply Kd.R_drew)); exact HO294.out))) (below_size (by repeat (first | (with_reducible first | exact HB.out | apply below_alloc | apply pw_below_drewN | apply below_drew1 | refine below_set ?_ GE290.out | refine below_set ?_ GE316.out) | exact HB.out))))
    have n2_ := Aside0.mk (blk_belowB BK290.out (by (with_reducible repeat (first | refine blk_drewN ?_ _ | refine blk_drew ?_ | refine blk_alloc ?_ _)); exact BK290.out) hb)
    have n3_ := Aside0.mk (Kd.C_below (by repeat (first | (with_reducible exact HR309.out) | (with_reducible refine Kd.C_alloc ?_ _) | (with_reducible refine Kd.C_drewN ?_ _) | (with_reducible refine Kd.C_drew ?_) | exact HR309.out)) hb)
    have n4_ := Aside0.mk (blk_belowB BK316.out (by (with_reducible repeat (first | refine blk_drewN ?_ _ | refine blk_drew ?_ | refine blk_alloc ?_ _)); exact BK316.out) hb)
    have n5_ := Aside0.mk (below_step (by repeat (first | (with_reducible first | exact HB.out | apply below_alloc | apply pw_below_drewN | apply below_drew1 | refine below_set ?_ GE290.out | refine below_set ?_ GE316.out) | exact HB.out)) hb)
    clear HO294; clear BK290; clear HR309; clear BK316; clear HB
    have HO294 := n0_
    have HO312 := n1_
    have BK290 := n2_
    have HR309 := n3_
    have BK316 := n4_
    have HB := n5_
    clear n0_ n1_ n2_ n3_ n4_ n5_; (try clear hb); (try clear hb2); (try clear hk); (try clear hi); (try clear ho0)
    obtain ⟨Ao27, co27, eo27⟩ := Kd.R_slice HO312.out
    (first | subst eo27 | (injection eo27 with f1_ f2_ f3_; have f4_ := f1_.symm; have f5_ := f3_.symm; clear f1_ f2_ f3_; subst f4_; subst f5_))
    refine hK.out _ _ ⟨HS0_, HS1_, HS2_, HS3_, HS4_, HS5_, HS6_, HS7_, HS8_, HS9_, HS10_⟩ (fun hHeld => ?_)
    clear hK K
    refine norm_ (a' := ?_) ?_ ?_
    rotate_left
    ·show Act.put _ (some 51) _ = _
     simp only [Act.put, List.setIfInBounds_toArray, List.set_cons_zero, List.set_cons_succ, i64_w, i32_w]
     rfl
    refine one_ (i := 37) (N := some 52) #[true, true, true, true, true, true, true, true, true, true, true, true, true, true, true, true, true, true, true, true, true, true, true, true, true, true, true, true, true, true, true, true, true, true, true, true, true, true, false, true, false] rfl rfl (one_of HT_.out (by kernel_rfl)) (by decide) (fun K hK => ?_)
    refine goes_ Tryd.func37 (by kernel_rfl) rfl #[.slice Ao27 t310.length co27] (by rfl) rfl rfl (by (try simp only [List.map_toArray, List.map_cons, List.map_nil]); first | done | rfl | (simp only [List.length_drop, List.length_take]; rfl)) ?_
    with_reducible refine (slices_Clip_string_string.calls (fun k_ => some k_ = (.slice Ao27 t310.length co27 : Value).ownBlock) _ _ t310 t313 _ ?side1 A17.out).mono ?_
    (case side1 => exact Kd.R_V (Kd.R_tight rfl (Kd.R_types (Kd.R_types (HO312.out) BK290.out (by decide)) BK316.out (by decide))))
    rintro e w28 ⟨v314, rfl, ho0, hb⟩
    have HS0_ := (hb.cell (World.block_lt_of_cell? _ _ (hHeld.1))).trans (hHeld.1)
    have HS1_ := (hb.cell (World.block_lt_of_cell? _ _ (hHeld.2.1))).trans (hHeld.2.1)
    have HS2_ := (hb.cell (World.block_lt_of_cell? _ _ (hHeld.2.2.1))).trans (hHeld.2.2.1)
    have HS3_ := (hb.cell (World.block_lt_of_cell? _ _ (hHeld.2.2.2.1))).trans (hHeld.2.2.2.1)
    have HS4_ := (hb.cell (World.block_lt_of_cell? _ _ (hHeld.2.2.2.2.1))).trans (hHeld.2.2.2.2.1)
    have HS5_ := (hb.cell (World.block_lt_of_cell? _ _ (hHeld.2.2.2.2.2.1))).trans (hHeld.2.2.2.2.2.1)
    have HS6_ := (hb.cell (World.block_lt_of_cell? _ _ (hHeld.2.2.2.2.2.2.1))).trans (hHeld.2.2.2.2.2.2.1)
    have HS7_ := (hb.cell (World.block_lt_of_cell? _ _ (hHeld.2.2.2.2.2.2.2.1))).trans (hHeld.2.2.2.2.2.2.2.1)
    have HS8_ := (hb.cell (World.block_lt_of_cell? _ _ (hHeld.2.2.2.2.2.2.2.2.1))).trans (hHeld.2.2.2.2.2.2.2.2.1)
    have HS9_ := (hb.cell (World.block_lt_of_cell? _ _ (hHeld.2.2.2.2.2.2.2.2.2.1))).trans (hHeld.2.2.2.2.2.2.2.2.2.1)
    have HS10_ := (hb.cell (World.block_lt_of_cell? _ _ (hHeld.2.2.2.2.2.2.2.2.2.2))).trans (hHeld.2.2.2.2.2.2.2.2.2.2)
    refine ⟨_, rfl, ?_⟩
    have n0_ := Aside0.mk (Kd.R_below (by (with_reducible repeat (first | apply Kd.R_alloc | apply Kd.R_drewN | apply Kd.R_drew)); exact HO294.out) hb)
    have n1_ := Aside0.mk (Kd.R_below (by (with_reducible repeat (first | apply Kd.R_alloc | apply Kd.R_drewN | apply Kd.R_drew)); exact HO312.out) hb)
    have n2_ := Aside0.mk (Kd.V_lower (Kd.V_mono (ok' := fun k_ => (w.heap.size ≤ k_) ∧ some k_ ≠ (.slice (some ad295) t291.length co23 : Value).ownBlock ∧ k_ ≠ gb290 ∧ k_ ≠ gb316) ho0 (fun k_ hk_ => ⟨Or.elim hk_ (fun hs_ => ((Kd.R_types (Kd.R_types (HO312.out) BK290.out (by decide)) BK316.out (by decide)).1 k_ hs_.symm).1.1.1.1) (fun hn_ => (Nat.le_trans (below_size (by repeat (first | (with_reducible first | exact HB.out | apply below_alloc | apply pw_below_drewN | apply below_drew1 | refine below_set ?_ GE290.out | refine below_set ?_ GE316.out) | exact HB.out))) hn_)), Or.elim hk_ (fun hs_ => ((Kd.R_types (Kd.R_types (HO312.out) BK290.out (by decide)) BK316.out (by decide)).1 k_ hs_.symm).1.1.2) (fun hn_ => (Kd.fresh' (Kd.R_lt (by (with_reducible repeat (first | apply Kd.R_alloc | apply Kd.R_drewN | apply Kd.R_drew)); exact HO294.out)) k_ hn_)), Or.elim hk_ (fun hs_ => ((Kd.R_types (Kd.R_types (HO312.out) BK290.out (by decide)) BK316.out (by decide)).1 k_ hs_.symm).1.2) (fun hn_ => (Kd.freshB (g := gb290) (o := .cells #[.string (⟨#[]⟩ : ByteArray), .string (⟨#[]⟩ : ByteArray), .string (⟨#[]⟩ : ByteArray), .string (⟨#[]⟩ : ByteArray), .string (⟨#[]⟩ : ByteArray), .string (⟨#[]⟩ : ByteArray), .string (⟨#[]⟩ : ByteArray), .string (⟨#[]⟩ : ByteArray), .string (⟨#[]⟩ : ByteArray), .string (⟨#[]⟩ : ByteArray), .slice none 0 0, .bool false] 47 (0, 0)) (by (with_reducible repeat (first | refine blk_drewN ?_ _ | refine blk_drew ?_ | refine blk_alloc ?_ _)); exact BK290.out) k_ hn_)), Or.elim hk_ (fun hs_ => ((Kd.R_types (Kd.R_types (HO312.out) BK290.out (by decide)) BK316.out (by decide)).1 k_ hs_.symm).2) (fun hn_ => (Kd.freshB (g := gb316) (o := .cells #[.string (⟨#[]⟩ : ByteArray), .string (⟨#[]⟩ : ByteArray), .string (⟨#[]⟩ : ByteArray), .string (⟨#[]⟩ : ByteArray), .string (⟨#[]⟩ : ByteArray), .string (⟨#[]⟩ : ByteArray), .string (⟨#[]⟩ : ByteArray), .string (⟨#[]⟩ : ByteArray), .string (⟨#[]⟩ : ByteArray), .string (⟨#[]⟩ : ByteArray), .slice none 0 0, .bool false] 47 (0, 0)) (by (with_reducible repeat (first | refine blk_drewN ?_ _ | refine blk_drew ?_ | refine blk_alloc ?_ _)); exact BK316.out) k_ hn_))⟩)) (below_size (by repeat (first | (with_reducible first | exact HB.out | apply below_alloc | apply pw_below_drewN | apply below_drew1 | refine below_set ?_ GE290.out | refine below_set ?_ GE316.out) | exact HB.out))))
    have n3_ := Aside0.mk (blk_belowB BK290.out (by (with_reducible repeat (first | refine blk_drewN ?_ _ | refine blk_drew ?_ | refine blk_alloc ?_ _)); exact BK290.out) hb)
    have n4_ := Aside0.mk (Kd.C_below (by repeat (first | (with_reducible exact HR309.out) | (with_reducible refine Kd.C_alloc ?_ _) | (with_reducible refine Kd.C_drewN ?_ _) | (with_reducible refine Kd.C_drew ?_) | exact HR309.out)) hb)
    have n5_ := Aside0.mk (blk_belowB BK316.out (by (with_reducible repeat (first | refine blk_drewN ?_ _ | refine blk_drew ?_ | refine blk_alloc ?_ _)); exact BK316.out) hb)
    have n6_ := Aside0.mk (below_step (by repeat (first | (with_reducible first | exact HB.out | apply below_alloc | apply pw_below_drewN | apply below_drew1 | refine below_set ?_ GE290.out | refine below_set ?_ GE316.out) | exact HB.out)) hb)
    clear HO294; clear HO312; clear BK290; clear HR309; clear BK316; clear HB
    have HO294 := n0_
    have HO312 := n1_
    have HO315 := n2_
    have BK290 := n3_
    have HR309 := n4_
    have BK316 := n5_
    have HB := n6_
    clear n0_ n1_ n2_ n3_ n4_ n5_ n6_; (try clear hb); (try clear hb2); (try clear hk); (try clear hi); (try clear ho0)
    obtain ⟨Ao29, co29, eo29⟩ := Kd.V_slice HO315.out
    (first | subst eo29 | (injection eo29 with f1_ f2_ f3_; have f4_ := f1_.symm; have f5_ := f3_.symm; clear f1_ f2_ f3_; subst f4_; subst f5_))
    refine hK.out _ _ ⟨HS0_, HS1_, HS2_, HS3_, HS4_, HS5_, HS6_, HS7_, HS8_, HS9_, HS10_⟩ (fun hHeld => ?_)
    clear hK K
    refine norm_ (a' := ?_) ?_ ?_
    rotate_left
    ·show Act.put _ (some 52) _ = _
     simp only [Act.put, List.setIfInBounds_toArray, List.set_cons_zero, List.set_cons_succ, i64_w, i32_w]
     rfl
    refine pure_ (i := 38) (N := some 53) (v := ?_) (a' := ?_) #[true, true, true, true, true, true, true, true, true, true, true, true, true, true, true, true, true, true, true, true, true, true, true, true, true, true, true, true, true, true, true, true, true, true, true, true, true, true, true, true, false] rfl rfl (any_of HT_.out (by kernel_rfl)) (fun _ _ _ h => h) (Or.inl ⟨by rfl, ?_⟩) ?_ ?_
    rotate_left
    ·intro w'
     go_simp
     with_reducible rfl
    rotate_left
    ·simp only [Act.put, List.setIfInBounds_toArray, List.set_cons_zero, List.set_cons_succ, i64_w, i32_w]
     rfl
    exact norm_ (by simp only [putAll, Act.put, List.setIfInBounds_toArray, List.set_cons_zero, List.set_cons_succ]) (hCont (.slice Ao27 t310.length co27, .slice Ao29 t313.length co29, gb316) _ ⟨hHeld, (by (with_reducible repeat (first | apply Kd.R_alloc | apply Kd.R_drewN | apply Kd.R_drew)); exact Kd.R_mono HO294.out (fun _ hk => ⟨hk.1.1, hk.2⟩)), (by (with_reducible repeat (first | apply Kd.R_alloc | apply Kd.R_drewN | apply Kd.R_drew)); exact Kd.R_mono HO312.out (fun _ hk => ⟨hk.1.1, hk.2⟩)), (by (with_reducible repeat (first | apply Kd.V_alloc | apply Kd.V_drewN | apply Kd.V_drew)); exact HO315.out), (by (with_reducible repeat (first | refine blk_drewN ?_ _ | refine blk_drew ?_ | refine blk_alloc ?_ _)); exact BK290.out), (by (with_reducible repeat (first | refine blk_drewN ?_ _ | refine blk_drew ?_ | refine blk_alloc ?_ _)); exact BK316.out), GW316.out, GE316.out, NB290_316.out, NB316_290.out, (by repeat (first | (with_reducible first | exact HB.out | apply below_alloc | apply pw_below_drewN | apply below_drew1 | refine below_set ?_ GE290.out | refine below_set ?_ GE316.out) | exact HB.out))⟩)
  rintro ⟨v311, v314, gb316⟩ w30 ⟨hS_, h0_, h1_, h2_, h3_, h4_, h5_, h6_, h7_, h8_, h9_⟩
  have n0_ : Aside0 (Kd.R Kd.string 9 w30 w.heap.size (fun k_ => (w.heap.size ≤ k_) ∧ some k_ ≠ (v311 : Value).ownBlock) (.slice (some ad295) t291.length co23) t291) := ⟨h0_⟩
  have n1_ : Aside0 (Kd.R Kd.string 9 w30 w.heap.size (fun k_ => (w.heap.size ≤ k_) ∧ some k_ ≠ (.slice (some ad295) t291.length co23 : Value).ownBlock) v311 t310) := ⟨h1_⟩
  have n2_ : Aside0 (Kd.V Kd.string 9 w30 w.heap.size (fun k_ => (w.heap.size ≤ k_) ∧ some k_ ≠ (.slice (some ad295) t291.length co23 : Value).ownBlock ∧ k_ ≠ gb290 ∧ k_ ≠ gb316) v314 t313) := ⟨h2_⟩
  have n3_ : Aside0 (w30.heap[gb290]? = some (.cells #[.string (⟨#[]⟩ : ByteArray), .string (⟨#[]⟩ : ByteArray), .string (⟨#[]⟩ : ByteArray), .string (⟨#[]⟩ : ByteArray), .string (⟨#[]⟩ : ByteArray), .string (⟨#[]⟩ : ByteArray), .string (⟨#[]⟩ : ByteArray), .string (⟨#[]⟩ : ByteArray), .string (⟨#[]⟩ : ByteArray), .string (⟨#[]⟩ : ByteArray), .slice none 0 0, .bool false] 47 (0, 0))) := ⟨h3_⟩
  have n4_ : Aside0 (w30.heap[gb316]? = some (.cells #[.string (⟨#[]⟩ : ByteArray), .string (⟨#[]⟩ : ByteArray), .string (⟨#[]⟩ : ByteArray), .string (⟨#[]⟩ : ByteArray), .string (⟨#[]⟩ : ByteArray), .string (⟨#[]⟩ : ByteArray), .string (⟨#[]⟩ : ByteArray), .string (⟨#[]⟩ : ByteArray), .string (⟨#[]⟩ : ByteArray), .string (⟨#[]⟩ : ByteArray), .slice none 0 0, .bool false] 47 (0, 0))) := ⟨h4_⟩
  have n5_ : Aside0 (w.heap.size ≤ gb316) := ⟨h5_⟩
  have n6_ : Aside0 (w.heap.size ≤ gb316) := ⟨h6_⟩
  have n7_ : Aside0 (gb290 ≠ gb316) := ⟨h7_⟩
  have n8_ : Aside0 (gb316 ≠ gb290) := ⟨h8_⟩
  have n9_ : Aside0 (Below w.heap.size w w30) := ⟨h9_⟩
  clear HO294; clear BK290; clear HB; clear h0_ h1_ h2_ h3_ h4_ h5_ h6_ h7_ h8_ h9_
  have HO294 := n0_
  have HO312 := n1_
  have HO315 := n2_
  have BK290 := n3_
  have BK316 := n4_
  have GW316 := n5_
  have GE316 := n6_
  have NB290_316 := n7_
  have NB316_290 := n8_
  have HB := n9_
  clear n0_ n1_ n2_ n3_ n4_ n5_ n6_ n7_ n8_ n9_
  have hHeld : w30.cell? ad295 = some (.string (rdOf ByteArray.empty t291 0)) ∧ w30.cell? ⟨ad295.block, ad295.off + 1, none⟩ = some (.string (rdOf ByteArray.empty t291 1)) ∧ w30.cell? ⟨ad295.block, ad295.off + 2, none⟩ = some (.string (rdOf ByteArray.empty t291 2)) ∧ w30.cell? ⟨ad295.block, ad295.off + 3, none⟩ = some (.string (rdOf ByteArray.empty t291 3)) ∧ w30.cell? ⟨ad295.block, ad295.off + 4, none⟩ = some (.string (rdOf ByteArray.empty t291 4)) ∧ w30.cell? ⟨ad295.block, ad295.off + 5, none⟩ = some (.string (rdOf ByteArray.empty t291 5)) ∧ w30.cell? ⟨ad295.block, ad295.off + 6, none⟩ = some (.string (rdOf ByteArray.empty t291 6)) ∧ w30.cell? ⟨ad295.block, ad295.off + 7, none⟩ = some (.string (rdOf ByteArray.empty t291 7)) ∧ w30.cell? ⟨ad295.block, ad295.off + 8, none⟩ = some (.string (rdOf ByteArray.empty t291 8)) ∧ w30.cell? ⟨ad295.block, ad295.off + 9, none⟩ = some (.string (rdOf ByteArray.empty t291 9)) ∧ w30.cell? ⟨ad295.block, ad295.off + 10, none⟩ = some (.string (rdOf ByteArray.empty t291 10)) := hS_
  obtain ⟨Ao31, co31, eo31⟩ := Kd.V_slice HO315.out
  (first | subst eo31 | (injection eo31 with f1_ f2_ f3_; have f4_ := f1_.symm; have f5_ := f3_.symm; clear f1_ f2_ f3_; subst f4_; subst f5_))
  refine norm_ (a' := ?_) ?_ ?_
  rotate_left
  ·simp only [putAll, Act.put, List.setIfInBounds_toArray, List.set_cons_zero, List.set_cons_succ]
   rfl
  refine one_ (i := 40) (N := none) #[true, true, true, true, true, true, true, true, true, true, true, true, true, true, true, true, true, true, true, true, true, true, true, true, true, true, true, true, true, true, true, true, true, true, true, true, true, true, true, true, true] rfl rfl (one_of HT_.out (by kernel_rfl)) (by decide) (fun K hK => ?_)
  have hs32 : w30.cell? ⟨gb316, 0, none⟩ = some (.string (⟨#[]⟩ : ByteArray)) := (blk_cell BK316.out 0).trans rfl
  have hfs32 := blk_frozen BK316.out 0
  have hns32_0 := NB290_316.out
  have hms32_0 := NB316_290.out
  have hs33 : w30.cell? ⟨gb316, 1, none⟩ = some (.string (⟨#[]⟩ : ByteArray)) := (blk_cell BK316.out 1).trans rfl
  have hfs33 := blk_frozen BK316.out 1
  have hns33_0 := NB290_316.out
  have hms33_0 := NB316_290.out
  have hs34 : w30.cell? ⟨gb316, 2, none⟩ = some (.string (⟨#[]⟩ : ByteArray)) := (blk_cell BK316.out 2).trans rfl
  have hfs34 := blk_frozen BK316.out 2
  have hns34_0 := NB290_316.out
  have hms34_0 := NB316_290.out
  have hs35 : w30.cell? ⟨gb316, 3, none⟩ = some (.string (⟨#[]⟩ : ByteArray)) := (blk_cell BK316.out 3).trans rfl
  have hfs35 := blk_frozen BK316.out 3
  have hns35_0 := NB290_316.out
  have hms35_0 := NB316_290.out
  have hs36 : w30.cell? ⟨gb316, 4, none⟩ = some (.string (⟨#[]⟩ : ByteArray)) := (blk_cell BK316.out 4).trans rfl
  have hfs36 := blk_frozen BK316.out 4
  have hns36_0 := NB290_316.out
  have hms36_0 := NB316_290.out
  have hs37 : w30.cell? ⟨gb316, 5, none⟩ = some (.string (⟨#[]⟩ : ByteArray)) := (blk_cell BK316.out 5).trans rfl
  have hfs37 := blk_frozen BK316.out 5
  have hns37_0 := NB290_316.out
  have hms37_0 := NB316_290.out
  have hs38 : w30.cell? ⟨gb316, 6, none⟩ = some (.string (⟨#[]⟩ : ByteArray)) := (blk_cell BK316.out 6).trans rfl
  have hfs38 := blk_frozen BK316.out 6
  have hns38_0 := NB290_316.out
  have hms38_0 := NB316_290.out
  have hs39 : w30.cell? ⟨gb316, 7, none⟩ = some (.string (⟨#[]⟩ : ByteArray)) := (blk_cell BK316.out 7).trans rfl
  have hfs39 := blk_frozen BK316.out 7
  have hns39_0 := NB290_316.out
  have hms39_0 := NB316_290.out
  have hs40 : w30.cell? ⟨gb316, 8, none⟩ = some (.string (⟨#[]⟩ : ByteArray)) := (blk_cell BK316.out 8).trans rfl
  have hfs40 := blk_frozen BK316.out 8
  have hns40_0 := NB290_316.out
  have hms40_0 := NB316_290.out
  have hs41 : w30.cell? ⟨gb316, 9, none⟩ = some (.string (⟨#[]⟩ : ByteArray)) := (blk_cell BK316.out 9).trans rfl
  have hfs41 := blk_frozen BK316.out 9
  have hns41_0 := NB290_316.out
  have hms41_0 := NB316_290.out
  have hs42 : w30.cell? ⟨gb316, 10, none⟩ = some (.slice none 0 0) := (blk_cell BK316.out 10).trans rfl
  have hfs42 := blk_frozen BK316.out 10
  have hns42_0 := NB290_316.out
  have hms42_0 := NB316_290.out
  have hs43 : w30.cell? ⟨gb316, 11, none⟩ = some (.bool false) := (blk_cell BK316.out 11).trans rfl
  have hfs43 := blk_frozen BK316.out 11
  have hns43_0 := NB290_316.out
  have hms43_0 := NB316_290.out
  refine skip_ (w1 := ?_) (by rfl) rfl ?_ ?_
  rotate_left
  ·go_simp
   rfl
  have hne0_ := Kd.own_blk (Kd.R_ne HO294.out BK316.out (by decide))
  refine hK.out _ _ ⟨(cfar (cfar (cfar (cfar (cfar (cfar (cfar (cfar (cfar (cfar (cfar (cfar hHeld.1 hne0_) hne0_) hne0_) hne0_) hne0_) hne0_) hne0_) hne0_) hne0_) hne0_) hne0_) hne0_), (cfar (cfar (cfar (cfar (cfar (cfar (cfar (cfar (cfar (cfar (cfar (cfar hHeld.2.1 hne0_) hne0_) hne0_) hne0_) hne0_) hne0_) hne0_) hne0_) hne0_) hne0_) hne0_) hne0_), (cfar (cfar (cfar (cfar (cfar (cfar (cfar (cfar (cfar (cfar (cfar (cfar hHeld.2.2.1 hne0_) hne0_) hne0_) hne0_) hne0_) hne0_) hne0_) hne0_) hne0_) hne0_) hne0_) hne0_), (cfar (cfar (cfar (cfar (cfar (cfar (cfar (cfar (cfar (cfar (cfar (cfar hHeld.2.2.2.1 hne0_) hne0_) hne0_) hne0_) hne0_) hne0_) hne0_) hne0_) hne0_) hne0_) hne0_) hne0_), (cfar (cfar (cfar (cfar (cfar (cfar (cfar (cfar (cfar (cfar (cfar (cfar hHeld.2.2.2.2.1 hne0_) hne0_) hne0_) hne0_) hne0_) hne0_) hne0_) hne0_) hne0_) hne0_) hne0_) hne0_), (cfar (cfar (cfar (cfar (cfar (cfar (cfar (cfar (cfar (cfar (cfar (cfar hHeld.2.2.2.2.2.1 hne0_) hne0_) hne0_) hne0_) hne0_) hne0_) hne0_) hne0_) hne0_) hne0_) hne0_) hne0_), (cfar (cfar (cfar (cfar (cfar (cfar (cfar (cfar (cfar (cfar (cfar (cfar hHeld.2.2.2.2.2.2.1 hne0_) hne0_) hne0_) hne0_) hne0_) hne0_) hne0_) hne0_) hne0_) hne0_) hne0_) hne0_), (cfar (cfar (cfar (cfar (cfar (cfar (cfar (cfar (cfar (cfar (cfar (cfar hHeld.2.2.2.2.2.2.2.1 hne0_) hne0_) hne0_) hne0_) hne0_) hne0_) hne0_) hne0_) hne0_) hne0_) hne0_) hne0_), (cfar (cfar (cfar (cfar (cfar (cfar (cfar (cfar (cfar (cfar (cfar (cfar hHeld.2.2.2.2.2.2.2.2.1 hne0_) hne0_) hne0_) hne0_) hne0_) hne0_) hne0_) hne0_) hne0_) hne0_) hne0_) hne0_), (cfar (cfar (cfar (cfar (cfar (cfar (cfar (cfar (cfar (cfar (cfar (cfar hHeld.2.2.2.2.2.2.2.2.2.1 hne0_) hne0_) hne0_) hne0_) hne0_) hne0_) hne0_) hne0_) hne0_) hne0_) hne0_) hne0_), (cfar (cfar (cfar (cfar (cfar (cfar (cfar (cfar (cfar (cfar (cfar (cfar hHeld.2.2.2.2.2.2.2.2.2.2 hne0_) hne0_) hne0_) hne0_) hne0_) hne0_) hne0_) hne0_) hne0_) hne0_) hne0_) hne0_)⟩ (fun hHeld => ?_)
  (try clear hne0_); clear hK K
  refine done_ (done_of HT_.out (by kernel_rfl)) ?_
  have H := HH_.out
  clear HH_
  by_cases c19 : t317.toList = a0.toList
  ·rw [if_pos c19] at H
   have c19b0 : (t317.toList == a0.toList) = true := beq_iff_eq.mpr c19
   have c19b1 : (t317.toList != a0.toList) = false := bne_eq_false_iff_eq.mpr c19
   clear c19
   simp only [Option.some.injEq, Prod.mk.injEq] at H
   obtain ⟨rfl, rfl, rfl, rfl, rfl, rfl, rfl, rfl, rfl, rfl, rfl, rfl, rfl⟩ := H
   have hnb44 := NB316_290.out
   have hnc44 := NB290_316.out
   obtain ⟨hcz45_0, hcz45_1, hcz45_2, hcz45_3, hcz45_4, hcz45_5, hcz45_6, hcz45_7, hcz45_8, hcz45_9, hcz45_10, hcz45_11⟩ := cells12 BK316.out
   obtain ⟨hfz45_0, hfz45_1, hfz45_2, hfz45_3, hfz45_4, hfz45_5, hfz45_6, hfz45_7, hfz45_8, hfz45_9, hfz45_10, hfz45_11⟩ := froz12 BK316.out
   try go_wp2_with (first | ((with_reducible refine gate_callee (f := 23) rfl ?_); refine goesL_ (some 55) rfl rfl Tryd.func23 (by kernel_rfl) rfl #[.agg #[.string (rdOf ByteArray.empty t291 0), .string (rdOf ByteArray.empty t291 1), .string (rdOf ByteArray.empty t291 2), .string (rdOf ByteArray.empty t291 3), .string (rdOf ByteArray.empty t291 4), .string (rdOf ByteArray.empty t291 5), .string (rdOf ByteArray.empty t291 6), .string (rdOf ByteArray.empty t291 7), .string (rdOf ByteArray.empty t291 8), .string (rdOf ByteArray.empty t291 9), .slice Ao31 t313.length co31, .bool ((rdOf ByteArray.empty t291 10).toList == ([49] : List UInt8))]] rfl (by (try simp only [List.map_toArray, List.map_cons, List.map_nil]); first | done | rfl | (simp only [List.length_drop, List.length_take]; rfl)) ?_; (with_reducible refine (row_FamilyC.calls (rdOf ByteArray.empty t291 0) (rdOf ByteArray.empty t291 1) (rdOf ByteArray.empty t291 2) (rdOf ByteArray.empty t291 3) (rdOf ByteArray.empty t291 4) (rdOf ByteArray.empty t291 5) (rdOf ByteArray.empty t291 6) (rdOf ByteArray.empty t291 7) (rdOf ByteArray.empty t291 8) (rdOf ByteArray.empty t291 9) _ _ t313 ((rdOf ByteArray.empty t291 10).toList == ([49] : List UInt8)) t317 _ ?side1 ?side2 A18.out).mono ?_); (case side1 => refine (Kd.V_reads' (e := 9) (base := w.heap.size) (ok := fun k_ => ((w.heap.size ≤ k_) ∧ (some k_ ≠ (.slice (some ad295) t291.length co23 : Value).ownBlock ∧ (k_ ≠ gb290 ∧ k_ ≠ gb316)))) (n := t313.length) (c := co31) ?_).2.2; exact (by (with_reducible repeat (first | apply Kd.V_alloc | apply Kd.V_drewN | apply Kd.V_drew)); exact (Kd.V_mono (Kd.V_far (p := ⟨gb316, 11, none⟩) (Kd.V_far (p := ⟨gb316, 10, none⟩) (Kd.V_far (p := ⟨gb316, 9, none⟩) (Kd.V_far (p := ⟨gb316, 8, none⟩) (Kd.V_far (p := ⟨gb316, 7, none⟩) (Kd.V_far (p := ⟨gb316, 6, none⟩) (Kd.V_far (p := ⟨gb316, 5, none⟩) (Kd.V_far (p := ⟨gb316, 4, none⟩) (Kd.V_far (p := ⟨gb316, 3, none⟩) (Kd.V_far (p := ⟨gb316, 2, none⟩) (Kd.V_far (p := ⟨gb316, 1, none⟩) (Kd.V_far (p := ⟨gb316, 0, none⟩) (Kd.V_mono HO315.out (fun k_ hk => (⟨hk, hk.2.2.2⟩ : _ ∧ k_ ≠ gb316))) (fun _ hk => hk.2) (.string (rdOf ByteArray.empty t291 0))) (fun _ hk => hk.2) (.string (rdOf ByteArray.empty t291 1))) (fun _ hk => hk.2) (.string (rdOf ByteArray.empty t291 2))) (fun _ hk => hk.2) (.string (rdOf ByteArray.empty t291 3))) (fun _ hk => hk.2) (.string (rdOf ByteArray.empty t291 4))) (fun _ hk => hk.2) (.string (rdOf ByteArray.empty t291 5))) (fun _ hk => hk.2) (.string (rdOf ByteArray.empty t291 6))) (fun _ hk => hk.2) (.string (rdOf ByteArray.empty t291 7))) (fun _ hk => hk.2) (.string (rdOf ByteArray.empty t291 8))) (fun _ hk => hk.2) (.string (rdOf ByteArray.empty t291 9))) (fun _ hk => hk.2) (.slice Ao31 t313.length co31)) (fun _ hk => hk.2) (.bool ((rdOf ByteArray.empty t291 10).toList == ([49] : List UInt8)))) (fun _ h_ => h_.1)))); (case side2 => exact (Kd.V_reads' HO315.out).2.1); rintro e w46 ⟨rfl, hb⟩; refine ⟨_, rfl, ?_⟩; have n0_ := Aside0.mk (Kd.R_below (by (with_reducible repeat (first | apply Kd.R_alloc | apply Kd.R_drewN | apply Kd.R_drew)); exact (Kd.R_mono (Kd.R_far (p := ⟨gb316, 11, none⟩) (Kd.R_far (p := ⟨gb316, 10, none⟩) (Kd.R_far (p := ⟨gb316, 9, none⟩) (Kd.R_far (p := ⟨gb316, 8, none⟩) (Kd.R_far (p := ⟨gb316, 7, none⟩) (Kd.R_far (p := ⟨gb316, 6, none⟩) (Kd.R_far (p := ⟨gb316, 5, none⟩) (Kd.R_far (p := ⟨gb316, 4, none⟩) (Kd.R_far (p := ⟨gb316, 3, none⟩) (Kd.R_far (p := ⟨gb316, 2, none⟩) (Kd.R_far (p := ⟨gb316, 1, none⟩) (Kd.R_far (p := ⟨gb316, 0, none⟩) (Kd.R_types HO294.out BK316.out (by decide)) (fun _ hk => hk.2) (.string (rdOf ByteArray.empty t291 0))) (fun _ hk => hk.2) (.string (rdOf ByteArray.empty t291 1))) (fun _ hk => hk.2) (.string (rdOf ByteArray.empty t291 2))) (fun _ hk => hk.2) (.string (rdOf ByteArray.empty t291 3))) (fun _ hk => hk.2) (.string (rdOf ByteArray.empty t291 4))) (fun _ hk => hk.2) (.string (rdOf ByteArray.empty t291 5))) (fun _ hk => hk.2) (.string (rdOf ByteArray.empty t291 6))) (fun _ hk => hk.2) (.string (rdOf ByteArray.empty t291 7))) (fun _ hk => hk.2) (.string (rdOf ByteArray.empty t291 8))) (fun _ hk => hk.2) (.string (rdOf ByteArray.empty t291 9))) (fun _ hk => hk.2) (.slice Ao31 t313.length co31)) (fun _ hk => hk.2) (.bool ((rdOf ByteArray.empty t291 10).toList == ([49] : List UInt8)))) (fun _ h_ => h_.1))) hb); have n1_ := Aside0.mk (Kd.R_below (by (with_reducible repeat (first | apply Kd.R_alloc | apply Kd.R_drewN | apply Kd.R_drew)); exact (Kd.R_mono (Kd.R_far (p := ⟨gb316, 11, none⟩) (Kd.R_far (p := ⟨gb316, 10, none⟩) (Kd.R_far (p := ⟨gb316, 9, none⟩) (Kd.R_far (p := ⟨gb316, 8, none⟩) (Kd.R_far (p := ⟨gb316, 7, none⟩) (Kd.R_far (p := ⟨gb316, 6, none⟩) (Kd.R_far (p := ⟨gb316, 5, none⟩) (Kd.R_far (p := ⟨gb316, 4, none⟩) (Kd.R_far (p := ⟨gb316, 3, none⟩) (Kd.R_far (p := ⟨gb316, 2, none⟩) (Kd.R_far (p := ⟨gb316, 1, none⟩) (Kd.R_far (p := ⟨gb316, 0, none⟩) (Kd.R_types HO312.out BK316.out (by decide)) (fun _ hk => hk.2) (.string (rdOf ByteArray.empty t291 0))) (fun _ hk => hk.2) (.string (rdOf ByteArray.empty t291 1))) (fun _ hk => hk.2) (.string (rdOf ByteArray.empty t291 2))) (fun _ hk => hk.2) (.string (rdOf ByteArray.empty t291 3))) (fun _ hk => hk.2) (.string (rdOf ByteArray.empty t291 4))) (fun _ hk => hk.2) (.string (rdOf ByteArray.empty t291 5))) (fun _ hk => hk.2) (.string (rdOf ByteArray.empty t291 6))) (fun _ hk => hk.2) (.string (rdOf ByteArray.empty t291 7))) (fun _ hk => hk.2) (.string (rdOf ByteArray.empty t291 8))) (fun _ hk => hk.2) (.string (rdOf ByteArray.empty t291 9))) (fun _ hk => hk.2) (.slice Ao31 t313.length co31)) (fun _ hk => hk.2) (.bool ((rdOf ByteArray.empty t291 10).toList == ([49] : List UInt8)))) (fun _ h_ => h_.1))) hb); have n2_ := Aside0.mk (Kd.V_below (by (with_reducible repeat (first | apply Kd.V_alloc | apply Kd.V_drewN | apply Kd.V_drew)); exact (Kd.V_mono (Kd.V_far (p := ⟨gb316, 11, none⟩) (Kd.V_far (p := ⟨gb316, 10, none⟩) (Kd.V_far (p := ⟨gb316, 9, none⟩) (Kd.V_far (p := ⟨gb316, 8, none⟩) (Kd.V_far (p := ⟨gb316, 7, none⟩) (Kd.V_far (p := ⟨gb316, 6, none⟩) (Kd.V_far (p := ⟨gb316, 5, none⟩) (Kd.V_far (p := ⟨gb316, 4, none⟩) (Kd.V_far (p := ⟨gb316, 3, none⟩) (Kd.V_far (p := ⟨gb316, 2, none⟩) (Kd.V_far (p := ⟨gb316, 1, none⟩) (Kd.V_far (p := ⟨gb316, 0, none⟩) (Kd.V_mono HO315.out (fun k_ hk => (⟨hk, hk.2.2.2⟩ : _ ∧ k_ ≠ gb316))) (fun _ hk => hk.2) (.string (rdOf ByteArray.empty t291 0))) (fun _ hk => hk.2) (.string (rdOf ByteArray.empty t291 1))) (fun _ hk => hk.2) (.string (rdOf ByteArray.empty t291 2))) (fun _ hk => hk.2) (.string (rdOf ByteArray.empty t291 3))) (fun _ hk => hk.2) (.string (rdOf ByteArray.empty t291 4))) (fun _ hk => hk.2) (.string (rdOf ByteArray.empty t291 5))) (fun _ hk => hk.2) (.string (rdOf ByteArray.empty t291 6))) (fun _ hk => hk.2) (.string (rdOf ByteArray.empty t291 7))) (fun _ hk => hk.2) (.string (rdOf ByteArray.empty t291 8))) (fun _ hk => hk.2) (.string (rdOf ByteArray.empty t291 9))) (fun _ hk => hk.2) (.slice Ao31 t313.length co31)) (fun _ hk => hk.2) (.bool ((rdOf ByteArray.empty t291 10).toList == ([49] : List UInt8)))) (fun _ h_ => h_.1))) hb); have n3_ := Aside0.mk (blk_belowB BK290.out (by (with_reducible repeat (first | refine blk_drewN ?_ _ | refine blk_drew ?_ | refine blk_alloc ?_ _)); refine blk_far (blk_far (blk_far (blk_far (blk_far (blk_far (blk_far (blk_far (blk_far (blk_far (blk_far (blk_far ?_ NB290_316.out _) NB290_316.out _) NB290_316.out _) NB290_316.out _) NB290_316.out _) NB290_316.out _) NB290_316.out _) NB290_316.out _) NB290_316.out _) NB290_316.out _) NB290_316.out _) NB290_316.out _; (with_reducible repeat (first | refine blk_drewN ?_ _ | refine blk_drew ?_ | refine blk_alloc ?_ _)); exact BK290.out) hb); have n4_ := Aside0.mk (blk_below (g := gb316) (o := .cells #[.string (rdOf ByteArray.empty t291 0), .string (rdOf ByteArray.empty t291 1), .string (rdOf ByteArray.empty t291 2), .string (rdOf ByteArray.empty t291 3), .string (rdOf ByteArray.empty t291 4), .string (rdOf ByteArray.empty t291 5), .string (rdOf ByteArray.empty t291 6), .string (rdOf ByteArray.empty t291 7), .string (rdOf ByteArray.empty t291 8), .string (rdOf ByteArray.empty t291 9), .slice Ao31 t313.length co31, .bool ((rdOf ByteArray.empty t291 10).toList == ([49] : List UInt8))] 47 (0, 0)) (by (with_reducible repeat (first | refine blk_drewN ?_ _ | refine blk_drew ?_ | refine blk_alloc ?_ _)); refine fillR (cs := ?cs_) rfl rfl ?h_ ?l_; (case h_ => (with_reducible repeat (first | refine blk_drewN ?_ _ | refine blk_drew ?_ | refine blk_alloc ?_ _)); exact BK316.out); (case l_ => rfl)) hb); have n5_ := Aside0.mk (below_step (by repeat (first | (with_reducible first | exact HB.out | apply below_alloc | apply pw_below_drewN | apply below_drew1 | refine below_set ?_ GE290.out | refine below_set ?_ GE316.out) | exact HB.out)) hb); clear HO294; clear HO312; clear HO315; clear BK290; clear BK316; clear HB; have HO294 := n0_; have HO312 := n1_; have HO315 := n2_; have BK290 := n3_; have BK316 := n4_; have HB := n5_; clear n0_ n1_ n2_ n3_ n4_ n5_; (try clear hb); (try clear hb2); (try clear hk); (try clear hi); obtain ⟨hcz47_0, hcz47_1, hcz47_2, hcz47_3, hcz47_4, hcz47_5, hcz47_6, hcz47_7, hcz47_8, hcz47_9, hcz47_10, hcz47_11⟩ := cells12 BK316.out; obtain ⟨hfz47_0, hfz47_1, hfz47_2, hfz47_3, hfz47_4, hfz47_5, hfz47_6, hfz47_7, hfz47_8, hfz47_9, hfz47_10, hfz47_11⟩ := froz12 BK316.out; obtain ⟨hcz48_0, hcz48_1, hcz48_2, hcz48_3, hcz48_4, hcz48_5, hcz48_6, hcz48_7, hcz48_8, hcz48_9, hcz48_10, hcz48_11⟩ := cells12 BK290.out; obtain ⟨hfz48_0, hfz48_1, hfz48_2, hfz48_3, hfz48_4, hfz48_5, hfz48_6, hfz48_7, hfz48_8, hfz48_9, hfz48_10, hfz48_11⟩ := froz12 BK290.out))
   refine bodyPost_ret (results_ct rfl _ _ gb290 47 #[.string (rdOf ByteArray.empty t291 0), .string (rdOf ByteArray.empty t291 1), .string (rdOf ByteArray.empty t291 2), .string (rdOf ByteArray.empty t291 3), .string (rdOf ByteArray.empty t291 4), .string (rdOf ByteArray.empty t291 5), .string (rdOf ByteArray.empty t291 6), .string (rdOf ByteArray.empty t291 7), .string (rdOf ByteArray.empty t291 8), .string (rdOf ByteArray.empty t291 9), .slice Ao31 t313.length co31, .bool ((rdOf ByteArray.empty t291 10).toList == ([49] : List UInt8))] (0, 0) _ rfl (by (with_reducible repeat (first | refine blk_drewN ?_ _ | refine blk_drew ?_ | refine blk_alloc ?_ _)); refine fillR (cs := ?cs2_) rfl rfl ?h2_ ?l2_; (case h2_ => (with_reducible repeat (first | refine blk_drewN ?_ _ | refine blk_drew ?_ | refine blk_alloc ?_ _)); exact BK290.out); (case l2_ => rfl)) Tryd.underlying47 rfl (by kernel_rfl)) rfl ?_
   exact ⟨_, by first | rfl | (simp [errW_none, errW_some] <;> rfl) | (simp [*, errW_none, errW_some] <;> rfl), by (with_reducible repeat (first | apply Kd.V_alloc | apply Kd.V_drewN | apply Kd.V_drew)); exact Kd.V_mono (Kd.V_far (p := ⟨gb290, 11, none⟩) (Kd.V_far (p := ⟨gb290, 10, none⟩) (Kd.V_far (p := ⟨gb290, 9, none⟩) (Kd.V_far (p := ⟨gb290, 8, none⟩) (Kd.V_far (p := ⟨gb290, 7, none⟩) (Kd.V_far (p := ⟨gb290, 6, none⟩) (Kd.V_far (p := ⟨gb290, 5, none⟩) (Kd.V_far (p := ⟨gb290, 4, none⟩) (Kd.V_far (p := ⟨gb290, 3, none⟩) (Kd.V_far (p := ⟨gb290, 2, none⟩) (Kd.V_far (p := ⟨gb290, 1, none⟩) (Kd.V_far (p := ⟨gb290, 0, none⟩) (Kd.V_mono HO315.out (fun k_ hk => (⟨hk, hk.2.2.1⟩ : _ ∧ k_ ≠ gb290))) (fun _ hk => hk.2) (.string (rdOf ByteArray.empty t291 0))) (fun _ hk => hk.2) (.string (rdOf ByteArray.empty t291 1))) (fun _ hk => hk.2) (.string (rdOf ByteArray.empty t291 2))) (fun _ hk => hk.2) (.string (rdOf ByteArray.empty t291 3))) (fun _ hk => hk.2) (.string (rdOf ByteArray.empty t291 4))) (fun _ hk => hk.2) (.string (rdOf ByteArray.empty t291 5))) (fun _ hk => hk.2) (.string (rdOf ByteArray.empty t291 6))) (fun _ hk => hk.2) (.string (rdOf ByteArray.empty t291 7))) (fun _ hk => hk.2) (.string (rdOf ByteArray.empty t291 8))) (fun _ hk => hk.2) (.string (rdOf ByteArray.empty t291 9))) (fun _ hk => hk.2) (.slice Ao31 t313.length co31)) (fun _ hk => hk.2) (.bool ((rdOf ByteArray.empty t291 10).toList == ([49] : List UInt8)))) (fun _ hk => hk.1.1), by repeat (first | (with_reducible first | exact HB.out | apply below_alloc | apply pw_below_drewN | apply below_drew1 | refine below_set ?_ GE290.out | refine below_set ?_ GE316.out) | exact HB.out)⟩
  ·rw [if_neg c19] at H
   have c19b0 : (t317.toList == a0.toList) = false := beq_eq_false_iff_ne.mpr c19
   have c19b1 : (t317.toList != a0.toList) = true := bne_iff_ne.mpr c19
   simp only [Option.some.injEq, Prod.mk.injEq] at H
   obtain ⟨rfl, rfl, rfl, rfl, rfl, rfl, rfl, rfl, rfl, rfl, rfl, rfl, rfl⟩ := H
   have hnb73 := NB316_290.out
   have hnc73 := NB290_316.out
   obtain ⟨hcz74_0, hcz74_1, hcz74_2, hcz74_3, hcz74_4, hcz74_5, hcz74_6, hcz74_7, hcz74_8, hcz74_9, hcz74_10, hcz74_11⟩ := cells12 BK316.out
   obtain ⟨hfz74_0, hfz74_1, hfz74_2, hfz74_3, hfz74_4, hfz74_5, hfz74_6, hfz74_7, hfz74_8, hfz74_9, hfz74_10, hfz74_11⟩ := froz12 BK316.out
   try go_wp2_with (first | ((with_reducible refine gate_callee (f := 23) rfl ?_); refine goesL_ (some 55) rfl rfl Tryd.func23 (by kernel_rfl) rfl #[.agg #[.string (rdOf ByteArray.empty t291 0), .string (rdOf ByteArray.empty t291 1), .string (rdOf ByteArray.empty t291 2), .string (rdOf ByteArray.empty t291 3), .string (rdOf ByteArray.empty t291 4), .string (rdOf ByteArray.empty t291 5), .string (rdOf ByteArray.empty t291 6), .string (rdOf ByteArray.empty t291 7), .string (rdOf ByteArray.empty t291 8), .string (rdOf ByteArray.empty t291 9), .slice Ao31 t313.length co31, .bool ((rdOf ByteArray.empty t291 10).toList == ([49] : List UInt8))]] rfl (by (try simp only [List.map_toArray, List.map_cons, List.map_nil]); first | done | rfl | (simp only [List.length_drop, List.length_take]; rfl)) ?_; (with_reducible refine (row_FamilyC.calls (rdOf ByteArray.empty t291 0) (rdOf ByteArray.empty t291 1) (rdOf ByteArray.empty t291 2) (rdOf ByteArray.empty t291 3) (rdOf ByteArray.empty t291 4) (rdOf ByteArray.empty t291 5) (rdOf ByteArray.empty t291 6) (rdOf ByteArray.empty t291 7) (rdOf ByteArray.empty t291 8) (rdOf ByteArray.empty t291 9) _ _ t313 ((rdOf ByteArray.empty t291 10).toList == ([49] : List UInt8)) t317 _ ?side1 ?side2 A18.out).mono ?_); (case side1 => refine (Kd.V_reads' (e := 9) (base := w.heap.size) (ok := fun k_ => ((w.heap.size ≤ k_) ∧ (some k_ ≠ (.slice (some ad295) t291.length co23 : Value).ownBlock ∧ (k_ ≠ gb290 ∧ k_ ≠ gb316)))) (n := t313.length) (c := co31) ?_).2.2; exact (by (with_reducible repeat (first | apply Kd.V_alloc | apply Kd.V_drewN | apply Kd.V_drew)); exact (Kd.V_mono (Kd.V_far (p := ⟨gb316, 11, none⟩) (Kd.V_far (p := ⟨gb316, 10, none⟩) (Kd.V_far (p := ⟨gb316, 9, none⟩) (Kd.V_far (p := ⟨gb316, 8, none⟩) (Kd.V_far (p := ⟨gb316, 7, none⟩) (Kd.V_far (p := ⟨gb316, 6, none⟩) (Kd.V_far (p := ⟨gb316, 5, none⟩) (Kd.V_far (p := ⟨gb316, 4, none⟩) (Kd.V_far (p := ⟨gb316, 3, none⟩) (Kd.V_far (p := ⟨gb316, 2, none⟩) (Kd.V_far (p := ⟨gb316, 1, none⟩) (Kd.V_far (p := ⟨gb316, 0, none⟩) (Kd.V_mono HO315.out (fun k_ hk => (⟨hk, hk.2.2.2⟩ : _ ∧ k_ ≠ gb316))) (fun _ hk => hk.2) (.string (rdOf ByteArray.empty t291 0))) (fun _ hk => hk.2) (.string (rdOf ByteArray.empty t291 1))) (fun _ hk => hk.2) (.string (rdOf ByteArray.empty t291 2))) (fun _ hk => hk.2) (.string (rdOf ByteArray.empty t291 3))) (fun _ hk => hk.2) (.string (rdOf ByteArray.empty t291 4))) (fun _ hk => hk.2) (.string (rdOf ByteArray.empty t291 5))) (fun _ hk => hk.2) (.string (rdOf ByteArray.empty t291 6))) (fun _ hk => hk.2) (.string (rdOf ByteArray.empty t291 7))) (fun _ hk => hk.2) (.string (rdOf ByteArray.empty t291 8))) (fun _ hk => hk.2) (.string (rdOf ByteArray.empty t291 9))) (fun _ hk => hk.2) (.slice Ao31 t313.length co31)) (fun _ hk => hk.2) (.bool ((rdOf ByteArray.empty t291 10).toList == ([49] : List UInt8)))) (fun _ h_ => h_.1)))); (case side2 => exact (Kd.V_reads' HO315.out).2.1); rintro e w75 ⟨rfl, hb⟩; refine ⟨_, rfl, ?_⟩; have n0_ := Aside0.mk (Kd.R_below (by (with_reducible repeat (first | apply Kd.R_alloc | apply Kd.R_drewN | apply Kd.R_drew)); exact (Kd.R_mono (Kd.R_far (p := ⟨gb316, 11, none⟩) (Kd.R_far (p := ⟨gb316, 10, none⟩) (Kd.R_far (p := ⟨gb316, 9, none⟩) (Kd.R_far (p := ⟨gb316, 8, none⟩) (Kd.R_far (p := ⟨gb316, 7, none⟩) (Kd.R_far (p := ⟨gb316, 6, none⟩) (Kd.R_far (p := ⟨gb316, 5, none⟩) (Kd.R_far (p := ⟨gb316, 4, none⟩) (Kd.R_far (p := ⟨gb316, 3, none⟩) (Kd.R_far (p := ⟨gb316, 2, none⟩) (Kd.R_far (p := ⟨gb316, 1, none⟩) (Kd.R_far (p := ⟨gb316, 0, none⟩) (Kd.R_types HO294.out BK316.out (by decide)) (fun _ hk => hk.2) (.string (rdOf ByteArray.empty t291 0))) (fun _ hk => hk.2) (.string (rdOf ByteArray.empty t291 1))) (fun _ hk => hk.2) (.string (rdOf ByteArray.empty t291 2))) (fun _ hk => hk.2) (.string (rdOf ByteArray.empty t291 3))) (fun _ hk => hk.2) (.string (rdOf ByteArray.empty t291 4))) (fun _ hk => hk.2) (.string (rdOf ByteArray.empty t291 5))) (fun _ hk => hk.2) (.string (rdOf ByteArray.empty t291 6))) (fun _ hk => hk.2) (.string (rdOf ByteArray.empty t291 7))) (fun _ hk => hk.2) (.string (rdOf ByteArray.empty t291 8))) (fun _ hk => hk.2) (.string (rdOf ByteArray.empty t291 9))) (fun _ hk => hk.2) (.slice Ao31 t313.length co31)) (fun _ hk => hk.2) (.bool ((rdOf ByteArray.empty t291 10).toList == ([49] : List UInt8)))) (fun _ h_ => h_.1))) hb); have n1_ := Aside0.mk (Kd.R_below (by (with_reducible repeat (first | apply Kd.R_alloc | apply Kd.R_drewN | apply Kd.R_drew)); exact (Kd.R_mono (Kd.R_far (p := ⟨gb316, 11, none⟩) (Kd.R_far (p := ⟨gb316, 10, none⟩) (Kd.R_far (p := ⟨gb316, 9, none⟩) (Kd.R_far (p := ⟨gb316, 8, none⟩) (Kd.R_far (p := ⟨gb316, 7, none⟩) (Kd.R_far (p := ⟨gb316, 6, none⟩) (Kd.R_far (p := ⟨gb316, 5, none⟩) (Kd.R_far (p := ⟨gb316, 4, none⟩) (Kd.R_far (p := ⟨gb316, 3, none⟩) (Kd.R_far (p := ⟨gb316, 2, none⟩) (Kd.R_far (p := ⟨gb316, 1, none⟩) (Kd.R_far (p := ⟨gb316, 0, none⟩) (Kd.R_types HO312.out BK316.out (by decide)) (fun _ hk => hk.2) (.string (rdOf ByteArray.empty t291 0))) (fun _ hk => hk.2) (.string (rdOf ByteArray.empty t291 1))) (fun _ hk => hk.2) (.string (rdOf ByteArray.empty t291 2))) (fun _ hk => hk.2) (.string (rdOf ByteArray.empty t291 3))) (fun _ hk => hk.2) (.string (rdOf ByteArray.empty t291 4))) (fun _ hk => hk.2) (.string (rdOf ByteArray.empty t291 5))) (fun _ hk => hk.2) (.string (rdOf ByteArray.empty t291 6))) (fun _ hk => hk.2) (.string (rdOf ByteArray.empty t291 7))) (fun _ hk => hk.2) (.string (rdOf ByteArray.empty t291 8))) (fun _ hk => hk.2) (.string (rdOf ByteArray.empty t291 9))) (fun _ hk => hk.2) (.slice Ao31 t313.length co31)) (fun _ hk => hk.2) (.bool ((rdOf ByteArray.empty t291 10).toList == ([49] : List UInt8)))) (fun _ h_ => h_.1))) hb); have n2_ := Aside0.mk (Kd.V_below (by (with_reducible repeat (first | apply Kd.V_alloc | apply Kd.V_drewN | apply Kd.V_drew)); exact (Kd.V_mono (Kd.V_far (p := ⟨gb316, 11, none⟩) (Kd.V_far (p := ⟨gb316, 10, none⟩) (Kd.V_far (p := ⟨gb316, 9, none⟩) (Kd.V_far (p := ⟨gb316, 8, none⟩) (Kd.V_far (p := ⟨gb316, 7, none⟩) (Kd.V_far (p := ⟨gb316, 6, none⟩) (Kd.V_far (p := ⟨gb316, 5, none⟩) (Kd.V_far (p := ⟨gb316, 4, none⟩) (Kd.V_far (p := ⟨gb316, 3, none⟩) (Kd.V_far (p := ⟨gb316, 2, none⟩) (Kd.V_far (p := ⟨gb316, 1, none⟩) (Kd.V_far (p := ⟨gb316, 0, none⟩) (Kd.V_mono HO315.out (fun k_ hk => (⟨hk, hk.2.2.2⟩ : _ ∧ k_ ≠ gb316))) (fun _ hk => hk.2) (.string (rdOf ByteArray.empty t291 0))) (fun _ hk => hk.2) (.string (rdOf ByteArray.empty t291 1))) (fun _ hk => hk.2) (.string (rdOf ByteArray.empty t291 2))) (fun _ hk => hk.2) (.string (rdOf ByteArray.empty t291 3))) (fun _ hk => hk.2) (.string (rdOf ByteArray.empty t291 4))) (fun _ hk => hk.2) (.string (rdOf ByteArray.empty t291 5))) (fun _ hk => hk.2) (.string (rdOf ByteArray.empty t291 6))) (fun _ hk => hk.2) (.string (rdOf ByteArray.empty t291 7))) (fun _ hk => hk.2) (.string (rdOf ByteArray.empty t291 8))) (fun _ hk => hk.2) (.string (rdOf ByteArray.empty t291 9))) (fun _ hk => hk.2) (.slice Ao31 t313.length co31)) (fun _ hk => hk.2) (.bool ((rdOf ByteArray.empty t291 10).toList == ([49] : List UInt8)))) (fun _ h_ => h_.1))) hb); have n3_ := Aside0.mk (blk_belowB BK290.out (by (with_reducible repeat (first | refine blk_drewN ?_ _ | refine blk_drew ?_ | refine blk_alloc ?_ _)); refine blk_far (blk_far (blk_far (blk_far (blk_far (blk_far (blk_far (blk_far (blk_far (blk_far (blk_far (blk_far ?_ NB290_316.out _) NB290_316.out _) NB290_316.out _) NB290_316.out _) NB290_316.out _) NB290_316.out _) NB290_316.out _) NB290_316.out _) NB290_316.out _) NB290_316.out _) NB290_316.out _) NB290_316.out _; (with_reducible repeat (first | refine blk_drewN ?_ _ | refine blk_drew ?_ | refine blk_alloc ?_ _)); exact BK290.out) hb); have n4_ := Aside0.mk (blk_below (g := gb316) (o := .cells #[.string (rdOf ByteArray.empty t291 0), .string (rdOf ByteArray.empty t291 1), .string (rdOf ByteArray.empty t291 2), .string (rdOf ByteArray.empty t291 3), .string (rdOf ByteArray.empty t291 4), .string (rdOf ByteArray.empty t291 5), .string (rdOf ByteArray.empty t291 6), .string (rdOf ByteArray.empty t291 7), .string (rdOf ByteArray.empty t291 8), .string (rdOf ByteArray.empty t291 9), .slice Ao31 t313.length co31, .bool ((rdOf ByteArray.empty t291 10).toList == ([49] : List UInt8))] 47 (0, 0)) (by (with_reducible repeat (first | refine blk_drewN ?_ _ | refine blk_drew ?_ | refine blk_alloc ?_ _)); refine fillR (cs := ?cs3_) rfl rfl ?h3_ ?l3_; (case h3_ => (with_reducible repeat (first | refine blk_drewN ?_ _ | refine blk_drew ?_ | refine blk_alloc ?_ _)); exact BK316.out); (case l3_ => rfl)) hb); have n5_ := Aside0.mk (below_step (by repeat (first | (with_reducible first | exact HB.out | apply below_alloc | apply pw_below_drewN | apply below_drew1 | refine below_set ?_ GE290.out | refine below_set ?_ GE316.out) | exact HB.out)) hb); clear HO294; clear HO312; clear HO315; clear BK290; clear BK316; clear HB; have HO294 := n0_; have HO312 := n1_; have HO315 := n2_; have BK290 := n3_; have BK316 := n4_; have HB := n5_; clear n0_ n1_ n2_ n3_ n4_ n5_; (try clear hb); (try clear hb2); (try clear hk); (try clear hi); obtain ⟨hcz76_0, hcz76_1, hcz76_2, hcz76_3, hcz76_4, hcz76_5, hcz76_6, hcz76_7, hcz76_8, hcz76_9, hcz76_10, hcz76_11⟩ := cells12 BK290.out; obtain ⟨hfz76_0, hfz76_1, hfz76_2, hfz76_3, hfz76_4, hfz76_5, hfz76_6, hfz76_7, hfz76_8, hfz76_9, hfz76_10, hfz76_11⟩ := froz12 BK290.out))
   refine bodyPost_ret (results_ct rfl _ _ gb290 47 #[.string (⟨#[]⟩ : ByteArray), .string (⟨#[]⟩ : ByteArray), .string (⟨#[]⟩ : ByteArray), .string (⟨#[]⟩ : ByteArray), .string (⟨#[]⟩ : ByteArray), .string (⟨#[]⟩ : ByteArray), .string (⟨#[]⟩ : ByteArray), .string (⟨#[]⟩ : ByteArray), .string (⟨#[]⟩ : ByteArray), .string (⟨#[]⟩ : ByteArray), .slice none 0 0, .bool false] (0, 0) _ rfl (by (with_reducible repeat (first | refine blk_drewN ?_ _ | refine blk_drew ?_ | refine blk_alloc ?_ _)); refine fillR (cs := ?cs4_) rfl rfl ?h4_ ?l4_; (case h4_ => (with_reducible repeat (first | refine blk_drewN ?_ _ | refine blk_drew ?_ | refine blk_alloc ?_ _)); exact BK290.out); (case l4_ => rfl)) Tryd.underlying47 rfl (by kernel_rfl)) rfl ?_
   exact ⟨_, by first | rfl | (simp [errW_none, errW_some] <;> rfl) | (simp [*, errW_none, errW_some] <;> rfl), Kd.V_nil _ _ _ _ _, by repeat (first | (with_reducible first | exact HB.out | apply below_alloc | apply pw_below_drewN | apply below_drew1 | refine below_set ?_ GE290.out | refine below_set ?_ GE316.out) | exact HB.out)⟩
 ·replace c3 := Bool.eq_false_iff.mpr c3
  subst c3
  have H1 : (some ((⟨#[]⟩ : ByteArray), (⟨#[]⟩ : ByteArray), (⟨#[]⟩ : ByteArray), (⟨#[]⟩ : ByteArray), (⟨#[]⟩ : ByteArray), (⟨#[]⟩ : ByteArray), (⟨#[]⟩ : ByteArray), (⟨#[]⟩ : ByteArray), (⟨#[]⟩ : ByteArray), (⟨#[]⟩ : ByteArray), ([] : List ByteArray), false, 2)) = some (r1, r2, r3, r4, r5, r6, r7, r8, r9, r10, r11, r12, r13) := by rw [if_neg (show ¬ (false = true) by decide)] at H; exact H
  clear H
  have H := H1
  clear H1
  simp only [Option.some.injEq, Prod.mk.injEq] at H
  obtain ⟨rfl, rfl, rfl, rfl, rfl, rfl, rfl, rfl, rfl, rfl, rfl, rfl, rfl⟩ := H
  go_enter Tryd.func24, Tryd.ntmps24
  go_wp2_with (first | ((with_reducible refine gate_dst (N := 2) rfl ?_); refine box_event ?hg (N := 2) ?hd (cs := #[.string (⟨#[]⟩ : ByteArray), .string (⟨#[]⟩ : ByteArray), .string (⟨#[]⟩ : ByteArray), .string (⟨#[]⟩ : ByteArray), .string (⟨#[]⟩ : ByteArray), .string (⟨#[]⟩ : ByteArray), .string (⟨#[]⟩ : ByteArray), .string (⟨#[]⟩ : ByteArray), .string (⟨#[]⟩ : ByteArray), .string (⟨#[]⟩ : ByteArray), .slice none 0 0, .bool false]) (t := 47) ?hr ?_; (case hd => rfl); (case hg => rfl); (case hr => first | (go_simp; done) | (go_simp; rfl)); intro gb290 hg w77 hbox hb; have n0_ := Aside0.mk (below_step (by repeat (first | (with_reducible first | exact HB.out | apply below_alloc | apply pw_below_drewN | apply below_drew1) | exact HB.out)) hb); have n1_ := Aside0.mk (hbox); have n2_ := Aside0.mk ((by rw [hg]; exact (below_size (by repeat (first | (with_reducible first | exact HB.out | apply below_alloc | apply pw_below_drewN | apply below_drew1) | exact HB.out))) : w.heap.size ≤ gb290)); have n3_ := Aside0.mk ((by rw [hg]; exact (below_size (by repeat (first | (with_reducible first | exact HB.out | apply below_alloc | apply pw_below_drewN | apply below_drew1) | exact HB.out))) : w.heap.size ≤ gb290)); clear HB; have HB := n0_; have BK290 := n1_; have GW290 := n2_; have GE290 := n3_; clear n0_ n1_ n2_ n3_; clear hb hbox hg) | ((with_reducible refine gate_callee (f := 33) rfl ?_); refine goesL_ (some 9) rfl rfl Tryd.func33 (by kernel_rfl) rfl #[.string a0, .int .i64 11] rfl (by (try simp only [List.map_toArray, List.map_cons, List.map_nil]); first | done | rfl | (simp only [List.length_drop, List.length_take]; rfl)) ?_; (with_reducible refine (row_fields.calls a0 11 t291 false _ A2.out).mono ?_); rintro e w78 ⟨v293, rfl, ho0, hb⟩; refine ⟨_, rfl, ?_⟩; have n0_ := Aside0.mk (Kd.R_lower (Kd.R_newM (M := fun k_ => (w.heap.size ≤ k_)) ho0 (below_size (by repeat (first | (with_reducible first | exact HB.out | apply below_alloc | apply pw_below_drewN | apply below_drew1 | refine below_set ?_ GE290.out) | exact HB.out))) (fun k_ h_ => h_)) (below_size (by repeat (first | (with_reducible first | exact HB.out | apply below_alloc | apply pw_below_drewN | apply below_drew1 | refine below_set ?_ GE290.out) | exact HB.out)))); have n1_ := Aside0.mk (blk_belowB BK290.out (by (with_reducible repeat (first | refine blk_drewN ?_ _ | refine blk_drew ?_ | refine blk_alloc ?_ _)); exact BK290.out) hb); have n2_ := Aside0.mk (below_step (by repeat (first | (with_reducible first | exact HB.out | apply below_alloc | apply pw_below_drewN | apply below_drew1 | refine below_set ?_ GE290.out) | exact HB.out)) hb); clear BK290; clear HB; have HO294 := n0_; have BK290 := n1_; have HB := n2_; clear n0_ n1_ n2_; (try clear hb); (try clear hb2); (try clear hk); (try clear hi); (try clear ho0); obtain ⟨hcz79_0, hcz79_1, hcz79_2, hcz79_3, hcz79_4, hcz79_5, hcz79_6, hcz79_7, hcz79_8, hcz79_9, hcz79_10, hcz79_11⟩ := cells12 BK290.out; obtain ⟨hfz79_0, hfz79_1, hfz79_2, hfz79_3, hfz79_4, hfz79_5, hfz79_6, hfz79_7, hfz79_8, hfz79_9, hfz79_10, hfz79_11⟩ := froz12 BK290.out))
  refine bodyPost_ret (results_ct rfl _ _ gb290 47 #[.string (⟨#[]⟩ : ByteArray), .string (⟨#[]⟩ : ByteArray), .string (⟨#[]⟩ : ByteArray), .string (⟨#[]⟩ : ByteArray), .string (⟨#[]⟩ : ByteArray), .string (⟨#[]⟩ : ByteArray), .string (⟨#[]⟩ : ByteArray), .string (⟨#[]⟩ : ByteArray), .string (⟨#[]⟩ : ByteArray), .string (⟨#[]⟩ : ByteArray), .slice none 0 0, .bool false] (0, 0) _ rfl (by (with_reducible repeat (first | refine blk_drewN ?_ _ | refine blk_drew ?_ | refine blk_alloc ?_ _)); refine fillR (cs := ?cs5_) rfl rfl ?h5_ ?l5_; (case h5_ => (with_reducible repeat (first | refine blk_drewN ?_ _ | refine blk_drew ?_ | refine blk_alloc ?_ _)); exact BK290.out); (case l5_ => rfl)) Tryd.underlying47 rfl (by kernel_rfl)) rfl ?_
  exact ⟨_, by first | rfl | (simp [errW_none, errW_some] <;> rfl) | (simp [*, errW_none, errW_some] <;> rfl), Kd.V_nil _ _ _ _ _, by repeat (first | (with_reducible first | exact HB.out | apply below_alloc | apply pw_below_drewN | apply below_drew1 | refine below_set ?_ GE290.out) | exact HB.out)⟩

end Go.Proofs.YtkjheoilidpckaaDoor.X
