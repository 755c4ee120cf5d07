-- Lean text made by xprint.py (ours) out of the seat's translation. Lean checks it.
import Derived.Test.YtjfajkdamechiaaDoorX0
import Derived.Test.YtjfajkdamechiaaDoorX8
import Derived.Test.YtjfajkdamechiaaDoorX9
import Derived.Test.YtjfajkdamechiaaDoorHSmall
namespace Go.Proofs.YtjfajkdamechiaaDoor.X
open Go.RowKit Go.Proofs.YtjfajkdamechiaaDoorW.PrintWords Go.Proofs.YtjfajkdamechiaaDoorW.PrintLast Go.Proofs.YtjfajkdamechiaaDoorW.PrintMore
attribute [local go_sem] max2_int min2_int max_two min_two max_three min_three max_four min_four   -- for this text's walks alone
set_option linter.unusedVariables false
set_option linter.unusedSimpArgs false

/-! ### exequaturlaw24_ScriptLine: function 5 -/
def exequaturlaw24_ScriptLine.f (k : Nat) (l0 : List (S36)) (a1 : Int) (a2 : Int) : Option (Bool) := (exequaturlaw24_small.f l0).bind fun t202 => (if t202 = true then ((some (([(⟨#[]⟩ : ByteArray), (⟨#[49]⟩ : ByteArray), (⟨#[49, 32, 48, 32, 120, 32, 120, 32, 120, 32, 120, 32, 120, 32, 120, 32, 120, 32, 120, 32, 120]⟩ : ByteArray), (⟨#[48, 49, 32, 48, 32, 120, 32, 120, 32, 120, 32, 120, 32, 120, 32, 120, 32, 120, 32, 120, 32, 120, 32, 120]⟩ : ByteArray), (⟨#[49, 32, 43, 48, 32, 120, 32, 120, 32, 120, 32, 120, 32, 120, 32, 120, 32, 120, 32, 120, 32, 120, 32, 120]⟩ : ByteArray), (⟨#[49, 32, 48, 32, 120, 32, 120, 32, 120, 32, 120, 32, 120, 32, 120, 32, 120, 32, 120, 32, 120, 32, 120, 61]⟩ : ByteArray), (⟨#[49, 32, 48, 32, 120, 32, 120, 32, 120, 32, 120, 32, 120, 32, 120, 32, 120, 32, 120, 32, 120, 32, 120, 65]⟩ : ByteArray), (⟨#[49, 32, 48, 32, 120, 32, 120, 32, 120, 32, 120, 32, 120, 32, 120, 32, 120, 32, 120, 32, 120]⟩ : ByteArray), (⟨#[49, 32, 48, 32, 32, 120, 32, 120, 32, 120, 32, 120, 32, 120, 32, 120, 32, 120, 32, 120, 32, 120, 32, 120]⟩ : ByteArray), (⟨#[49, 32, 48, 32, 120, 32, 120, 32, 120, 32, 120, 32, 120, 32, 120, 32, 120, 32, 120, 32, 120, 32, 121]⟩ : ByteArray), (⟨#[120, 32, 48, 32, 120, 32, 120, 32, 120, 32, 120, 32, 120, 32, 120, 32, 120, 32, 120, 32, 120, 32, 120]⟩ : ByteArray)] : List ByteArray) : List ByteArray)).bind fun y204 => (if (wrap64 ((l0.length : Int) + 1)) = 0 then (none) else (if 0 ≤ (Int.tmod (wrap64 (a1)) (wrap64 ((l0.length : Int) + 1))) then (if (Int.tmod (wrap64 (a1)) (wrap64 ((l0.length : Int) + 1))) ≤ (l0.length : Int) then ((exequaturlaw24_text.f k (l0.take ((Int.tmod (wrap64 (a1)) (wrap64 ((l0.length : Int) + 1))) : Int).toNat)).bind fun t211 => (if 0 ≤ (Int.tmod a2 11) then (if (Int.tmod a2 11) < (y204.length : Int) then (if t211.size + (rdOf ByteArray.empty y204 (Int.tmod a2 11)).size ≤ 9223372036854775807 then (if (t211 ++ (rdOf ByteArray.empty y204 (Int.tmod a2 11))).size + 1 ≤ 9223372036854775807 then ((exequaturlaw24_text.f k (l0.drop ((Int.tmod (wrap64 (a1)) (wrap64 ((l0.length : Int) + 1))) : Int).toNat)).bind fun t217 => (if ((t211 ++ (rdOf ByteArray.empty y204 (Int.tmod a2 11))) ++ (⟨#[10]⟩ : ByteArray)).size + t217.size ≤ 9223372036854775807 then ((script_Parse.f k (((t211 ++ (rdOf ByteArray.empty y204 (Int.tmod a2 11))) ++ (⟨#[10]⟩ : ByteArray)) ++ t217)).bind fun bt218 => ((exequaturlaw24_answers.f k).bind fun t223 => (if t223 = true then (if bt218.2.2 = 11 then (if bt218.2.1 = (wrap64 ((Int.tmod (wrap64 (a1)) (wrap64 ((l0.length : Int) + 1))) + 1)) then (some ((bt218.1.length : Int) == 0)) else (some false)) else (some false)) else (some false)))) else (none))) else (none)) else (none)) else (none)) else (none))) else (none)) else (none)))) else ((exequaturlaw24_answers.f k).bind fun t203 => (some t203)))
theorem exequaturlaw24_ScriptLine.mono : ∀ a0 a1 a2 k, LeO (exequaturlaw24_ScriptLine.f k a0 a1 a2) (exequaturlaw24_ScriptLine.f (k + 1) a0 a1 a2) := by
  intro a0 a1 a2 k
  unfold exequaturlaw24_ScriptLine.f
  repeat' first
      | (with_reducible exact exequaturlaw24_answers.mono _)
      | (with_reducible exact exequaturlaw24_text.mono _ _)
      | (with_reducible exact script_Parse.mono _ _)
      | (with_reducible exact LeO.refl _)
      | (with_reducible exact LeO.none _)
      | (with_reducible refine LeO.ite ?_ ?_)
      | (with_reducible refine LeO.bind ?_ (fun _ => ?_))
      | exact exequaturlaw24_answers.mono _
      | exact exequaturlaw24_text.mono _ _
      | exact script_Parse.mono _ _
      | exact LeO.none _
      | refine LeO.ite ?_ ?_
      | refine LeO.bind ?_ (fun _ => ?_)
def exequaturlaw24_ScriptLine.T5 : Bool × List (List Nat × List Nat) := (true, [([], []), ([], []), ([0, 1], [0, 1]), ([2], [2]), ([], []), ([], []), ([5], [5]), ([4, 6], [4, 6]), ([7], [7]), ([3, 8], [3, 8]), ([9], [9]), ([], []), ([], []), ([11, 12], [11, 12]), ([13, 3], [13]), ([10, 14], [10, 14]), ([15, 14], [15]), ([16], [16]), ([17], [17]), ([17], [17]), ([17], [17]), ([18, 16, 0, 1, 2, 3, 4, 5, 6, 7, 8, 9, 10, 11, 12, 13, 14, 15, 16, 17, 18], [18]), ([19, 21, 0, 1, 2, 3, 4, 5, 6, 7, 8, 9, 10, 11, 12, 13, 14, 15, 16, 17, 18, 19, 21], [19]), ([20, 22, 0, 1, 2, 3, 4, 5, 6, 7, 8, 9, 10, 11, 12, 13, 14, 15, 16, 17, 18, 19, 20, 21, 22], [20])])
def exequaturlaw24_ScriptLine.B5 : List Nat := [0, 0, 3, 7, 0, 0, 32, 112, 240, 511, 1023, 0, 0, 6144, 14351, 32767, 65535, 131071, 262143, 262143, 262143, 524287, 3145727, 8388607]
theorem exequaturlaw24_ScriptLine.tab5 : rtab .any (opsOf Tryd.f5 5) = exequaturlaw24_ScriptLine.T5 := by kernel_rfl
theorem exequaturlaw24_ScriptLine.bits5 : waitsOk exequaturlaw24_ScriptLine.T5.2 exequaturlaw24_ScriptLine.B5 = true := by kernel_rfl
set_option maxHeartbeats 8000000 in
set_option maxRecDepth 100000 in
theorem exequaturlaw24_ScriptLine.calls (k : Nat) (A0 : Option Addr) (c0 : Nat) (l0 : List (S36)) (a1 : Int) (a2 : Int) (r : Bool) (w : World) (hr0 : Kd.C k36 w A0 l0.length l0) (hc0 : l0.length ≤ c0) (h : exequaturlaw24_ScriptLine.f k l0 a1 a2 = some r) (hG : GOK w := by first | assumption | exact hG | exact GOK.drewN _ hG | exact GOK.below hG (by repeat (first | (with_reducible first | exact HB.out | apply below_alloc | apply pw_below_drewN | apply below_drew1 | refine below_set ?_ (Aside0.out (by assumption))) | exact HB.out))) :
  Calls Tryd.prog 5 #[.slice A0 l0.length c0, .int .u8 a1, .int .u8 a2] w fun e w' => e = .returned (.bool r) ∧ Below w.heap.size w w' := by
 have HR0 := Aside0.mk hr0
 have HC0 := Aside0.mk hc0
 clear hr0 hc0
 have HB := Aside0.mk (Below.refl w.heap.size w)
 have H := h
 unfold exequaturlaw24_ScriptLine.f at H
 clear h
 replace H := Option.bind_eq_some_iff.mp H
 obtain ⟨t202, A40, H⟩ := H
 replace H : (if t202 = true then ((some (([(⟨#[]⟩ : ByteArray), (⟨#[49]⟩ : ByteArray), (⟨#[49, 32, 48, 32, 120, 32, 120, 32, 120, 32, 120, 32, 120, 32, 120, 32, 120, 32, 120, 32, 120]⟩ : ByteArray), (⟨#[48, 49, 32, 48, 32, 120, 32, 120, 32, 120, 32, 120, 32, 120, 32, 120, 32, 120, 32, 120, 32, 120, 32, 120]⟩ : ByteArray), (⟨#[49, 32, 43, 48, 32, 120, 32, 120, 32, 120, 32, 120, 32, 120, 32, 120, 32, 120, 32, 120, 32, 120, 32, 120]⟩ : ByteArray), (⟨#[49, 32, 48, 32, 120, 32, 120, 32, 120, 32, 120, 32, 120, 32, 120, 32, 120, 32, 120, 32, 120, 32, 120, 61]⟩ : ByteArray), (⟨#[49, 32, 48, 32, 120, 32, 120, 32, 120, 32, 120, 32, 120, 32, 120, 32, 120, 32, 120, 32, 120, 32, 120, 65]⟩ : ByteArray), (⟨#[49, 32, 48, 32, 120, 32, 120, 32, 120, 32, 120, 32, 120, 32, 120, 32, 120, 32, 120, 32, 120]⟩ : ByteArray), (⟨#[49, 32, 48, 32, 32, 120, 32, 120, 32, 120, 32, 120, 32, 120, 32, 120, 32, 120, 32, 120, 32, 120, 32, 120]⟩ : ByteArray), (⟨#[49, 32, 48, 32, 120, 32, 120, 32, 120, 32, 120, 32, 120, 32, 120, 32, 120, 32, 120, 32, 120, 32, 121]⟩ : ByteArray), (⟨#[120, 32, 48, 32, 120, 32, 120, 32, 120, 32, 120, 32, 120, 32, 120, 32, 120, 32, 120, 32, 120, 32, 120]⟩ : ByteArray)] : List ByteArray) : List ByteArray)).bind fun y204 => (if (wrap64 ((l0.length : Int) + 1)) = 0 then (none) else (if 0 ≤ (Int.tmod (wrap64 (a1)) (wrap64 ((l0.length : Int) + 1))) then (if (Int.tmod (wrap64 (a1)) (wrap64 ((l0.length : Int) + 1))) ≤ (l0.length : Int) then ((exequaturlaw24_text.f k (l0.take ((Int.tmod (wrap64 (a1)) (wrap64 ((l0.length : Int) + 1))) : Int).toNat)).bind fun t211 => (if 0 ≤ (Int.tmod a2 11) then (if (Int.tmod a2 11) < (y204.length : Int) then (if t211.size + (rdOf ByteArray.empty y204 (Int.tmod a2 11)).size ≤ 9223372036854775807 then (if (t211 ++ (rdOf ByteArray.empty y204 (Int.tmod a2 11))).size + 1 ≤ 9223372036854775807 then ((exequaturlaw24_text.f k (l0.drop ((Int.tmod (wrap64 (a1)) (wrap64 ((l0.length : Int) + 1))) : Int).toNat)).bind fun t217 => (if ((t211 ++ (rdOf ByteArray.empty y204 (Int.tmod a2 11))) ++ (⟨#[10]⟩ : ByteArray)).size + t217.size ≤ 9223372036854775807 then ((script_Parse.f k (((t211 ++ (rdOf ByteArray.empty y204 (Int.tmod a2 11))) ++ (⟨#[10]⟩ : ByteArray)) ++ t217)).bind fun bt218 => ((exequaturlaw24_answers.f k).bind fun t223 => (if t223 = true then (if bt218.2.2 = 11 then (if bt218.2.1 = (wrap64 ((Int.tmod (wrap64 (a1)) (wrap64 ((l0.length : Int) + 1))) + 1)) then (some ((bt218.1.length : Int) == 0)) else (some false)) else (some false)) else (some false)))) else (none))) else (none)) else (none)) else (none)) else (none))) else (none)) else (none)))) else ((exequaturlaw24_answers.f k).bind fun t203 => (some t203))) = some r := H
 have A4 := Aside0.mk A40
 clear A40
 by_cases c5 : t202 = true
 ·subst c5
  have H1 : ((some (([(⟨#[]⟩ : ByteArray), (⟨#[49]⟩ : ByteArray), (⟨#[49, 32, 48, 32, 120, 32, 120, 32, 120, 32, 120, 32, 120, 32, 120, 32, 120, 32, 120, 32, 120]⟩ : ByteArray), (⟨#[48, 49, 32, 48, 32, 120, 32, 120, 32, 120, 32, 120, 32, 120, 32, 120, 32, 120, 32, 120, 32, 120, 32, 120]⟩ : ByteArray), (⟨#[49, 32, 43, 48, 32, 120, 32, 120, 32, 120, 32, 120, 32, 120, 32, 120, 32, 120, 32, 120, 32, 120, 32, 120]⟩ : ByteArray), (⟨#[49, 32, 48, 32, 120, 32, 120, 32, 120, 32, 120, 32, 120, 32, 120, 32, 120, 32, 120, 32, 120, 32, 120, 61]⟩ : ByteArray), (⟨#[49, 32, 48, 32, 120, 32, 120, 32, 120, 32, 120, 32, 120, 32, 120, 32, 120, 32, 120, 32, 120, 32, 120, 65]⟩ : ByteArray), (⟨#[49, 32, 48, 32, 120, 32, 120, 32, 120, 32, 120, 32, 120, 32, 120, 32, 120, 32, 120, 32, 120]⟩ : ByteArray), (⟨#[49, 32, 48, 32, 32, 120, 32, 120, 32, 120, 32, 120, 32, 120, 32, 120, 32, 120, 32, 120, 32, 120, 32, 120]⟩ : ByteArray), (⟨#[49, 32, 48, 32, 120, 32, 120, 32, 120, 32, 120, 32, 120, 32, 120, 32, 120, 32, 120, 32, 120, 32, 121]⟩ : ByteArray), (⟨#[120, 32, 48, 32, 120, 32, 120, 32, 120, 32, 120, 32, 120, 32, 120, 32, 120, 32, 120, 32, 120, 32, 120]⟩ : ByteArray)] : List ByteArray) : List ByteArray)).bind fun y204 => (if (wrap64 ((l0.length : Int) + 1)) = 0 then (none) else (if 0 ≤ (Int.tmod (wrap64 (a1)) (wrap64 ((l0.length : Int) + 1))) then (if (Int.tmod (wrap64 (a1)) (wrap64 ((l0.length : Int) + 1))) ≤ (l0.length : Int) then ((exequaturlaw24_text.f k (l0.take ((Int.tmod (wrap64 (a1)) (wrap64 ((l0.length : Int) + 1))) : Int).toNat)).bind fun t211 => (if 0 ≤ (Int.tmod a2 11) then (if (Int.tmod a2 11) < (y204.length : Int) then (if t211.size + (rdOf ByteArray.empty y204 (Int.tmod a2 11)).size ≤ 9223372036854775807 then (if (t211 ++ (rdOf ByteArray.empty y204 (Int.tmod a2 11))).size + 1 ≤ 9223372036854775807 then ((exequaturlaw24_text.f k (l0.drop ((Int.tmod (wrap64 (a1)) (wrap64 ((l0.length : Int) + 1))) : Int).toNat)).bind fun t217 => (if ((t211 ++ (rdOf ByteArray.empty y204 (Int.tmod a2 11))) ++ (⟨#[10]⟩ : ByteArray)).size + t217.size ≤ 9223372036854775807 then ((script_Parse.f k (((t211 ++ (rdOf ByteArray.empty y204 (Int.tmod a2 11))) ++ (⟨#[10]⟩ : ByteArray)) ++ t217)).bind fun bt218 => ((exequaturlaw24_answers.f k).bind fun t223 => (if t223 = true then (if bt218.2.2 = 11 then (if bt218.2.1 = (wrap64 ((Int.tmod (wrap64 (a1)) (wrap64 ((l0.length : Int) + 1))) + 1)) then (some ((bt218.1.length : Int) == 0)) else (some false)) else (some false)) else (some false)))) else (none))) else (none)) else (none)) else (none)) else (none))) else (none)) else (none)))) = some r := by rw [if_pos rfl] at H; exact H
  clear H
  have H := H1
  clear H1
  obtain ⟨y204, hy204⟩ : ∃ y_ : List ByteArray, y_ = (([(⟨#[]⟩ : ByteArray), (⟨#[49]⟩ : ByteArray), (⟨#[49, 32, 48, 32, 120, 32, 120, 32, 120, 32, 120, 32, 120, 32, 120, 32, 120, 32, 120, 32, 120]⟩ : ByteArray), (⟨#[48, 49, 32, 48, 32, 120, 32, 120, 32, 120, 32, 120, 32, 120, 32, 120, 32, 120, 32, 120, 32, 120, 32, 120]⟩ : ByteArray), (⟨#[49, 32, 43, 48, 32, 120, 32, 120, 32, 120, 32, 120, 32, 120, 32, 120, 32, 120, 32, 120, 32, 120, 32, 120]⟩ : ByteArray), (⟨#[49, 32, 48, 32, 120, 32, 120, 32, 120, 32, 120, 32, 120, 32, 120, 32, 120, 32, 120, 32, 120, 32, 120, 61]⟩ : ByteArray), (⟨#[49, 32, 48, 32, 120, 32, 120, 32, 120, 32, 120, 32, 120, 32, 120, 32, 120, 32, 120, 32, 120, 32, 120, 65]⟩ : ByteArray), (⟨#[49, 32, 48, 32, 120, 32, 120, 32, 120, 32, 120, 32, 120, 32, 120, 32, 120, 32, 120, 32, 120]⟩ : ByteArray), (⟨#[49, 32, 48, 32, 32, 120, 32, 120, 32, 120, 32, 120, 32, 120, 32, 120, 32, 120, 32, 120, 32, 120, 32, 120]⟩ : ByteArray), (⟨#[49, 32, 48, 32, 120, 32, 120, 32, 120, 32, 120, 32, 120, 32, 120, 32, 120, 32, 120, 32, 120, 32, 121]⟩ : ByteArray), (⟨#[120, 32, 48, 32, 120, 32, 120, 32, 120, 32, 120, 32, 120, 32, 120, 32, 120, 32, 120, 32, 120, 32, 120]⟩ : ByteArray)] : List ByteArray)) := ⟨_, rfl⟩
  replace H : (if (wrap64 ((l0.length : Int) + 1)) = 0 then (none) else (if 0 ≤ (Int.tmod (wrap64 (a1)) (wrap64 ((l0.length : Int) + 1))) then (if (Int.tmod (wrap64 (a1)) (wrap64 ((l0.length : Int) + 1))) ≤ (l0.length : Int) then ((exequaturlaw24_text.f k (l0.take ((Int.tmod (wrap64 (a1)) (wrap64 ((l0.length : Int) + 1))) : Int).toNat)).bind fun t211 => (if 0 ≤ (Int.tmod a2 11) then (if (Int.tmod a2 11) < (y204.length : Int) then (if t211.size + (rdOf ByteArray.empty y204 (Int.tmod a2 11)).size ≤ 9223372036854775807 then (if (t211 ++ (rdOf ByteArray.empty y204 (Int.tmod a2 11))).size + 1 ≤ 9223372036854775807 then ((exequaturlaw24_text.f k (l0.drop ((Int.tmod (wrap64 (a1)) (wrap64 ((l0.length : Int) + 1))) : Int).toNat)).bind fun t217 => (if ((t211 ++ (rdOf ByteArray.empty y204 (Int.tmod a2 11))) ++ (⟨#[10]⟩ : ByteArray)).size + t217.size ≤ 9223372036854775807 then ((script_Parse.f k (((t211 ++ (rdOf ByteArray.empty y204 (Int.tmod a2 11))) ++ (⟨#[10]⟩ : ByteArray)) ++ t217)).bind fun bt218 => ((exequaturlaw24_answers.f k).bind fun t223 => (if t223 = true then (if bt218.2.2 = 11 then (if bt218.2.1 = (wrap64 ((Int.tmod (wrap64 (a1)) (wrap64 ((l0.length : Int) + 1))) + 1)) then (some ((bt218.1.length : Int) == 0)) else (some false)) else (some false)) else (some false)))) else (none))) else (none)) else (none)) else (none)) else (none))) else (none)) else (none))) = some r := by first | (rw [hy204]; with_reducible exact H) | (have H2_ := (Option.bind_some _ _).symm.trans H; rw [hy204]; with_reducible exact H2_) | (have H2_ := (Option.bind_some _ _).symm.trans H; with_reducible exact H2_) | with_reducible exact H | (rw [hy204]; exact H) | exact H
  have Ny204 := Aside0.mk hy204
  clear hy204
  by_cases c6 : (wrap64 ((l0.length : Int) + 1)) = 0
  ·rw [if_pos c6] at H
   exact absurd H (by simp)
  ·rw [if_neg c6] at H
   have c6b0 : ((wrap64 ((l0.length : Int) + 1)) == 0) = false := beq_eq_false_iff_ne.mpr c6
   have c6b1 : ((wrap64 ((l0.length : Int) + 1)) != 0) = true := bne_iff_ne.mpr c6
   obtain ⟨ji7, hji7⟩ : ∃ j_ : Int, (Int.tmod (wrap64 (a1)) (wrap64 ((l0.length : Int) + 1))) = j_ := ⟨_, rfl⟩
   replace H : (if 0 ≤ (ji7) then (if (ji7) ≤ (l0.length : Int) then ((exequaturlaw24_text.f k (l0.take ((ji7) : Int).toNat)).bind fun t211 => (if 0 ≤ (Int.tmod a2 11) then (if (Int.tmod a2 11) < (y204.length : Int) then (if t211.size + (rdOf ByteArray.empty y204 (Int.tmod a2 11)).size ≤ 9223372036854775807 then (if (t211 ++ (rdOf ByteArray.empty y204 (Int.tmod a2 11))).size + 1 ≤ 9223372036854775807 then ((exequaturlaw24_text.f k (l0.drop ((ji7) : Int).toNat)).bind fun t217 => (if ((t211 ++ (rdOf ByteArray.empty y204 (Int.tmod a2 11))) ++ (⟨#[10]⟩ : ByteArray)).size + t217.size ≤ 9223372036854775807 then ((script_Parse.f k (((t211 ++ (rdOf ByteArray.empty y204 (Int.tmod a2 11))) ++ (⟨#[10]⟩ : ByteArray)) ++ t217)).bind fun bt218 => ((exequaturlaw24_answers.f k).bind fun t223 => (if t223 = true then (if bt218.2.2 = 11 then (if bt218.2.1 = (wrap64 ((ji7) + 1)) then (some ((bt218.1.length : Int) == 0)) else (some false)) else (some false)) else (some false)))) else (none))) else (none)) else (none)) else (none)) else (none))) else (none)) else (none)) = some r := by first | (rw [hji7] at H; exact H) | (simp only [hji7] at H ⊢; exact H)
   (try rw [hji7] at A4)
   by_cases c8 : 0 ≤ (ji7)
   rotate_left
   ·rw [if_neg c8] at H; exact absurd H (by simp)
   rw [if_pos c8] at H
   have c8b0 := eq_true c8
   have c8b1 : decide (0 ≤ (ji7)) = true := decide_eq_true c8
   clear c8
   by_cases c9 : (ji7) ≤ (l0.length : Int)
   rotate_left
   ·rw [if_neg c9] at H; exact absurd H (by simp)
   rw [if_pos c9] at H
   have c9b0 := eq_true c9
   have c9b1 : decide ((ji7) ≤ (l0.length : Int)) = true := decide_eq_true c9
   clear c9
   obtain ⟨y207, hy207⟩ : ∃ y_ : List (S36), y_ = (l0.take ((ji7) : Int).toNat) := ⟨_, rfl⟩
   replace H : ((exequaturlaw24_text.f k y207).bind fun t211 => (if 0 ≤ (Int.tmod a2 11) then (if (Int.tmod a2 11) < (y204.length : Int) then (if t211.size + (rdOf ByteArray.empty y204 (Int.tmod a2 11)).size ≤ 9223372036854775807 then (if (t211 ++ (rdOf ByteArray.empty y204 (Int.tmod a2 11))).size + 1 ≤ 9223372036854775807 then ((exequaturlaw24_text.f k (l0.drop ((ji7) : Int).toNat)).bind fun t217 => (if ((t211 ++ (rdOf ByteArray.empty y204 (Int.tmod a2 11))) ++ (⟨#[10]⟩ : ByteArray)).size + t217.size ≤ 9223372036854775807 then ((script_Parse.f k (((t211 ++ (rdOf ByteArray.empty y204 (Int.tmod a2 11))) ++ (⟨#[10]⟩ : ByteArray)) ++ t217)).bind fun bt218 => ((exequaturlaw24_answers.f k).bind fun t223 => (if t223 = true then (if bt218.2.2 = 11 then (if bt218.2.1 = (wrap64 ((ji7) + 1)) then (some ((bt218.1.length : Int) == 0)) else (some false)) else (some false)) else (some false)))) else (none))) else (none)) else (none)) else (none)) else (none))) = some r := by first | (rw [hy207]; with_reducible exact H) | (have H2_ := (Option.bind_some _ _).symm.trans H; rw [hy207]; with_reducible exact H2_) | (have H2_ := (Option.bind_some _ _).symm.trans H; with_reducible exact H2_) | with_reducible exact H | (rw [hy207]; exact H) | exact H
   have Ny207 := Aside0.mk hy207
   clear hy207
   replace H := Option.bind_eq_some_iff.mp H
   obtain ⟨t211, A100, H⟩ := H
   replace H : (if 0 ≤ (Int.tmod a2 11) then (if (Int.tmod a2 11) < (y204.length : Int) then (if t211.size + (rdOf ByteArray.empty y204 (Int.tmod a2 11)).size ≤ 9223372036854775807 then (if (t211 ++ (rdOf ByteArray.empty y204 (Int.tmod a2 11))).size + 1 ≤ 9223372036854775807 then ((exequaturlaw24_text.f k (l0.drop ((ji7) : Int).toNat)).bind fun t217 => (if ((t211 ++ (rdOf ByteArray.empty y204 (Int.tmod a2 11))) ++ (⟨#[10]⟩ : ByteArray)).size + t217.size ≤ 9223372036854775807 then ((script_Parse.f k (((t211 ++ (rdOf ByteArray.empty y204 (Int.tmod a2 11))) ++ (⟨#[10]⟩ : ByteArray)) ++ t217)).bind fun bt218 => ((exequaturlaw24_answers.f k).bind fun t223 => (if t223 = true then (if bt218.2.2 = 11 then (if bt218.2.1 = (wrap64 ((ji7) + 1)) then (some ((bt218.1.length : Int) == 0)) else (some false)) else (some false)) else (some false)))) else (none))) else (none)) else (none)) else (none)) else (none)) = some r := H
   have A10 := Aside0.mk A100
   clear A100
   obtain ⟨ji11, hji11⟩ : ∃ j_ : Int, (Int.tmod a2 11) = j_ := ⟨_, rfl⟩
   replace H : (if 0 ≤ (ji11) then (if (ji11) < (y204.length : Int) then (if t211.size + (rdOf ByteArray.empty y204 (ji11)).size ≤ 9223372036854775807 then (if (t211 ++ (rdOf ByteArray.empty y204 (ji11))).size + 1 ≤ 9223372036854775807 then ((exequaturlaw24_text.f k (l0.drop ((ji7) : Int).toNat)).bind fun t217 => (if ((t211 ++ (rdOf ByteArray.empty y204 (ji11))) ++ (⟨#[10]⟩ : ByteArray)).size + t217.size ≤ 9223372036854775807 then ((script_Parse.f k (((t211 ++ (rdOf ByteArray.empty y204 (ji11))) ++ (⟨#[10]⟩ : ByteArray)) ++ t217)).bind fun bt218 => ((exequaturlaw24_answers.f k).bind fun t223 => (if t223 = true then (if bt218.2.2 = 11 then (if bt218.2.1 = (wrap64 ((ji7) + 1)) then (some ((bt218.1.length : Int) == 0)) else (some false)) else (some false)) else (some false)))) else (none))) else (none)) else (none)) else (none)) else (none)) = some r := by first | (rw [hji11] at H; exact H) | (simp only [hji11] at H ⊢; exact H)
   (try rw [hji11] at A4)
   (try rw [hji11] at A10)
   by_cases c12 : 0 ≤ (ji11)
   rotate_left
   ·rw [if_neg c12] at H; exact absurd H (by simp)
   rw [if_pos c12] at H
   have c12b0 : decide (0 ≤ (ji11)) = true := decide_eq_true c12
   clear c12
   by_cases c13 : (ji11) < (y204.length : Int)
   rotate_left
   ·rw [if_neg c13] at H; exact absurd H (by simp)
   rw [if_pos c13] at H
   have c13b0 : decide ((ji11) < (y204.length : Int)) = true := decide_eq_true c13
   clear c13
   by_cases c14 : t211.size + (rdOf ByteArray.empty y204 (ji11)).size ≤ 9223372036854775807
   rotate_left
   ·rw [if_neg c14] at H; exact absurd H (by simp)
   rw [if_pos c14] at H
   have c14b0 := eq_true c14
   have c14b1 : decide (t211.size + (rdOf ByteArray.empty y204 (ji11)).size ≤ 9223372036854775807) = true := decide_eq_true c14
   try have c14b2 : (9223372036854775807 < t211.size + (rdOf ByteArray.empty y204 (ji11)).size) = False := eq_false (Nat.not_lt.2 c14)
   try have c14b3 : (9223372036854775807 < t211.size + (rdOf ByteArray.empty y204 (ji11)).size) = False := eq_false (Nat.not_lt.2 (by have h_ := c14; simp only [ByteArray.size_append] at h_; exact h_))
   by_cases c15 : (t211 ++ (rdOf ByteArray.empty y204 (ji11))).size + 1 ≤ 9223372036854775807
   rotate_left
   ·rw [if_neg c15] at H; exact absurd H (by simp)
   rw [if_pos c15] at H
   have c15b0 := eq_true c15
   have c15b1 : decide ((t211 ++ (rdOf ByteArray.empty y204 (ji11))).size + 1 ≤ 9223372036854775807) = true := decide_eq_true c15
   try have c15b2 : (9223372036854775807 < (t211 ++ (rdOf ByteArray.empty y204 (ji11))).size + 1) = False := eq_false (Nat.not_lt.2 c15)
   try have c15b3 : (9223372036854775807 < t211.size + (rdOf ByteArray.empty y204 (ji11)).size + 1) = False := eq_false (Nat.not_lt.2 (by have h_ := c15; simp only [ByteArray.size_append] at h_; exact h_))
   have c16b0 := eq_true (of_decide_eq_true (by first | (with_reducible assumption) | assumption) : 0 ≤ (ji7))
   have c17b0 := eq_true (of_decide_eq_true (by first | (with_reducible assumption) | assumption) : (ji7) ≤ (l0.length : Int))
   obtain ⟨y213, hy213⟩ : ∃ y_ : List (S36), y_ = (l0.drop ((ji7) : Int).toNat) := ⟨_, rfl⟩
   replace H : ((exequaturlaw24_text.f k y213).bind fun t217 => (if ((t211 ++ (rdOf ByteArray.empty y204 (ji11))) ++ (⟨#[10]⟩ : ByteArray)).size + t217.size ≤ 9223372036854775807 then ((script_Parse.f k (((t211 ++ (rdOf ByteArray.empty y204 (ji11))) ++ (⟨#[10]⟩ : ByteArray)) ++ t217)).bind fun bt218 => ((exequaturlaw24_answers.f k).bind fun t223 => (if t223 = true then (if bt218.2.2 = 11 then (if bt218.2.1 = (wrap64 ((ji7) + 1)) then (some ((bt218.1.length : Int) == 0)) else (some false)) else (some false)) else (some false)))) else (none))) = some r := by first | (rw [hy213]; with_reducible exact H) | (have H2_ := (Option.bind_some _ _).symm.trans H; rw [hy213]; with_reducible exact H2_) | (have H2_ := (Option.bind_some _ _).symm.trans H; with_reducible exact H2_) | with_reducible exact H | (rw [hy213]; exact H) | exact H
   have Ny213 := Aside0.mk hy213
   clear hy213
   replace H := Option.bind_eq_some_iff.mp H
   obtain ⟨t217, A180, H⟩ := H
   replace H : (if ((t211 ++ (rdOf ByteArray.empty y204 (ji11))) ++ (⟨#[10]⟩ : ByteArray)).size + t217.size ≤ 9223372036854775807 then ((script_Parse.f k (((t211 ++ (rdOf ByteArray.empty y204 (ji11))) ++ (⟨#[10]⟩ : ByteArray)) ++ t217)).bind fun bt218 => ((exequaturlaw24_answers.f k).bind fun t223 => (if t223 = true then (if bt218.2.2 = 11 then (if bt218.2.1 = (wrap64 ((ji7) + 1)) then (some ((bt218.1.length : Int) == 0)) else (some false)) else (some false)) else (some false)))) else (none)) = some r := H
   have A18 := Aside0.mk A180
   clear A180
   by_cases c19 : ((t211 ++ (rdOf ByteArray.empty y204 (ji11))) ++ (⟨#[10]⟩ : ByteArray)).size + t217.size ≤ 9223372036854775807
   rotate_left
   ·rw [if_neg c19] at H; exact absurd H (by simp)
   rw [if_pos c19] at H
   have c19b0 := eq_true c19
   have c19b1 : decide (((t211 ++ (rdOf ByteArray.empty y204 (ji11))) ++ (⟨#[10]⟩ : ByteArray)).size + t217.size ≤ 9223372036854775807) = true := decide_eq_true c19
   try have c19b2 : (9223372036854775807 < ((t211 ++ (rdOf ByteArray.empty y204 (ji11))) ++ (⟨#[10]⟩ : ByteArray)).size + t217.size) = False := eq_false (Nat.not_lt.2 c19)
   try have c19b3 : (9223372036854775807 < t211.size + (rdOf ByteArray.empty y204 (ji11)).size + 1 + t217.size) = False := eq_false (Nat.not_lt.2 (by have h_ := c19; simp only [ByteArray.size_append] at h_; exact h_))
   replace H := Option.bind_eq_some_iff.mp H
   obtain ⟨⟨t218, t221, t222⟩, A200, H⟩ := H
   replace H : ((exequaturlaw24_answers.f k).bind fun t223 => (if t223 = true then (if t222 = 11 then (if t221 = (wrap64 ((ji7) + 1)) then (some ((t218.length : Int) == 0)) else (some false)) else (some false)) else (some false))) = some r := H
   have A20 := Aside0.mk A200
   clear A200
   replace H := Option.bind_eq_some_iff.mp H
   obtain ⟨t223, A210, H⟩ := H
   replace H : (if t223 = true then (if t222 = 11 then (if t221 = (wrap64 ((ji7) + 1)) then (some ((t218.length : Int) == 0)) else (some false)) else (some false)) else (some false)) = some r := H
   have A21 := Aside0.mk A210
   clear A210
   by_cases c22 : t223 = true
   ·subst c22
    have H1 : (if t222 = 11 then (if t221 = (wrap64 ((ji7) + 1)) then (some ((t218.length : Int) == 0)) else (some false)) else (some false)) = some r := by rw [if_pos rfl] at H; exact H
    clear H
    have H := H1
    clear H1
    by_cases c23 : t222 = 11
    ·rw [if_pos c23] at H
     have c23b0 : (t222 == 11) = true := beq_iff_eq.mpr c23
     have c23b1 : (t222 != 11) = false := bne_eq_false_iff_eq.mpr c23
     clear c23
     by_cases c24 : t221 = (wrap64 ((ji7) + 1))
     ·rw [if_pos c24] at H
      have c24b0 : (t221 == (wrap64 ((ji7) + 1))) = true := beq_iff_eq.mpr c24
      have c24b1 : (t221 != (wrap64 ((ji7) + 1))) = false := bne_eq_false_iff_eq.mpr c24
      clear c24
      obtain rfl := Option.some.inj H
      go_enter Tryd.func5, Tryd.ntmps5
      try go_wp2_with (first | ((with_reducible refine gate_callee (f := 8) rfl ?_); refine goesL_ (some 13) rfl rfl Tryd.func8 (by kernel_rfl) rfl #[.slice A0 l0.length c0] rfl (by (try simp only [List.map_toArray, List.map_cons, List.map_nil]); first | done | rfl | (simp only [List.length_drop, List.length_take]; rfl)) ?_; (with_reducible refine (exequaturlaw24_small.calls _ _ l0 true _ ?side1 ?side2 A4.out).mono ?_); (case side1 => repeat (first | exact HR0.out | (with_reducible refine Kd.C_alloc ?_ _) | (with_reducible refine Kd.C_drewN ?_ _) | (with_reducible refine Kd.C_drew ?_))); (case side2 => exact HC0.out); rintro e w25 ⟨rfl, hb⟩; refine ⟨_, rfl, ?_⟩; have n0_ := Aside0.mk (below_step (by repeat (first | (with_reducible first | exact HB.out | apply below_alloc | apply pw_below_drewN | apply below_drew1) | exact HB.out)) hb); clear HB; have HB := n0_; clear n0_; (try clear hb); (try clear hb2); (try clear hk); (try clear hi)) | ((with_reducible refine gate_dst (N := 16) rfl ?_); (try (refine gate_guard (by rfl) ?_; dsimp only)); refine Kd.R_lit Kd.string _ 9 ?hg (N := 16) ?hd (xs := ([(⟨#[]⟩ : ByteArray), (⟨#[49]⟩ : ByteArray), (⟨#[49, 32, 48, 32, 120, 32, 120, 32, 120, 32, 120, 32, 120, 32, 120, 32, 120, 32, 120, 32, 120]⟩ : ByteArray), (⟨#[48, 49, 32, 48, 32, 120, 32, 120, 32, 120, 32, 120, 32, 120, 32, 120, 32, 120, 32, 120, 32, 120, 32, 120]⟩ : ByteArray), (⟨#[49, 32, 43, 48, 32, 120, 32, 120, 32, 120, 32, 120, 32, 120, 32, 120, 32, 120, 32, 120, 32, 120, 32, 120]⟩ : ByteArray), (⟨#[49, 32, 48, 32, 120, 32, 120, 32, 120, 32, 120, 32, 120, 32, 120, 32, 120, 32, 120, 32, 120, 32, 120, 61]⟩ : ByteArray), (⟨#[49, 32, 48, 32, 120, 32, 120, 32, 120, 32, 120, 32, 120, 32, 120, 32, 120, 32, 120, 32, 120, 32, 120, 65]⟩ : ByteArray), (⟨#[49, 32, 48, 32, 120, 32, 120, 32, 120, 32, 120, 32, 120, 32, 120, 32, 120, 32, 120, 32, 120]⟩ : ByteArray), (⟨#[49, 32, 48, 32, 32, 120, 32, 120, 32, 120, 32, 120, 32, 120, 32, 120, 32, 120, 32, 120, 32, 120, 32, 120]⟩ : ByteArray), (⟨#[49, 32, 48, 32, 120, 32, 120, 32, 120, 32, 120, 32, 120, 32, 120, 32, 120, 32, 120, 32, 120, 32, 121]⟩ : ByteArray), (⟨#[120, 32, 48, 32, 120, 32, 120, 32, 120, 32, 120, 32, 120, 32, 120, 32, 120, 32, 120, 32, 120, 32, 120]⟩ : ByteArray)] : List ByteArray)) (inner := [.string (⟨#[]⟩ : ByteArray), .string (⟨#[49]⟩ : ByteArray), .string (⟨#[49, 32, 48, 32, 120, 32, 120, 32, 120, 32, 120, 32, 120, 32, 120, 32, 120, 32, 120, 32, 120]⟩ : ByteArray), .string (⟨#[48, 49, 32, 48, 32, 120, 32, 120, 32, 120, 32, 120, 32, 120, 32, 120, 32, 120, 32, 120, 32, 120, 32, 120]⟩ : ByteArray), .string (⟨#[49, 32, 43, 48, 32, 120, 32, 120, 32, 120, 32, 120, 32, 120, 32, 120, 32, 120, 32, 120, 32, 120, 32, 120]⟩ : ByteArray), .string (⟨#[49, 32, 48, 32, 120, 32, 120, 32, 120, 32, 120, 32, 120, 32, 120, 32, 120, 32, 120, 32, 120, 32, 120, 61]⟩ : ByteArray), .string (⟨#[49, 32, 48, 32, 120, 32, 120, 32, 120, 32, 120, 32, 120, 32, 120, 32, 120, 32, 120, 32, 120, 32, 120, 65]⟩ : ByteArray), .string (⟨#[49, 32, 48, 32, 120, 32, 120, 32, 120, 32, 120, 32, 120, 32, 120, 32, 120, 32, 120, 32, 120]⟩ : ByteArray), .string (⟨#[49, 32, 48, 32, 32, 120, 32, 120, 32, 120, 32, 120, 32, 120, 32, 120, 32, 120, 32, 120, 32, 120, 32, 120]⟩ : ByteArray), .string (⟨#[49, 32, 48, 32, 120, 32, 120, 32, 120, 32, 120, 32, 120, 32, 120, 32, 120, 32, 120, 32, 120, 32, 121]⟩ : ByteArray), .string (⟨#[120, 32, 48, 32, 120, 32, 120, 32, 120, 32, 120, 32, 120, 32, 120, 32, 120, 32, 120, 32, 120, 32, 120]⟩ : ByteArray)]) (ok := fun _ => True) (okp := fun _ => True) ?hr ?hp (fun _ hk => hk) trivial (Below.refl _ _) (Nat.le_refl _) (by simp) ?_; (case hd => rfl); (case hg => rfl); (case hr => first | (go_simp; done) | (go_simp; rfl)); (case hp => exact (Reps.one (show Kd.M Kd.string _ _ _ (⟨#[]⟩ : ByteArray) [.string (⟨#[]⟩ : ByteArray)] from rfl) (Reps.one (show Kd.M Kd.string _ _ _ (⟨#[49]⟩ : ByteArray) [.string (⟨#[49]⟩ : ByteArray)] from rfl) (Reps.one (show Kd.M Kd.string _ _ _ (⟨#[49, 32, 48, 32, 120, 32, 120, 32, 120, 32, 120, 32, 120, 32, 120, 32, 120, 32, 120, 32, 120]⟩ : ByteArray) [.string (⟨#[49, 32, 48, 32, 120, 32, 120, 32, 120, 32, 120, 32, 120, 32, 120, 32, 120, 32, 120, 32, 120]⟩ : ByteArray)] from rfl) (Reps.one (show Kd.M Kd.string _ _ _ (⟨#[48, 49, 32, 48, 32, 120, 32, 120, 32, 120, 32, 120, 32, 120, 32, 120, 32, 120, 32, 120, 32, 120, 32, 120]⟩ : ByteArray) [.string (⟨#[48, 49, 32, 48, 32, 120, 32, 120, 32, 120, 32, 120, 32, 120, 32, 120, 32, 120, 32, 120, 32, 120, 32, 120]⟩ : ByteArray)] from rfl) (Reps.one (show Kd.M Kd.string _ _ _ (⟨#[49, 32, 43, 48, 32, 120, 32, 120, 32, 120, 32, 120, 32, 120, 32, 120, 32, 120, 32, 120, 32, 120, 32, 120]⟩ : ByteArray) [.string (⟨#[49, 32, 43, 48, 32, 120, 32, 120, 32, 120, 32, 120, 32, 120, 32, 120, 32, 120, 32, 120, 32, 120, 32, 120]⟩ : ByteArray)] from rfl) (Reps.one (show Kd.M Kd.string _ _ _ (⟨#[49, 32, 48, 32, 120, 32, 120, 32, 120, 32, 120, 32, 120, 32, 120, 32, 120, 32, 120, 32, 120, 32, 120, 61]⟩ : ByteArray) [.string (⟨#[49, 32, 48, 32, 120, 32, 120, 32, 120, 32, 120, 32, 120, 32, 120, 32, 120, 32, 120, 32, 120, 32, 120, 61]⟩ : ByteArray)] from rfl) (Reps.one (show Kd.M Kd.string _ _ _ (⟨#[49, 32, 48, 32, 120, 32, 120, 32, 120, 32, 120, 32, 120, 32, 120, 32, 120, 32, 120, 32, 120, 32, 120, 65]⟩ : ByteArray) [.string (⟨#[49, 32, 48, 32, 120, 32, 120, 32, 120, 32, 120, 32, 120, 32, 120, 32, 120, 32, 120, 32, 120, 32, 120, 65]⟩ : ByteArray)] from rfl) (Reps.one (show Kd.M Kd.string _ _ _ (⟨#[49, 32, 48, 32, 120, 32, 120, 32, 120, 32, 120, 32, 120, 32, 120, 32, 120, 32, 120, 32, 120]⟩ : ByteArray) [.string (⟨#[49, 32, 48, 32, 120, 32, 120, 32, 120, 32, 120, 32, 120, 32, 120, 32, 120, 32, 120, 32, 120]⟩ : ByteArray)] from rfl) (Reps.one (show Kd.M Kd.string _ _ _ (⟨#[49, 32, 48, 32, 32, 120, 32, 120, 32, 120, 32, 120, 32, 120, 32, 120, 32, 120, 32, 120, 32, 120, 32, 120]⟩ : ByteArray) [.string (⟨#[49, 32, 48, 32, 32, 120, 32, 120, 32, 120, 32, 120, 32, 120, 32, 120, 32, 120, 32, 120, 32, 120, 32, 120]⟩ : ByteArray)] from rfl) (Reps.one (show Kd.M Kd.string _ _ _ (⟨#[49, 32, 48, 32, 120, 32, 120, 32, 120, 32, 120, 32, 120, 32, 120, 32, 120, 32, 120, 32, 120, 32, 121]⟩ : ByteArray) [.string (⟨#[49, 32, 48, 32, 120, 32, 120, 32, 120, 32, 120, 32, 120, 32, 120, 32, 120, 32, 120, 32, 120, 32, 121]⟩ : ByteArray)] from rfl) (Reps.one (show Kd.M Kd.string _ _ _ (⟨#[120, 32, 48, 32, 120, 32, 120, 32, 120, 32, 120, 32, 120, 32, 120, 32, 120, 32, 120, 32, 120, 32, 120]⟩ : ByteArray) [.string (⟨#[120, 32, 48, 32, 120, 32, 120, 32, 120, 32, 120, 32, 120, 32, 120, 32, 120, 32, 120, 32, 120, 32, 120]⟩ : ByteArray)] from rfl) (Reps.none _ _))))))))))))); intro v205 w26 ho27 hb hg_ hnew_; clear hg_ hnew_; (first | rw [← Ny204.out] at ho27 | (simp only [Int.reduceToNat] at ho27; rw [← Ny204.out] at ho27)); have n0_ := Aside0.mk (Kd.R_lower ho27 (below_size (by repeat (first | (with_reducible first | exact HB.out | apply below_alloc | apply pw_below_drewN | apply below_drew1) | exact HB.out)))); have n1_ := Aside0.mk (below_step (by repeat (first | (with_reducible first | exact HB.out | apply below_alloc | apply pw_below_drewN | apply below_drew1) | exact HB.out)) hb); clear HB; have HO206 := n0_; have HB := n1_; clear n0_ n1_; clear hb ho27))
      have n0_ := Aside0.mk (Kd.R_drew HO206.out)
      have n1_ := Aside0.mk (below_drew1 HB.out)
      clear HO206; clear HB
      have HO206 := n0_
      have HB := n1_
      clear n0_ n1_
      have q29 : ((ji7) : Int) ≤ ((l0.length : Int) : Int) := of_decide_eq_true (by first | (with_reducible assumption) | assumption)
      obtain ⟨i029, hi029, _, hsz29, _⟩ := info_parts info36
      have hroom29 : l0.length ≤ c0 := HC0.out
      have hC29 : Kd.C k36 _ A0 l0.length l0 := HR0.out
      have hcut29 := cut_to (P := Tryd.prog) 22 36 .i64 Tryd.underlying22 hi029 A0 l0.length c0 (ji7) (of_decide_eq_true (by first | (with_reducible assumption) | assumption)) q29 hroom29
      have hr29 := Kd.C_take (m := ((ji7) : Int).toNat) hC29 (by omega)
      have hy29 : y207.length = ((ji7) : Int).toNat := (by rw [Ny207.out, List.length_take]; omega)
      rw [← Ny207.out] at hr29
      rw [← hy29] at hcut29
      have HR210 := Aside0.mk hr29
      have HC210 := Aside0.mk (show y207.length ≤ c0 from by omega)
      clear hr29 hC29 hroom29 hi029 hsz29
      have KY29 := Aside0.mk hy29
      clear hy29
      replace q29 := eq_true q29
      obtain ⟨Ao30, co30, eo30⟩ := Kd.R_slice HO206.out
      (first | subst eo30 | (injection eo30 with f1_ f2_ f3_; have f4_ := f1_.symm; have f5_ := f3_.symm; clear f1_ f2_ f3_; subst f4_; subst f5_))
      have p212 : 0 ≤ ((ji11) : Int) := of_decide_eq_true (by first | (with_reducible assumption) | assumption)
      have q212 : (ji11) < (y204.length : Int) := of_decide_eq_true (by first | (with_reducible assumption) | assumption)
      obtain ⟨ad212, e212, hx212_0⟩ := Kd.at_string (Kd.R_reads' HO206.out).2.2 (ji11) p212 q212
      cases e212
      replace p212 := eq_true p212
      replace q212 := eq_true q212
      have q31 : ((ji7) : Int) ≤ ((l0.length : Int) : Int) := of_decide_eq_true (by first | (with_reducible assumption) | assumption)
      obtain ⟨i031, hi031, _, hsz31, _⟩ := info_parts info36
      have hroom31 : l0.length ≤ c0 := HC0.out
      have hC31 : Kd.C k36 _ A0 l0.length l0 := HR0.out
      have q031 : (0 : Int) ≤ ((ji7) : Int) := of_decide_eq_true (by first | (with_reducible assumption) | assumption)
      have hcut31 := cut_from (P := Tryd.prog) 22 36 .i64 Tryd.underlying22 hi031 13 hsz31 A0 l0.length c0 (ji7) q031 q31
      have hr31 := Kd.C_drop (m := ((ji7) : Int).toNat) (c := c0) hC31 (by omega) hroom31
      obtain ⟨A31, hA31⟩ : ∃ A1, A1 = (if c0 = ((ji7) : Int).toNat then A0 else (A0 : Option Addr).map (·.add (((ji7) : Int).toNat * 13))) := ⟨_, rfl⟩
      obtain ⟨c31, hc31⟩ : ∃ c1, c1 = c0 - ((ji7) : Int).toNat := ⟨_, rfl⟩
      have hy31 : y213.length = l0.length - ((ji7) : Int).toNat := (by rw [Ny213.out, List.length_drop] <;> omega)
      rw [show (l0).drop ((ji7) : Int).toNat = y213 from Ny213.out.symm] at hr31
      replace hr31 : Kd.C k36 _ A31 y213.length y213 := (by rw [hA31]; exact hr31)
      rw [← hy31, ← hA31, ← hc31] at hcut31
      have HR216 := Aside0.mk hr31
      have HC216 := Aside0.mk (show y213.length ≤ c31 from by rw [hy31, hc31]; exact Nat.sub_le_sub_right hroom31 _)
      clear hr31 hC31 hroom31 hi031 hsz31 hc31
      have KY31 := Aside0.mk hy31
      have KA31 := Aside0.mk hA31
      clear hy31 hA31
      replace q31 := eq_true q31
      refine start_ (n := 24) (S := fun w' => w'.cell? (ad212.add ((ji11)).toNat) = some (.string (rdOf ByteArray.empty y204 (ji11)))) (ds := []) #[false, false, false, false, false, false, false, false, false, false, false, false, false, false, false, false, false, false, false, false, false, false, false, false] (by kernel_rfl) rfl rfl (hx212_0) (fun hHeld => ?_); refine with_tabW exequaturlaw24_ScriptLine.tab5 exequaturlaw24_ScriptLine.bits5 (fun HT_ HW_ => ?_)
      generalize w26.drew = w28 at HO206 HB HR210 HR216 hx212_0 hHeld ⊢
      refine pure_ (i := 0) (N := some 24) (v := ?_) (a' := ?_) #[true, false, false, false, false, false, false, false, false, false, false, false, false, false, false, false, false, false, false, false, false, false, false, false] rfl rfl (any_of HT_.out (by kernel_rfl)) (fun _ _ _ h => h) (Or.inl ⟨by rfl, ?_⟩) ?_ ?_
      rotate_left
      ·intro w'
       go_simp
       with_reducible rfl
      rotate_left
      ·simp only [Act.put, List.setIfInBounds_toArray, List.set_cons_zero, List.set_cons_succ, i64_w, i32_w]
       rfl
      refine pure_ (i := 1) (N := some 25) (v := ?_) (a' := ?_) #[true, true, false, false, false, false, false, false, false, false, false, false, false, false, false, false, false, false, false, false, false, false, false, false] rfl rfl (any_of HT_.out (by kernel_rfl)) (fun _ _ _ h => h) (Or.inl ⟨by rfl, ?_⟩) ?_ ?_
      rotate_left
      ·intro w'
       go_simp
       with_reducible rfl
      rotate_left
      ·simp only [Act.put, List.setIfInBounds_toArray, List.set_cons_zero, List.set_cons_succ, i64_w, i32_w]
       rfl
      refine pure_ (i := 2) (N := some 26) (v := ?_) (a' := ?_) #[true, true, true, false, false, false, false, false, false, false, false, false, false, false, false, false, false, false, false, false, false, false, false, false] rfl rfl (any_of HT_.out (by kernel_rfl)) (fun _ _ _ h => h) (Or.inl ⟨by rfl, ?_⟩) ?_ ?_
      rotate_left
      ·intro w'
       go_simp
       with_reducible rfl
      rotate_left
      ·simp only [Act.put, List.setIfInBounds_toArray, List.set_cons_zero, List.set_cons_succ, i64_w, i32_w]
       rfl
      refine pure_ (i := 4) (N := some 28) (v := ?_) (a' := ?_) #[true, true, true, false, true, false, false, false, false, false, false, false, false, false, false, false, false, false, false, false, false, false, false, false] rfl rfl (any_of HT_.out (by kernel_rfl)) (fun _ _ _ h => h) (Or.inl ⟨by rfl, ?_⟩) ?_ ?_
      rotate_left
      ·intro w'
       go_simp
       with_reducible rfl
      rotate_left
      ·simp only [Act.put, List.setIfInBounds_toArray, List.set_cons_zero, List.set_cons_succ, i64_w, i32_w]
       rfl
      refine pure_ (i := 5) (N := some 29) (v := ?_) (a' := ?_) #[true, true, true, false, true, true, false, false, false, false, false, false, false, false, false, false, false, false, false, false, false, false, false, false] rfl rfl (any_of HT_.out (by kernel_rfl)) (fun _ _ _ h => h) (Or.inl ⟨by rfl, ?_⟩) ?_ ?_
      rotate_left
      ·intro w'
       go_simp
       with_reducible rfl
      rotate_left
      ·simp only [Act.put, List.setIfInBounds_toArray, List.set_cons_zero, List.set_cons_succ, i64_w, i32_w]
       rfl
      refine pure_ (i := 6) (N := some 30) (v := ?_) (a' := ?_) #[true, true, true, false, true, true, true, false, false, false, false, false, false, false, false, false, false, false, false, false, false, false, false, false] rfl rfl (any_of HT_.out (by kernel_rfl)) (fun _ _ _ h => h) (Or.inl ⟨by rfl, ?_⟩) ?_ ?_
      rotate_left
      ·intro w'
       go_simp
       with_reducible rfl
      rotate_left
      ·simp only [Act.put, List.setIfInBounds_toArray, List.set_cons_zero, List.set_cons_succ, i64_w, i32_w]
       rfl
      refine pure_ (i := 7) (N := some 31) (v := ?_) (a' := ?_) #[true, true, true, false, true, true, true, true, false, false, false, false, false, false, false, false, false, false, false, false, false, false, false, false] rfl rfl (any_of HT_.out (by kernel_rfl)) (fun _ _ _ h => h) (Or.inl ⟨by rfl, ?_⟩) ?_ ?_
      rotate_left
      ·intro w'
       go_simp
       with_reducible rfl
      rotate_left
      ·simp only [Act.put, List.setIfInBounds_toArray, List.set_cons_zero, List.set_cons_succ, i64_w, i32_w]
       rfl
      refine pure_ (i := 11) (N := some 35) (v := ?_) (a' := ?_) #[true, true, true, false, true, true, true, true, false, false, false, true, false, false, false, false, false, false, false, false, false, false, false, false] rfl rfl (any_of HT_.out (by kernel_rfl)) (fun _ _ _ h => h) (Or.inl ⟨by rfl, ?_⟩) ?_ ?_
      rotate_left
      ·intro w'
       go_simp
       with_reducible rfl
      rotate_left
      ·simp only [Act.put, List.setIfInBounds_toArray, List.set_cons_zero, List.set_cons_succ, i64_w, i32_w]
       rfl
      refine pure_ (i := 12) (N := some 36) (v := ?_) (a' := ?_) #[true, true, true, false, true, true, true, true, false, false, false, true, true, false, false, false, false, false, false, false, false, false, false, false] rfl rfl (any_of HT_.out (by kernel_rfl)) (fun _ _ _ h => h) (Or.inl ⟨by rfl, ?_⟩) ?_ ?_
      rotate_left
      ·intro w'
       go_simp
       with_reducible rfl
      rotate_left
      ·simp only [Act.put, List.setIfInBounds_toArray, List.set_cons_zero, List.set_cons_succ, i64_w, i32_w]
       rfl
      refine pure_ (i := 13) (N := some 37) (v := ?_) (a' := ?_) #[true, true, true, false, true, true, true, true, false, false, false, true, true, true, false, false, false, false, false, false, false, false, false, false] rfl rfl (any_of HT_.out (by kernel_rfl)) (fun _ _ _ h => h) (Or.inl ⟨by rfl, ?_⟩) ?_ ?_
      rotate_left
      ·intro w'
       go_simp
       with_reducible rfl
      rotate_left
      ·simp only [Act.put, List.setIfInBounds_toArray, List.set_cons_zero, List.set_cons_succ, i64_w, i32_w]
       rfl
      refine take_ (i := 8) (N := some 32) (v := ?_) (a' := ?_) #[true, true, true, false, true, true, true, true, true, false, false, true, true, true, false, false, false, false, false, false, false, false, false, false] rfl rfl (take_ofW HT_.out HW_.out (by kernel_rfl)) (fun _ _ _ h => h) (Or.inl ⟨by rfl, ?_⟩) hHeld ?_ ?_
      rotate_left
      ·intro w' s0
       go_simp
       with_reducible rfl
      rotate_left
      ·simp only [Act.put, List.setIfInBounds_toArray, List.set_cons_zero, List.set_cons_succ, i64_w, i32_w]
       rfl
      refine one_ (i := 3) (N := some 27) #[true, true, true, true, true, true, true, true, true, false, false, true, true, true, false, false, false, false, false, false, false, false, false, false] rfl rfl (one_of HT_.out (by kernel_rfl)) (by decide) (fun K hK => ?_)
      refine goes_ Tryd.func12 (by kernel_rfl) rfl #[.slice A0 y207.length c0] (by rfl) rfl rfl (by (try simp only [List.map_toArray, List.map_cons, List.map_nil]); first | done | rfl | (simp only [List.length_drop, List.length_take]; rfl)) ?_
      with_reducible refine (exequaturlaw24_text.calls k _ _ y207 t211 _ ?side1 ?side2 A10.out).mono ?_
      (case side1 => repeat (first | exact (Kd.C_below HR210.out HB.out) | (with_reducible refine Kd.C_alloc ?_ _) | (with_reducible refine Kd.C_drewN ?_ _) | (with_reducible refine Kd.C_drew ?_)))
      (case side2 => exact HC210.out)
      rintro e w32 ⟨rfl, hb⟩
      have HS0_ := (hb.cell (World.block_lt_of_cell? _ _ (hHeld))).trans (hHeld)
      refine ⟨_, rfl, ?_⟩
      have n0_ := Aside0.mk (Kd.R_below (by (with_reducible repeat (first | apply Kd.R_alloc | apply Kd.R_drewN | apply Kd.R_drew)); exact HO206.out) hb)
      have n1_ := Aside0.mk (below_step (by repeat (first | (with_reducible first | exact HB.out | apply below_alloc | apply pw_below_drewN | apply below_drew1) | exact HB.out)) hb)
      clear HO206; clear HB
      have HO206 := n0_
      have HB := n1_
      clear n0_ n1_; (try clear hb); (try clear hb2); (try clear hk); (try clear hi)
      refine hK.out _ _ (HS0_) (fun hHeld => ?_)
      clear hK K
      refine norm_ (a' := ?_) ?_ ?_
      rotate_left
      ·show Act.put _ (some 27) _ = _
       simp only [Act.put, List.setIfInBounds_toArray, List.set_cons_zero, List.set_cons_succ, i64_w, i32_w]
       rfl
      refine pure_ (i := 9) (N := some 33) (v := ?_) (a' := ?_) #[true, true, true, true, true, true, true, true, true, true, false, true, true, true, false, false, false, false, false, false, false, false, false, false] rfl rfl (any_of HT_.out (by kernel_rfl)) (fun _ _ _ h => h) (Or.inl ⟨by rfl, ?_⟩) ?_ ?_
      rotate_left
      ·intro w'
       go_simp
       with_reducible rfl
      rotate_left
      ·simp only [Act.put, List.setIfInBounds_toArray, List.set_cons_zero, List.set_cons_succ, i64_w, i32_w]
       rfl
      refine pure_ (i := 10) (N := some 34) (v := ?_) (a' := ?_) #[true, true, true, true, true, true, true, true, true, true, true, true, true, true, false, false, false, false, false, false, false, false, false, false] rfl rfl (any_of HT_.out (by kernel_rfl)) (fun _ _ _ h => h) (Or.inl ⟨by rfl, ?_⟩) ?_ ?_
      rotate_left
      ·intro w'
       go_simp
       with_reducible rfl
      rotate_left
      ·simp only [Act.put, List.setIfInBounds_toArray, List.set_cons_zero, List.set_cons_succ, i64_w, i32_w]
       rfl
      refine one_ (i := 14) (N := some 38) #[true, true, true, true, true, true, true, true, true, true, true, true, true, true, true, false, false, false, false, false, false, false, false, false] rfl rfl (one_of HT_.out (by kernel_rfl)) (by decide) (fun K hK => ?_)
      refine goes_ Tryd.func12 (by kernel_rfl) rfl #[.slice A31 y213.length c31] (by rfl) rfl rfl (by (try simp only [List.map_toArray, List.map_cons, List.map_nil]); first | done | rfl | (simp only [List.length_drop, List.length_take]; rfl)) ?_
      with_reducible refine (exequaturlaw24_text.calls k _ _ y213 t217 _ ?side1 ?side2 A18.out).mono ?_
      (case side1 => repeat (first | exact (Kd.C_below HR216.out HB.out) | (with_reducible refine Kd.C_alloc ?_ _) | (with_reducible refine Kd.C_drewN ?_ _) | (with_reducible refine Kd.C_drew ?_)))
      (case side2 => exact HC216.out)
      rintro e w33 ⟨rfl, hb⟩
      have HS0_ := (hb.cell (World.block_lt_of_cell? _ _ (hHeld))).trans (hHeld)
      refine ⟨_, rfl, ?_⟩
      have n0_ := Aside0.mk (Kd.R_below (by (with_reducible repeat (first | apply Kd.R_alloc | apply Kd.R_drewN | apply Kd.R_drew)); exact HO206.out) hb)
      have n1_ := Aside0.mk (below_step (by repeat (first | (with_reducible first | exact HB.out | apply below_alloc | apply pw_below_drewN | apply below_drew1) | exact HB.out)) hb)
      clear HO206; clear HB
      have HO206 := n0_
      have HB := n1_
      clear n0_ n1_; (try clear hb); (try clear hb2); (try clear hk); (try clear hi)
      refine hK.out _ _ (HS0_) (fun hHeld => ?_)
      clear hK K
      refine norm_ (a' := ?_) ?_ ?_
      rotate_left
      ·show Act.put _ (some 38) _ = _
       simp only [Act.put, List.setIfInBounds_toArray, List.set_cons_zero, List.set_cons_succ, i64_w, i32_w]
       rfl
      refine pure_ (i := 15) (N := some 39) (v := ?_) (a' := ?_) #[true, true, true, true, true, true, true, true, true, true, true, true, true, true, true, true, false, false, false, false, false, false, false, false] rfl rfl (any_of HT_.out (by kernel_rfl)) (fun _ _ _ h => h) (Or.inl ⟨by rfl, ?_⟩) ?_ ?_
      rotate_left
      ·intro w'
       go_simp
       with_reducible rfl
      rotate_left
      ·simp only [Act.put, List.setIfInBounds_toArray, List.set_cons_zero, List.set_cons_succ, i64_w, i32_w]
       rfl
      refine one_ (i := 16) (N := some 40) #[true, true, true, true, true, true, true, true, true, true, true, true, true, true, true, true, true, false, false, false, false, false, false, false] rfl rfl (one_of HT_.out (by kernel_rfl)) (by decide) (fun K hK => ?_)
      refine goes_ Tryd.func11 (by kernel_rfl) rfl #[.string (((t211 ++ (rdOf ByteArray.empty y204 (ji11))) ++ (⟨#[10]⟩ : ByteArray)) ++ t217)] (by rfl) rfl rfl (by (try simp only [List.map_toArray, List.map_cons, List.map_nil]); first | done | (simp only [hji11]; rfl) | rfl | (simp only [List.length_drop, List.length_take]; rfl)) ?_
      with_reducible refine (script_Parse.calls k (((t211 ++ (rdOf ByteArray.empty y204 (ji11))) ++ (⟨#[10]⟩ : ByteArray)) ++ t217) t218 t221 t222 _ A20.out (hG := GOK.below hG (by repeat (first | (with_reducible first | exact HB.out | apply below_alloc | apply pw_below_drewN | apply below_drew1) | exact HB.out)))).mono ?_
      rintro e w34 ⟨v219, rfl, ho0, hb⟩
      have HS0_ := (hb.cell (World.block_lt_of_cell? _ _ (hHeld))).trans (hHeld)
      refine ⟨_, rfl, ?_⟩
      have n0_ := Aside0.mk (Kd.R_below (by (with_reducible repeat (first | apply Kd.R_alloc | apply Kd.R_drewN | apply Kd.R_drew)); exact HO206.out) hb)
      have n1_ := Aside0.mk (Kd.N_lower (Kd.N_mono (ok' := fun k_ => some k_ ≠ (.slice (some ad212) y204.length co30 : Value).ownBlock) ho0 (fun k_ hk_ => (Kd.fresh' (Kd.R_lt (by (with_reducible repeat (first | apply Kd.R_alloc | apply Kd.R_drewN | apply Kd.R_drew)); exact HO206.out)) k_ hk_))) (below_size (by repeat (first | (with_reducible first | exact HB.out | apply below_alloc | apply pw_below_drewN | apply below_drew1) | exact HB.out))))
      have n2_ := Aside0.mk (below_step (by repeat (first | (with_reducible first | exact HB.out | apply below_alloc | apply pw_below_drewN | apply below_drew1) | exact HB.out)) hb)
      clear HO206; clear HB
      have HO206 := n0_
      have HO220 := n1_
      have HB := n2_
      clear n0_ n1_ n2_; (try clear hb); (try clear hb2); (try clear hk); (try clear hi); (try clear ho0)
      refine hK.out _ _ (HS0_) (fun hHeld => ?_)
      clear hK K
      refine norm_ (a' := ?_) ?_ ?_
      rotate_left
      ·show Act.put _ (some 40) _ = _
       simp only [Act.put, List.setIfInBounds_toArray, List.set_cons_zero, List.set_cons_succ, i64_w, i32_w]
       rfl
      refine pure_ (i := 17) (N := some 23) (v := ?_) (a' := ?_) #[true, true, true, true, true, true, true, true, true, true, true, true, true, true, true, true, true, true, false, false, false, false, false, false] rfl rfl (any_of HT_.out (by kernel_rfl)) (fun _ _ _ h => h) (Or.inl ⟨by rfl, ?_⟩) ?_ ?_
      rotate_left
      ·intro w'
       go_simp
       with_reducible rfl
      rotate_left
      ·simp only [Act.put, List.setIfInBounds_toArray, List.set_cons_zero, List.set_cons_succ, i64_w, i32_w]
       rfl
      refine pure_ (i := 18) (N := some 41) (v := ?_) (a' := ?_) #[true, true, true, true, true, true, true, true, true, true, true, true, true, true, true, true, true, true, true, false, false, false, false, false] rfl rfl (any_of HT_.out (by kernel_rfl)) (fun _ _ _ h => h) (Or.inl ⟨by rfl, ?_⟩) ?_ ?_
      rotate_left
      ·intro w'
       go_simp
       with_reducible rfl
      rotate_left
      ·simp only [Act.put, List.setIfInBounds_toArray, List.set_cons_zero, List.set_cons_succ, i64_w, i32_w]
       rfl
      refine pure_ (i := 19) (N := some 42) (v := ?_) (a' := ?_) #[true, true, true, true, true, true, true, true, true, true, true, true, true, true, true, true, true, true, true, true, false, false, false, false] rfl rfl (any_of HT_.out (by kernel_rfl)) (fun _ _ _ h => h) (Or.inl ⟨by rfl, ?_⟩) ?_ ?_
      rotate_left
      ·intro w'
       go_simp
       with_reducible rfl
      rotate_left
      ·simp only [Act.put, List.setIfInBounds_toArray, List.set_cons_zero, List.set_cons_succ, i64_w, i32_w]
       rfl
      refine pure_ (i := 20) (N := some 43) (v := ?_) (a' := ?_) #[true, true, true, true, true, true, true, true, true, true, true, true, true, true, true, true, true, true, true, true, true, false, false, false] rfl rfl (any_of HT_.out (by kernel_rfl)) (fun _ _ _ h => h) (Or.inl ⟨by rfl, ?_⟩) ?_ ?_
      rotate_left
      ·intro w'
       go_simp
       with_reducible rfl
      rotate_left
      ·simp only [Act.put, List.setIfInBounds_toArray, List.set_cons_zero, List.set_cons_succ, i64_w, i32_w]
       rfl
      refine pure_ (i := 21) (N := some 9) (v := ?_) (a' := ?_) #[true, true, true, true, true, true, true, true, true, true, true, true, true, true, true, true, true, true, true, true, true, true, false, false] rfl rfl (any_of HT_.out (by kernel_rfl)) (fun _ _ _ h => h) (Or.inl ⟨by rfl, ?_⟩) ?_ ?_
      rotate_left
      ·intro w'
       go_simp
       with_reducible rfl
      rotate_left
      ·simp only [Act.put, List.setIfInBounds_toArray, List.set_cons_zero, List.set_cons_succ, i64_w, i32_w]
       rfl
      refine pure_ (i := 22) (N := some 10) (v := ?_) (a' := ?_) #[true, true, true, true, true, true, true, true, true, true, true, true, true, true, true, true, true, true, true, true, true, true, true, false] rfl rfl (any_of HT_.out (by kernel_rfl)) (fun _ _ _ h => h) (Or.inl ⟨by rfl, ?_⟩) ?_ ?_
      rotate_left
      ·intro w'
       go_simp
       with_reducible rfl
      rotate_left
      ·simp only [Act.put, List.setIfInBounds_toArray, List.set_cons_zero, List.set_cons_succ, i64_w, i32_w]
       rfl
      refine pure_ (i := 23) (N := some 11) (v := ?_) (a' := ?_) #[true, true, true, true, true, true, true, true, true, true, true, true, true, true, true, true, true, true, true, true, true, true, true, true] rfl rfl (any_of HT_.out (by kernel_rfl)) (fun _ _ _ h => h) (Or.inl ⟨by rfl, ?_⟩) ?_ ?_
      rotate_left
      ·intro w'
       go_simp
       with_reducible rfl
      rotate_left
      ·simp only [Act.put, List.setIfInBounds_toArray, List.set_cons_zero, List.set_cons_succ, i64_w, i32_w]
       rfl
      refine done_ (done_of HT_.out (by kernel_rfl)) ?_
      try go_wp2_with (first | ((with_reducible refine gate_callee (f := 9) rfl ?_); refine goesL_ (some 44) rfl rfl Tryd.func9 (by kernel_rfl) rfl #[] rfl (by (try simp only [List.map_toArray, List.map_cons, List.map_nil]); first | done | rfl | (simp only [List.length_drop, List.length_take]; rfl)) ?_; (with_reducible refine (exequaturlaw24_answers.calls k  true _ A21.out (hG := GOK.below hG (by repeat (first | (with_reducible first | exact HB.out | apply below_alloc | apply pw_below_drewN | apply below_drew1) | exact HB.out)))).mono ?_); rintro e w35 ⟨rfl, hb⟩; refine ⟨_, rfl, ?_⟩; have n0_ := Aside0.mk (Kd.R_below (by (with_reducible repeat (first | apply Kd.R_alloc | apply Kd.R_drewN | apply Kd.R_drew)); exact HO206.out) hb); have n1_ := Aside0.mk (Kd.N_below (by (with_reducible repeat (first | apply Kd.N_alloc | apply Kd.N_drewN | apply Kd.N_drew)); exact HO220.out) hb); have n2_ := Aside0.mk (below_step (by repeat (first | (with_reducible first | exact HB.out | apply below_alloc | apply pw_below_drewN | apply below_drew1) | exact HB.out)) hb); clear HO206; clear HO220; clear HB; have HO206 := n0_; have HO220 := n1_; have HB := n2_; clear n0_ n1_ n2_; (try clear hb); (try clear hb2); (try clear hk); (try clear hi); obtain ⟨Ao36, co36, eo36⟩ := Kd.N_slice HO220.out; subst eo36))
      go_ret
      first | (exact ⟨by first | rfl | (simp [errW_none, errW_some] <;> rfl) | (simp only [← hji7, ← hji11]; first | rfl | (simp [errW_none, errW_some] <;> rfl)) | (simp [*, errW_none, errW_some] <;> rfl), by repeat (first | (with_reducible first | exact HB.out | apply below_alloc | apply pw_below_drewN | apply below_drew1) | exact HB.out)⟩) | (focus (exfalso; simp_all; done))
      all_goals (first | (exfalso; simp_all <;> omega) | (go_ret; exact ⟨by first | rfl | (simp [errW_none, errW_some] <;> rfl) | (simp only [← hji7, ← hji11]; first | rfl | (simp [errW_none, errW_some] <;> rfl)) | (simp [*, errW_none, errW_some] <;> rfl), by repeat (first | (with_reducible first | exact HB.out | apply below_alloc | apply pw_below_drewN | apply below_drew1) | exact HB.out)⟩))
     ·rw [if_neg c24] at H
      have c24b0 : (t221 == (wrap64 ((ji7) + 1))) = false := beq_eq_false_iff_ne.mpr c24
      have c24b1 : (t221 != (wrap64 ((ji7) + 1))) = true := bne_iff_ne.mpr c24
      obtain rfl := Option.some.inj H
      go_enter Tryd.func5, Tryd.ntmps5
      try go_wp2_with (first | ((with_reducible refine gate_callee (f := 8) rfl ?_); refine goesL_ (some 13) rfl rfl Tryd.func8 (by kernel_rfl) rfl #[.slice A0 l0.length c0] rfl (by (try simp only [List.map_toArray, List.map_cons, List.map_nil]); first | done | rfl | (simp only [List.length_drop, List.length_take]; rfl)) ?_; (with_reducible refine (exequaturlaw24_small.calls _ _ l0 true _ ?side1 ?side2 A4.out).mono ?_); (case side1 => repeat (first | exact HR0.out | (with_reducible refine Kd.C_alloc ?_ _) | (with_reducible refine Kd.C_drewN ?_ _) | (with_reducible refine Kd.C_drew ?_))); (case side2 => exact HC0.out); rintro e w37 ⟨rfl, hb⟩; refine ⟨_, rfl, ?_⟩; have n0_ := Aside0.mk (below_step (by repeat (first | (with_reducible first | exact HB.out | apply below_alloc | apply pw_below_drewN | apply below_drew1) | exact HB.out)) hb); clear HB; have HB := n0_; clear n0_; (try clear hb); (try clear hb2); (try clear hk); (try clear hi)) | ((with_reducible refine gate_dst (N := 16) rfl ?_); (try (refine gate_guard (by rfl) ?_; dsimp only)); refine Kd.R_lit Kd.string _ 9 ?hg (N := 16) ?hd (xs := ([(⟨#[]⟩ : ByteArray), (⟨#[49]⟩ : ByteArray), (⟨#[49, 32, 48, 32, 120, 32, 120, 32, 120, 32, 120, 32, 120, 32, 120, 32, 120, 32, 120, 32, 120]⟩ : ByteArray), (⟨#[48, 49, 32, 48, 32, 120, 32, 120, 32, 120, 32, 120, 32, 120, 32, 120, 32, 120, 32, 120, 32, 120, 32, 120]⟩ : ByteArray), (⟨#[49, 32, 43, 48, 32, 120, 32, 120, 32, 120, 32, 120, 32, 120, 32, 120, 32, 120, 32, 120, 32, 120, 32, 120]⟩ : ByteArray), (⟨#[49, 32, 48, 32, 120, 32, 120, 32, 120, 32, 120, 32, 120, 32, 120, 32, 120, 32, 120, 32, 120, 32, 120, 61]⟩ : ByteArray), (⟨#[49, 32, 48, 32, 120, 32, 120, 32, 120, 32, 120, 32, 120, 32, 120, 32, 120, 32, 120, 32, 120, 32, 120, 65]⟩ : ByteArray), (⟨#[49, 32, 48, 32, 120, 32, 120, 32, 120, 32, 120, 32, 120, 32, 120, 32, 120, 32, 120, 32, 120]⟩ : ByteArray), (⟨#[49, 32, 48, 32, 32, 120, 32, 120, 32, 120, 32, 120, 32, 120, 32, 120, 32, 120, 32, 120, 32, 120, 32, 120]⟩ : ByteArray), (⟨#[49, 32, 48, 32, 120, 32, 120, 32, 120, 32, 120, 32, 120, 32, 120, 32, 120, 32, 120, 32, 120, 32, 121]⟩ : ByteArray), (⟨#[120, 32, 48, 32, 120, 32, 120, 32, 120, 32, 120, 32, 120, 32, 120, 32, 120, 32, 120, 32, 120, 32, 120]⟩ : ByteArray)] : List ByteArray)) (inner := [.string (⟨#[]⟩ : ByteArray), .string (⟨#[49]⟩ : ByteArray), .string (⟨#[49, 32, 48, 32, 120, 32, 120, 32, 120, 32, 120, 32, 120, 32, 120, 32, 120, 32, 120, 32, 120]⟩ : ByteArray), .string (⟨#[48, 49, 32, 48, 32, 120, 32, 120, 32, 120, 32, 120, 32, 120, 32, 120, 32, 120, 32, 120, 32, 120, 32, 120]⟩ : ByteArray), .string (⟨#[49, 32, 43, 48, 32, 120, 32, 120, 32, 120, 32, 120, 32, 120, 32, 120, 32, 120, 32, 120, 32, 120, 32, 120]⟩ : ByteArray), .string (⟨#[49, 32, 48, 32, 120, 32, 120, 32, 120, 32, 120, 32, 120, 32, 120, 32, 120, 32, 120, 32, 120, 32, 120, 61]⟩ : ByteArray), .string (⟨#[49, 32, 48, 32, 120, 32, 120, 32, 120, 32, 120, 32, 120, 32, 120, 32, 120, 32, 120, 32, 120, 32, 120, 65]⟩ : ByteArray), .string (⟨#[49, 32, 48, 32, 120, 32, 120, 32, 120, 32, 120, 32, 120, 32, 120, 32, 120, 32, 120, 32, 120]⟩ : ByteArray), .string (⟨#[49, 32, 48, 32, 32, 120, 32, 120, 32, 120, 32, 120, 32, 120, 32, 120, 32, 120, 32, 120, 32, 120, 32, 120]⟩ : ByteArray), .string (⟨#[49, 32, 48, 32, 120, 32, 120, 32, 120, 32, 120, 32, 120, 32, 120, 32, 120, 32, 120, 32, 120, 32, 121]⟩ : ByteArray), .string (⟨#[120, 32, 48, 32, 120, 32, 120, 32, 120, 32, 120, 32, 120, 32, 120, 32, 120, 32, 120, 32, 120, 32, 120]⟩ : ByteArray)]) (ok := fun _ => True) (okp := fun _ => True) ?hr ?hp (fun _ hk => hk) trivial (Below.refl _ _) (Nat.le_refl _) (by simp) ?_; (case hd => rfl); (case hg => rfl); (case hr => first | (go_simp; done) | (go_simp; rfl)); (case hp => exact (Reps.one (show Kd.M Kd.string _ _ _ (⟨#[]⟩ : ByteArray) [.string (⟨#[]⟩ : ByteArray)] from rfl) (Reps.one (show Kd.M Kd.string _ _ _ (⟨#[49]⟩ : ByteArray) [.string (⟨#[49]⟩ : ByteArray)] from rfl) (Reps.one (show Kd.M Kd.string _ _ _ (⟨#[49, 32, 48, 32, 120, 32, 120, 32, 120, 32, 120, 32, 120, 32, 120, 32, 120, 32, 120, 32, 120]⟩ : ByteArray) [.string (⟨#[49, 32, 48, 32, 120, 32, 120, 32, 120, 32, 120, 32, 120, 32, 120, 32, 120, 32, 120, 32, 120]⟩ : ByteArray)] from rfl) (Reps.one (show Kd.M Kd.string _ _ _ (⟨#[48, 49, 32, 48, 32, 120, 32, 120, 32, 120, 32, 120, 32, 120, 32, 120, 32, 120, 32, 120, 32, 120, 32, 120]⟩ : ByteArray) [.string (⟨#[48, 49, 32, 48, 32, 120, 32, 120, 32, 120, 32, 120, 32, 120, 32, 120, 32, 120, 32, 120, 32, 120, 32, 120]⟩ : ByteArray)] from rfl) (Reps.one (show Kd.M Kd.string _ _ _ (⟨#[49, 32, 43, 48, 32, 120, 32, 120, 32, 120, 32, 120, 32, 120, 32, 120, 32, 120, 32, 120, 32, 120, 32, 120]⟩ : ByteArray) [.string (⟨#[49, 32, 43, 48, 32, 120, 32, 120, 32, 120, 32, 120, 32, 120, 32, 120, 32, 120, 32, 120, 32, 120, 32, 120]⟩ : ByteArray)] from rfl) (Reps.one (show Kd.M Kd.string _ _ _ (⟨#[49, 32, 48, 32, 120, 32, 120, 32, 120, 32, 120, 32, 120, 32, 120, 32, 120, 32, 120, 32, 120, 32, 120, 61]⟩ : ByteArray) [.string (⟨#[49, 32, 48, 32, 120, 32, 120, 32, 120, 32, 120, 32, 120, 32, 120, 32, 120, 32, 120, 32, 120, 32, 120, 61]⟩ : ByteArray)] from rfl) (Reps.one (show Kd.M Kd.string _ _ _ (⟨#[49, 32, 48, 32, 120, 32, 120, 32, 120, 32, 120, 32, 120, 32, 120, 32, 120, 32, 120, 32, 120, 32, 120, 65]⟩ : ByteArray) [.string (⟨#[49, 32, 48, 32, 120, 32, 120, 32, 120, 32, 120, 32, 120, 32, 120, 32, 120, 32, 120, 32, 120, 32, 120, 65]⟩ : ByteArray)] from rfl) (Reps.one (show Kd.M Kd.string _ _ _ (⟨#[49, 32, 48, 32, 120, 32, 120, 32, 120, 32, 120, 32, 120, 32, 120, 32, 120, 32, 120, 32, 120]⟩ : ByteArray) [.string (⟨#[49, 32, 48, 32, 120, 32, 120, 32, 120, 32, 120, 32, 120, 32, 120, 32, 120, 32, 120, 32, 120]⟩ : ByteArray)] from rfl) (Reps.one (show Kd.M Kd.string _ _ _ (⟨#[49, 32, 48, 32, 32, 120, 32, 120, 32, 120, 32, 120, 32, 120, 32, 120, 32, 120, 32, 120, 32, 120, 32, 120]⟩ : ByteArray) [.string (⟨#[49, 32, 48, 32, 32, 120, 32, 120, 32, 120, 32, 120, 32, 120, 32, 120, 32, 120, 32, 120, 32, 120, 32, 120]⟩ : ByteArray)] from rfl) (Reps.one (show Kd.M Kd.string _ _ _ (⟨#[49, 32, 48, 32, 120, 32, 120, 32, 120, 32, 120, 32, 120, 32, 120, 32, 120, 32, 120, 32, 120, 32, 121]⟩ : ByteArray) [.string (⟨#[49, 32, 48, 32, 120, 32, 120, 32, 120, 32, 120, 32, 120, 32, 120, 32, 120, 32, 120, 32, 120, 32, 121]⟩ : ByteArray)] from rfl) (Reps.one (show Kd.M Kd.string _ _ _ (⟨#[120, 32, 48, 32, 120, 32, 120, 32, 120, 32, 120, 32, 120, 32, 120, 32, 120, 32, 120, 32, 120, 32, 120]⟩ : ByteArray) [.string (⟨#[120, 32, 48, 32, 120, 32, 120, 32, 120, 32, 120, 32, 120, 32, 120, 32, 120, 32, 120, 32, 120, 32, 120]⟩ : ByteArray)] from rfl) (Reps.none _ _))))))))))))); intro v205 w38 ho39 hb hg_ hnew_; clear hg_ hnew_; (first | rw [← Ny204.out] at ho39 | (simp only [Int.reduceToNat] at ho39; rw [← Ny204.out] at ho39)); have n0_ := Aside0.mk (Kd.R_lower ho39 (below_size (by repeat (first | (with_reducible first | exact HB.out | apply below_alloc | apply pw_below_drewN | apply below_drew1) | exact HB.out)))); have n1_ := Aside0.mk (below_step (by repeat (first | (with_reducible first | exact HB.out | apply below_alloc | apply pw_below_drewN | apply below_drew1) | exact HB.out)) hb); clear HB; have HO206 := n0_; have HB := n1_; clear n0_ n1_; clear hb ho39))
      have n0_ := Aside0.mk (Kd.R_drew HO206.out)
      have n1_ := Aside0.mk (below_drew1 HB.out)
      clear HO206; clear HB
      have HO206 := n0_
      have HB := n1_
      clear n0_ n1_
      have q41 : ((ji7) : Int) ≤ ((l0.length : Int) : Int) := of_decide_eq_true (by first | (with_reducible assumption) | assumption)
      obtain ⟨i041, hi041, _, hsz41, _⟩ := info_parts info36
      have hroom41 : l0.length ≤ c0 := HC0.out
      have hC41 : Kd.C k36 _ A0 l0.length l0 := HR0.out
      have hcut41 := cut_to (P := Tryd.prog) 22 36 .i64 Tryd.underlying22 hi041 A0 l0.length c0 (ji7) (of_decide_eq_true (by first | (with_reducible assumption) | assumption)) q41 hroom41
      have hr41 := Kd.C_take (m := ((ji7) : Int).toNat) hC41 (by omega)
      have hy41 : y207.length = ((ji7) : Int).toNat := (by rw [Ny207.out, List.length_take]; omega)
      rw [← Ny207.out] at hr41
      rw [← hy41] at hcut41
      have HR210 := Aside0.mk hr41
      have HC210 := Aside0.mk (show y207.length ≤ c0 from by omega)
      clear hr41 hC41 hroom41 hi041 hsz41
      have KY41 := Aside0.mk hy41
      clear hy41
      replace q41 := eq_true q41
      obtain ⟨Ao42, co42, eo42⟩ := Kd.R_slice HO206.out
      (first | subst eo42 | (injection eo42 with f1_ f2_ f3_; have f4_ := f1_.symm; have f5_ := f3_.symm; clear f1_ f2_ f3_; subst f4_; subst f5_))
      have p212 : 0 ≤ ((ji11) : Int) := of_decide_eq_true (by first | (with_reducible assumption) | assumption)
      have q212 : (ji11) < (y204.length : Int) := of_decide_eq_true (by first | (with_reducible assumption) | assumption)
      obtain ⟨ad212, e212, hx212_0⟩ := Kd.at_string (Kd.R_reads' HO206.out).2.2 (ji11) p212 q212
      cases e212
      replace p212 := eq_true p212
      replace q212 := eq_true q212
      have q43 : ((ji7) : Int) ≤ ((l0.length : Int) : Int) := of_decide_eq_true (by first | (with_reducible assumption) | assumption)
      obtain ⟨i043, hi043, _, hsz43, _⟩ := info_parts info36
      have hroom43 : l0.length ≤ c0 := HC0.out
      have hC43 : Kd.C k36 _ A0 l0.length l0 := HR0.out
      have q043 : (0 : Int) ≤ ((ji7) : Int) := of_decide_eq_true (by first | (with_reducible assumption) | assumption)
      have hcut43 := cut_from (P := Tryd.prog) 22 36 .i64 Tryd.underlying22 hi043 13 hsz43 A0 l0.length c0 (ji7) q043 q43
      have hr43 := Kd.C_drop (m := ((ji7) : Int).toNat) (c := c0) hC43 (by omega) hroom43
      obtain ⟨A43, hA43⟩ : ∃ A1, A1 = (if c0 = ((ji7) : Int).toNat then A0 else (A0 : Option Addr).map (·.add (((ji7) : Int).toNat * 13))) := ⟨_, rfl⟩
      obtain ⟨c43, hc43⟩ : ∃ c1, c1 = c0 - ((ji7) : Int).toNat := ⟨_, rfl⟩
      have hy43 : y213.length = l0.length - ((ji7) : Int).toNat := (by rw [Ny213.out, List.length_drop] <;> omega)
      rw [show (l0).drop ((ji7) : Int).toNat = y213 from Ny213.out.symm] at hr43
      replace hr43 : Kd.C k36 _ A43 y213.length y213 := (by rw [hA43]; exact hr43)
      rw [← hy43, ← hA43, ← hc43] at hcut43
      have HR216 := Aside0.mk hr43
      have HC216 := Aside0.mk (show y213.length ≤ c43 from by rw [hy43, hc43]; exact Nat.sub_le_sub_right hroom43 _)
      clear hr43 hC43 hroom43 hi043 hsz43 hc43
      have KY43 := Aside0.mk hy43
      have KA43 := Aside0.mk hA43
      clear hy43 hA43
      replace q43 := eq_true q43
      refine start_ (n := 24) (S := fun w' => w'.cell? (ad212.add ((ji11)).toNat) = some (.string (rdOf ByteArray.empty y204 (ji11)))) (ds := []) #[false, false, false, false, false, false, false, false, false, false, false, false, false, false, false, false, false, false, false, false, false, false, false, false] (by kernel_rfl) rfl rfl (hx212_0) (fun hHeld => ?_); refine with_tabW exequaturlaw24_ScriptLine.tab5 exequaturlaw24_ScriptLine.bits5 (fun HT_ HW_ => ?_)
      generalize w38.drew = w40 at HO206 HB HR210 HR216 hx212_0 hHeld ⊢
      refine pure_ (i := 0) (N := some 24) (v := ?_) (a' := ?_) #[true, false, false, false, false, false, false, false, false, false, false, false, false, false, false, false, false, false, false, false, false, false, false, false] rfl rfl (any_of HT_.out (by kernel_rfl)) (fun _ _ _ h => h) (Or.inl ⟨by rfl, ?_⟩) ?_ ?_
      rotate_left
      ·intro w'
       go_simp
       with_reducible rfl
      rotate_left
      ·simp only [Act.put, List.setIfInBounds_toArray, List.set_cons_zero, List.set_cons_succ, i64_w, i32_w]
       rfl
      refine pure_ (i := 1) (N := some 25) (v := ?_) (a' := ?_) #[true, true, false, false, false, false, false, false, false, false, false, false, false, false, false, false, false, false, false, false, false, false, false, false] rfl rfl (any_of HT_.out (by kernel_rfl)) (fun _ _ _ h => h) (Or.inl ⟨by rfl, ?_⟩) ?_ ?_
      rotate_left
      ·intro w'
       go_simp
       with_reducible rfl
      rotate_left
      ·simp only [Act.put, List.setIfInBounds_toArray, List.set_cons_zero, List.set_cons_succ, i64_w, i32_w]
       rfl
      refine pure_ (i := 2) (N := some 26) (v := ?_) (a' := ?_) #[true, true, true, false, false, false, false, false, false, false, false, false, false, false, false, false, false, false, false, false, false, false, false, false] rfl rfl (any_of HT_.out (by kernel_rfl)) (fun _ _ _ h => h) (Or.inl ⟨by rfl, ?_⟩) ?_ ?_
      rotate_left
      ·intro w'
       go_simp
       with_reducible rfl
      rotate_left
      ·simp only [Act.put, List.setIfInBounds_toArray, List.set_cons_zero, List.set_cons_succ, i64_w, i32_w]
       rfl
      refine pure_ (i := 4) (N := some 28) (v := ?_) (a' := ?_) #[true, true, true, false, true, false, false, false, false, false, false, false, false, false, false, false, false, false, false, false, false, false, false, false] rfl rfl (any_of HT_.out (by kernel_rfl)) (fun _ _ _ h => h) (Or.inl ⟨by rfl, ?_⟩) ?_ ?_
      rotate_left
      ·intro w'
       go_simp
       with_reducible rfl
      rotate_left
      ·simp only [Act.put, List.setIfInBounds_toArray, List.set_cons_zero, List.set_cons_succ, i64_w, i32_w]
       rfl
      refine pure_ (i := 5) (N := some 29) (v := ?_) (a' := ?_) #[true, true, true, false, true, true, false, false, false, false, false, false, false, false, false, false, false, false, false, false, false, false, false, false] rfl rfl (any_of HT_.out (by kernel_rfl)) (fun _ _ _ h => h) (Or.inl ⟨by rfl, ?_⟩) ?_ ?_
      rotate_left
      ·intro w'
       go_simp
       with_reducible rfl
      rotate_left
      ·simp only [Act.put, List.setIfInBounds_toArray, List.set_cons_zero, List.set_cons_succ, i64_w, i32_w]
       rfl
      refine pure_ (i := 6) (N := some 30) (v := ?_) (a' := ?_) #[true, true, true, false, true, true, true, false, false, false, false, false, false, false, false, false, false, false, false, false, false, false, false, false] rfl rfl (any_of HT_.out (by kernel_rfl)) (fun _ _ _ h => h) (Or.inl ⟨by rfl, ?_⟩) ?_ ?_
      rotate_left
      ·intro w'
       go_simp
       with_reducible rfl
      rotate_left
      ·simp only [Act.put, List.setIfInBounds_toArray, List.set_cons_zero, List.set_cons_succ, i64_w, i32_w]
       rfl
      refine pure_ (i := 7) (N := some 31) (v := ?_) (a' := ?_) #[true, true, true, false, true, true, true, true, false, false, false, false, false, false, false, false, false, false, false, false, false, false, false, false] rfl rfl (any_of HT_.out (by kernel_rfl)) (fun _ _ _ h => h) (Or.inl ⟨by rfl, ?_⟩) ?_ ?_
      rotate_left
      ·intro w'
       go_simp
       with_reducible rfl
      rotate_left
      ·simp only [Act.put, List.setIfInBounds_toArray, List.set_cons_zero, List.set_cons_succ, i64_w, i32_w]
       rfl
      refine pure_ (i := 11) (N := some 35) (v := ?_) (a' := ?_) #[true, true, true, false, true, true, true, true, false, false, false, true, false, false, false, false, false, false, false, false, false, false, false, false] rfl rfl (any_of HT_.out (by kernel_rfl)) (fun _ _ _ h => h) (Or.inl ⟨by rfl, ?_⟩) ?_ ?_
      rotate_left
      ·intro w'
       go_simp
       with_reducible rfl
      rotate_left
      ·simp only [Act.put, List.setIfInBounds_toArray, List.set_cons_zero, List.set_cons_succ, i64_w, i32_w]
       rfl
      refine pure_ (i := 12) (N := some 36) (v := ?_) (a' := ?_) #[true, true, true, false, true, true, true, true, false, false, false, true, true, false, false, false, false, false, false, false, false, false, false, false] rfl rfl (any_of HT_.out (by kernel_rfl)) (fun _ _ _ h => h) (Or.inl ⟨by rfl, ?_⟩) ?_ ?_
      rotate_left
      ·intro w'
       go_simp
       with_reducible rfl
      rotate_left
      ·simp only [Act.put, List.setIfInBounds_toArray, List.set_cons_zero, List.set_cons_succ, i64_w, i32_w]
       rfl
      refine pure_ (i := 13) (N := some 37) (v := ?_) (a' := ?_) #[true, true, true, false, true, true, true, true, false, false, false, true, true, true, false, false, false, false, false, false, false, false, false, false] rfl rfl (any_of HT_.out (by kernel_rfl)) (fun _ _ _ h => h) (Or.inl ⟨by rfl, ?_⟩) ?_ ?_
      rotate_left
      ·intro w'
       go_simp
       with_reducible rfl
      rotate_left
      ·simp only [Act.put, List.setIfInBounds_toArray, List.set_cons_zero, List.set_cons_succ, i64_w, i32_w]
       rfl
      refine take_ (i := 8) (N := some 32) (v := ?_) (a' := ?_) #[true, true, true, false, true, true, true, true, true, false, false, true, true, true, false, false, false, false, false, false, false, false, false, false] rfl rfl (take_ofW HT_.out HW_.out (by kernel_rfl)) (fun _ _ _ h => h) (Or.inl ⟨by rfl, ?_⟩) hHeld ?_ ?_
      rotate_left
      ·intro w' s0
       go_simp
       with_reducible rfl
      rotate_left
      ·simp only [Act.put, List.setIfInBounds_toArray, List.set_cons_zero, List.set_cons_succ, i64_w, i32_w]
       rfl
      refine one_ (i := 3) (N := some 27) #[true, true, true, true, true, true, true, true, true, false, false, true, true, true, false, false, false, false, false, false, false, false, false, false] rfl rfl (one_of HT_.out (by kernel_rfl)) (by decide) (fun K hK => ?_)
      refine goes_ Tryd.func12 (by kernel_rfl) rfl #[.slice A0 y207.length c0] (by rfl) rfl rfl (by (try simp only [List.map_toArray, List.map_cons, List.map_nil]); first | done | rfl | (simp only [List.length_drop, List.length_take]; rfl)) ?_
      with_reducible refine (exequaturlaw24_text.calls k _ _ y207 t211 _ ?side1 ?side2 A10.out).mono ?_
      (case side1 => repeat (first | exact (Kd.C_below HR210.out HB.out) | (with_reducible refine Kd.C_alloc ?_ _) | (with_reducible refine Kd.C_drewN ?_ _) | (with_reducible refine Kd.C_drew ?_)))
      (case side2 => exact HC210.out)
      rintro e w44 ⟨rfl, hb⟩
      have HS0_ := (hb.cell (World.block_lt_of_cell? _ _ (hHeld))).trans (hHeld)
      refine ⟨_, rfl, ?_⟩
      have n0_ := Aside0.mk (Kd.R_below (by (with_reducible repeat (first | apply Kd.R_alloc | apply Kd.R_drewN | apply Kd.R_drew)); exact HO206.out) hb)
      have n1_ := Aside0.mk (below_step (by repeat (first | (with_reducible first | exact HB.out | apply below_alloc | apply pw_below_drewN | apply below_drew1) | exact HB.out)) hb)
      clear HO206; clear HB
      have HO206 := n0_
      have HB := n1_
      clear n0_ n1_; (try clear hb); (try clear hb2); (try clear hk); (try clear hi)
      refine hK.out _ _ (HS0_) (fun hHeld => ?_)
      clear hK K
      refine norm_ (a' := ?_) ?_ ?_
      rotate_left
      ·show Act.put _ (some 27) _ = _
       simp only [Act.put, List.setIfInBounds_toArray, List.set_cons_zero, List.set_cons_succ, i64_w, i32_w]
       rfl
      refine pure_ (i := 9) (N := some 33) (v := ?_) (a' := ?_) #[true, true, true, true, true, true, true, true, true, true, false, true, true, true, false, false, false, false, false, false, false, false, false, false] rfl rfl (any_of HT_.out (by kernel_rfl)) (fun _ _ _ h => h) (Or.inl ⟨by rfl, ?_⟩) ?_ ?_
      rotate_left
      ·intro w'
       go_simp
       with_reducible rfl
      rotate_left
      ·simp only [Act.put, List.setIfInBounds_toArray, List.set_cons_zero, List.set_cons_succ, i64_w, i32_w]
       rfl
      refine pure_ (i := 10) (N := some 34) (v := ?_) (a' := ?_) #[true, true, true, true, true, true, true, true, true, true, true, true, true, true, false, false, false, false, false, false, false, false, false, false] rfl rfl (any_of HT_.out (by kernel_rfl)) (fun _ _ _ h => h) (Or.inl ⟨by rfl, ?_⟩) ?_ ?_
      rotate_left
      ·intro w'
       go_simp
       with_reducible rfl
      rotate_left
      ·simp only [Act.put, List.setIfInBounds_toArray, List.set_cons_zero, List.set_cons_succ, i64_w, i32_w]
       rfl
      refine one_ (i := 14) (N := some 38) #[true, true, true, true, true, true, true, true, true, true, true, true, true, true, true, false, false, false, false, false, false, false, false, false] rfl rfl (one_of HT_.out (by kernel_rfl)) (by decide) (fun K hK => ?_)
      refine goes_ Tryd.func12 (by kernel_rfl) rfl #[.slice A43 y213.length c43] (by rfl) rfl rfl (by (try simp only [List.map_toArray, List.map_cons, List.map_nil]); first | done | rfl | (simp only [List.length_drop, List.length_take]; rfl)) ?_
      with_reducible refine (exequaturlaw24_text.calls k _ _ y213 t217 _ ?side1 ?side2 A18.out).mono ?_
      (case side1 => repeat (first | exact (Kd.C_below HR216.out HB.out) | (with_reducible refine Kd.C_alloc ?_ _) | (with_reducible refine Kd.C_drewN ?_ _) | (with_reducible refine Kd.C_drew ?_)))
      (case side2 => exact HC216.out)
      rintro e w45 ⟨rfl, hb⟩
      have HS0_ := (hb.cell (World.block_lt_of_cell? _ _ (hHeld))).trans (hHeld)
      refine ⟨_, rfl, ?_⟩
      have n0_ := Aside0.mk (Kd.R_below (by (with_reducible repeat (first | apply Kd.R_alloc | apply Kd.R_drewN | apply Kd.R_drew)); exact HO206.out) hb)
      have n1_ := Aside0.mk (below_step (by repeat (first | (with_reducible first | exact HB.out | apply below_alloc | apply pw_below_drewN | apply below_drew1) | exact HB.out)) hb)
      clear HO206; clear HB
      have HO206 := n0_
      have HB := n1_
      clear n0_ n1_; (try clear hb); (try clear hb2); (try clear hk); (try clear hi)
      refine hK.out _ _ (HS0_) (fun hHeld => ?_)
      clear hK K
      refine norm_ (a' := ?_) ?_ ?_
      rotate_left
      ·show Act.put _ (some 38) _ = _
       simp only [Act.put, List.setIfInBounds_toArray, List.set_cons_zero, List.set_cons_succ, i64_w, i32_w]
       rfl
      refine pure_ (i := 15) (N := some 39) (v := ?_) (a' := ?_) #[true, true, true, true, true, true, true, true, true, true, true, true, true, true, true, true, false, false, false, false, false, false, false, false] rfl rfl (any_of HT_.out (by kernel_rfl)) (fun _ _ _ h => h) (Or.inl ⟨by rfl, ?_⟩) ?_ ?_
      rotate_left
      ·intro w'
       go_simp
       with_reducible rfl
      rotate_left
      ·simp only [Act.put, List.setIfInBounds_toArray, List.set_cons_zero, List.set_cons_succ, i64_w, i32_w]
       rfl
      refine one_ (i := 16) (N := some 40) #[true, true, true, true, true, true, true, true, true, true, true, true, true, true, true, true, true, false, false, false, false, false, false, false] rfl rfl (one_of HT_.out (by kernel_rfl)) (by decide) (fun K hK => ?_)
      refine goes_ Tryd.func11 (by kernel_rfl) rfl #[.string (((t211 ++ (rdOf ByteArray.empty y204 (ji11))) ++ (⟨#[10]⟩ : ByteArray)) ++ t217)] (by rfl) rfl rfl (by (try simp only [List.map_toArray, List.map_cons, List.map_nil]); first | done | (simp only [hji11]; rfl) | rfl | (simp only [List.length_drop, List.length_take]; rfl)) ?_
      with_reducible refine (script_Parse.calls k (((t211 ++ (rdOf ByteArray.empty y204 (ji11))) ++ (⟨#[10]⟩ : ByteArray)) ++ t217) t218 t221 t222 _ A20.out (hG := GOK.below hG (by repeat (first | (with_reducible first | exact HB.out | apply below_alloc | apply pw_below_drewN | apply below_drew1) | exact HB.out)))).mono ?_
      rintro e w46 ⟨v219, rfl, ho0, hb⟩
      have HS0_ := (hb.cell (World.block_lt_of_cell? _ _ (hHeld))).trans (hHeld)
      refine ⟨_, rfl, ?_⟩
      have n0_ := Aside0.mk (Kd.R_below (by (with_reducible repeat (first | apply Kd.R_alloc | apply Kd.R_drewN | apply Kd.R_drew)); exact HO206.out) hb)
      have n1_ := Aside0.mk (Kd.N_lower (Kd.N_mono (ok' := fun k_ => some k_ ≠ (.slice (some ad212) y204.length co42 : Value).ownBlock) ho0 (fun k_ hk_ => (Kd.fresh' (Kd.R_lt (by (with_reducible repeat (first | apply Kd.R_alloc | apply Kd.R_drewN | apply Kd.R_drew)); exact HO206.out)) k_ hk_))) (below_size (by repeat (first | (with_reducible first | exact HB.out | apply below_alloc | apply pw_below_drewN | apply below_drew1) | exact HB.out))))
      have n2_ := Aside0.mk (below_step (by repeat (first | (with_reducible first | exact HB.out | apply below_alloc | apply pw_below_drewN | apply below_drew1) | exact HB.out)) hb)
      clear HO206; clear HB
      have HO206 := n0_
      have HO220 := n1_
      have HB := n2_
      clear n0_ n1_ n2_; (try clear hb); (try clear hb2); (try clear hk); (try clear hi); (try clear ho0)
      refine hK.out _ _ (HS0_) (fun hHeld => ?_)
      clear hK K
      refine norm_ (a' := ?_) ?_ ?_
      rotate_left
      ·show Act.put _ (some 40) _ = _
       simp only [Act.put, List.setIfInBounds_toArray, List.set_cons_zero, List.set_cons_succ, i64_w, i32_w]
       rfl
      refine pure_ (i := 17) (N := some 23) (v := ?_) (a' := ?_) #[true, true, true, true, true, true, true, true, true, true, true, true, true, true, true, true, true, true, false, false, false, false, false, false] rfl rfl (any_of HT_.out (by kernel_rfl)) (fun _ _ _ h => h) (Or.inl ⟨by rfl, ?_⟩) ?_ ?_
      rotate_left
      ·intro w'
       go_simp
       with_reducible rfl
      rotate_left
      ·simp only [Act.put, List.setIfInBounds_toArray, List.set_cons_zero, List.set_cons_succ, i64_w, i32_w]
       rfl
      refine pure_ (i := 18) (N := some 41) (v := ?_) (a' := ?_) #[true, true, true, true, true, true, true, true, true, true, true, true, true, true, true, true, true, true, true, false, false, false, false, false] rfl rfl (any_of HT_.out (by kernel_rfl)) (fun _ _ _ h => h) (Or.inl ⟨by rfl, ?_⟩) ?_ ?_
      rotate_left
      ·intro w'
       go_simp
       with_reducible rfl
      rotate_left
      ·simp only [Act.put, List.setIfInBounds_toArray, List.set_cons_zero, List.set_cons_succ, i64_w, i32_w]
       rfl
      refine pure_ (i := 19) (N := some 42) (v := ?_) (a' := ?_) #[true, true, true, true, true, true, true, true, true, true, true, true, true, true, true, true, true, true, true, true, false, false, false, false] rfl rfl (any_of HT_.out (by kernel_rfl)) (fun _ _ _ h => h) (Or.inl ⟨by rfl, ?_⟩) ?_ ?_
      rotate_left
      ·intro w'
       go_simp
       with_reducible rfl
      rotate_left
      ·simp only [Act.put, List.setIfInBounds_toArray, List.set_cons_zero, List.set_cons_succ, i64_w, i32_w]
       rfl
      refine pure_ (i := 20) (N := some 43) (v := ?_) (a' := ?_) #[true, true, true, true, true, true, true, true, true, true, true, true, true, true, true, true, true, true, true, true, true, false, false, false] rfl rfl (any_of HT_.out (by kernel_rfl)) (fun _ _ _ h => h) (Or.inl ⟨by rfl, ?_⟩) ?_ ?_
      rotate_left
      ·intro w'
       go_simp
       with_reducible rfl
      rotate_left
      ·simp only [Act.put, List.setIfInBounds_toArray, List.set_cons_zero, List.set_cons_succ, i64_w, i32_w]
       rfl
      refine pure_ (i := 21) (N := some 9) (v := ?_) (a' := ?_) #[true, true, true, true, true, true, true, true, true, true, true, true, true, true, true, true, true, true, true, true, true, true, false, false] rfl rfl (any_of HT_.out (by kernel_rfl)) (fun _ _ _ h => h) (Or.inl ⟨by rfl, ?_⟩) ?_ ?_
      rotate_left
      ·intro w'
       go_simp
       with_reducible rfl
      rotate_left
      ·simp only [Act.put, List.setIfInBounds_toArray, List.set_cons_zero, List.set_cons_succ, i64_w, i32_w]
       rfl
      refine pure_ (i := 22) (N := some 10) (v := ?_) (a' := ?_) #[true, true, true, true, true, true, true, true, true, true, true, true, true, true, true, true, true, true, true, true, true, true, true, false] rfl rfl (any_of HT_.out (by kernel_rfl)) (fun _ _ _ h => h) (Or.inl ⟨by rfl, ?_⟩) ?_ ?_
      rotate_left
      ·intro w'
       go_simp
       with_reducible rfl
      rotate_left
      ·simp only [Act.put, List.setIfInBounds_toArray, List.set_cons_zero, List.set_cons_succ, i64_w, i32_w]
       rfl
      refine pure_ (i := 23) (N := some 11) (v := ?_) (a' := ?_) #[true, true, true, true, true, true, true, true, true, true, true, true, true, true, true, true, true, true, true, true, true, true, true, true] rfl rfl (any_of HT_.out (by kernel_rfl)) (fun _ _ _ h => h) (Or.inl ⟨by rfl, ?_⟩) ?_ ?_
      rotate_left
      ·intro w'
       go_simp
       with_reducible rfl
      rotate_left
      ·simp only [Act.put, List.setIfInBounds_toArray, List.set_cons_zero, List.set_cons_succ, i64_w, i32_w]
       rfl
      refine done_ (done_of HT_.out (by kernel_rfl)) ?_
      try go_wp2_with (first | ((with_reducible refine gate_callee (f := 9) rfl ?_); refine goesL_ (some 44) rfl rfl Tryd.func9 (by kernel_rfl) rfl #[] rfl (by (try simp only [List.map_toArray, List.map_cons, List.map_nil]); first | done | rfl | (simp only [List.length_drop, List.length_take]; rfl)) ?_; (with_reducible refine (exequaturlaw24_answers.calls k  true _ A21.out (hG := GOK.below hG (by repeat (first | (with_reducible first | exact HB.out | apply below_alloc | apply pw_below_drewN | apply below_drew1) | exact HB.out)))).mono ?_); rintro e w47 ⟨rfl, hb⟩; refine ⟨_, rfl, ?_⟩; have n0_ := Aside0.mk (Kd.R_below (by (with_reducible repeat (first | apply Kd.R_alloc | apply Kd.R_drewN | apply Kd.R_drew)); exact HO206.out) hb); have n1_ := Aside0.mk (Kd.N_below (by (with_reducible repeat (first | apply Kd.N_alloc | apply Kd.N_drewN | apply Kd.N_drew)); exact HO220.out) hb); have n2_ := Aside0.mk (below_step (by repeat (first | (with_reducible first | exact HB.out | apply below_alloc | apply pw_below_drewN | apply below_drew1) | exact HB.out)) hb); clear HO206; clear HO220; clear HB; have HO206 := n0_; have HO220 := n1_; have HB := n2_; clear n0_ n1_ n2_; (try clear hb); (try clear hb2); (try clear hk); (try clear hi)))
      go_ret
      first | (exact ⟨by first | rfl | (simp [errW_none, errW_some] <;> rfl) | (simp only [← hji7, ← hji11]; first | rfl | (simp [errW_none, errW_some] <;> rfl)) | (simp [*, errW_none, errW_some] <;> rfl), by repeat (first | (with_reducible first | exact HB.out | apply below_alloc | apply pw_below_drewN | apply below_drew1) | exact HB.out)⟩) | (focus (exfalso; simp_all; done))
      all_goals (first | (exfalso; simp_all <;> omega) | (go_ret; exact ⟨by first | rfl | (simp [errW_none, errW_some] <;> rfl) | (simp only [← hji7, ← hji11]; first | rfl | (simp [errW_none, errW_some] <;> rfl)) | (simp [*, errW_none, errW_some] <;> rfl), by repeat (first | (with_reducible first | exact HB.out | apply below_alloc | apply pw_below_drewN | apply below_drew1) | exact HB.out)⟩))
    ·rw [if_neg c23] at H
     have c23b0 : (t222 == 11) = false := beq_eq_false_iff_ne.mpr c23
     have c23b1 : (t222 != 11) = true := bne_iff_ne.mpr c23
     obtain rfl := Option.some.inj H
     go_enter Tryd.func5, Tryd.ntmps5
     try go_wp2_with (first | ((with_reducible refine gate_callee (f := 8) rfl ?_); refine goesL_ (some 13) rfl rfl Tryd.func8 (by kernel_rfl) rfl #[.slice A0 l0.length c0] rfl (by (try simp only [List.map_toArray, List.map_cons, List.map_nil]); first | done | rfl | (simp only [List.length_drop, List.length_take]; rfl)) ?_; (with_reducible refine (exequaturlaw24_small.calls _ _ l0 true _ ?side1 ?side2 A4.out).mono ?_); (case side1 => repeat (first | exact HR0.out | (with_reducible refine Kd.C_alloc ?_ _) | (with_reducible refine Kd.C_drewN ?_ _) | (with_reducible refine Kd.C_drew ?_))); (case side2 => exact HC0.out); rintro e w48 ⟨rfl, hb⟩; refine ⟨_, rfl, ?_⟩; have n0_ := Aside0.mk (below_step (by repeat (first | (with_reducible first | exact HB.out | apply below_alloc | apply pw_below_drewN | apply below_drew1) | exact HB.out)) hb); clear HB; have HB := n0_; clear n0_; (try clear hb); (try clear hb2); (try clear hk); (try clear hi)) | ((with_reducible refine gate_dst (N := 16) rfl ?_); (try (refine gate_guard (by rfl) ?_; dsimp only)); refine Kd.R_lit Kd.string _ 9 ?hg (N := 16) ?hd (xs := ([(⟨#[]⟩ : ByteArray), (⟨#[49]⟩ : ByteArray), (⟨#[49, 32, 48, 32, 120, 32, 120, 32, 120, 32, 120, 32, 120, 32, 120, 32, 120, 32, 120, 32, 120]⟩ : ByteArray), (⟨#[48, 49, 32, 48, 32, 120, 32, 120, 32, 120, 32, 120, 32, 120, 32, 120, 32, 120, 32, 120, 32, 120, 32, 120]⟩ : ByteArray), (⟨#[49, 32, 43, 48, 32, 120, 32, 120, 32, 120, 32, 120, 32, 120, 32, 120, 32, 120, 32, 120, 32, 120, 32, 120]⟩ : ByteArray), (⟨#[49, 32, 48, 32, 120, 32, 120, 32, 120, 32, 120, 32, 120, 32, 120, 32, 120, 32, 120, 32, 120, 32, 120, 61]⟩ : ByteArray), (⟨#[49, 32, 48, 32, 120, 32, 120, 32, 120, 32, 120, 32, 120, 32, 120, 32, 120, 32, 120, 32, 120, 32, 120, 65]⟩ : ByteArray), (⟨#[49, 32, 48, 32, 120, 32, 120, 32, 120, 32, 120, 32, 120, 32, 120, 32, 120, 32, 120, 32, 120]⟩ : ByteArray), (⟨#[49, 32, 48, 32, 32, 120, 32, 120, 32, 120, 32, 120, 32, 120, 32, 120, 32, 120, 32, 120, 32, 120, 32, 120]⟩ : ByteArray), (⟨#[49, 32, 48, 32, 120, 32, 120, 32, 120, 32, 120, 32, 120, 32, 120, 32, 120, 32, 120, 32, 120, 32, 121]⟩ : ByteArray), (⟨#[120, 32, 48, 32, 120, 32, 120, 32, 120, 32, 120, 32, 120, 32, 120, 32, 120, 32, 120, 32, 120, 32, 120]⟩ : ByteArray)] : List ByteArray)) (inner := [.string (⟨#[]⟩ : ByteArray), .string (⟨#[49]⟩ : ByteArray), .string (⟨#[49, 32, 48, 32, 120, 32, 120, 32, 120, 32, 120, 32, 120, 32, 120, 32, 120, 32, 120, 32, 120]⟩ : ByteArray), .string (⟨#[48, 49, 32, 48, 32, 120, 32, 120, 32, 120, 32, 120, 32, 120, 32, 120, 32, 120, 32, 120, 32, 120, 32, 120]⟩ : ByteArray), .string (⟨#[49, 32, 43, 48, 32, 120, 32, 120, 32, 120, 32, 120, 32, 120, 32, 120, 32, 120, 32, 120, 32, 120, 32, 120]⟩ : ByteArray), .string (⟨#[49, 32, 48, 32, 120, 32, 120, 32, 120, 32, 120, 32, 120, 32, 120, 32, 120, 32, 120, 32, 120, 32, 120, 61]⟩ : ByteArray), .string (⟨#[49, 32, 48, 32, 120, 32, 120, 32, 120, 32, 120, 32, 120, 32, 120, 32, 120, 32, 120, 32, 120, 32, 120, 65]⟩ : ByteArray), .string (⟨#[49, 32, 48, 32, 120, 32, 120, 32, 120, 32, 120, 32, 120, 32, 120, 32, 120, 32, 120, 32, 120]⟩ : ByteArray), .string (⟨#[49, 32, 48, 32, 32, 120, 32, 120, 32, 120, 32, 120, 32, 120, 32, 120, 32, 120, 32, 120, 32, 120, 32, 120]⟩ : ByteArray), .string (⟨#[49, 32, 48, 32, 120, 32, 120, 32, 120, 32, 120, 32, 120, 32, 120, 32, 120, 32, 120, 32, 120, 32, 121]⟩ : ByteArray), .string (⟨#[120, 32, 48, 32, 120, 32, 120, 32, 120, 32, 120, 32, 120, 32, 120, 32, 120, 32, 120, 32, 120, 32, 120]⟩ : ByteArray)]) (ok := fun _ => True) (okp := fun _ => True) ?hr ?hp (fun _ hk => hk) trivial (Below.refl _ _) (Nat.le_refl _) (by simp) ?_; (case hd => rfl); (case hg => rfl); (case hr => first | (go_simp; done) | (go_simp; rfl)); (case hp => exact (Reps.one (show Kd.M Kd.string _ _ _ (⟨#[]⟩ : ByteArray) [.string (⟨#[]⟩ : ByteArray)] from rfl) (Reps.one (show Kd.M Kd.string _ _ _ (⟨#[49]⟩ : ByteArray) [.string (⟨#[49]⟩ : ByteArray)] from rfl) (Reps.one (show Kd.M Kd.string _ _ _ (⟨#[49, 32, 48, 32, 120, 32, 120, 32, 120, 32, 120, 32, 120, 32, 120, 32, 120, 32, 120, 32, 120]⟩ : ByteArray) [.string (⟨#[49, 32, 48, 32, 120, 32, 120, 32, 120, 32, 120, 32, 120, 32, 120, 32, 120, 32, 120, 32, 120]⟩ : ByteArray)] from rfl) (Reps.one (show Kd.M Kd.string _ _ _ (⟨#[48, 49, 32, 48, 32, 120, 32, 120, 32, 120, 32, 120, 32, 120, 32, 120, 32, 120, 32, 120, 32, 120, 32, 120]⟩ : ByteArray) [.string (⟨#[48, 49, 32, 48, 32, 120, 32, 120, 32, 120, 32, 120, 32, 120, 32, 120, 32, 120, 32, 120, 32, 120, 32, 120]⟩ : ByteArray)] from rfl) (Reps.one (show Kd.M Kd.string _ _ _ (⟨#[49, 32, 43, 48, 32, 120, 32, 120, 32, 120, 32, 120, 32, 120, 32, 120, 32, 120, 32, 120, 32, 120, 32, 120]⟩ : ByteArray) [.string (⟨#[49, 32, 43, 48, 32, 120, 32, 120, 32, 120, 32, 120, 32, 120, 32, 120, 32, 120, 32, 120, 32, 120, 32, 120]⟩ : ByteArray)] from rfl) (Reps.one (show Kd.M Kd.string _ _ _ (⟨#[49, 32, 48, 32, 120, 32, 120, 32, 120, 32, 120, 32, 120, 32, 120, 32, 120, 32, 120, 32, 120, 32, 120, 61]⟩ : ByteArray) [.string (⟨#[49, 32, 48, 32, 120, 32, 120, 32, 120, 32, 120, 32, 120, 32, 120, 32, 120, 32, 120, 32, 120, 32, 120, 61]⟩ : ByteArray)] from rfl) (Reps.one (show Kd.M Kd.string _ _ _ (⟨#[49, 32, 48, 32, 120, 32, 120, 32, 120, 32, 120, 32, 120, 32, 120, 32, 120, 32, 120, 32, 120, 32, 120, 65]⟩ : ByteArray) [.string (⟨#[49, 32, 48, 32, 120, 32, 120, 32, 120, 32, 120, 32, 120, 32, 120, 32, 120, 32, 120, 32, 120, 32, 120, 65]⟩ : ByteArray)] from rfl) (Reps.one (show Kd.M Kd.string _ _ _ (⟨#[49, 32, 48, 32, 120, 32, 120, 32, 120, 32, 120, 32, 120, 32, 120, 32, 120, 32, 120, 32, 120]⟩ : ByteArray) [.string (⟨#[49, 32, 48, 32, 120, 32, 120, 32, 120, 32, 120, 32, 120, 32, 120, 32, 120, 32, 120, 32, 120]⟩ : ByteArray)] from rfl) (Reps.one (show Kd.M Kd.string _ _ _ (⟨#[49, 32, 48, 32, 32, 120, 32, 120, 32, 120, 32, 120, 32, 120, 32, 120, 32, 120, 32, 120, 32, 120, 32, 120]⟩ : ByteArray) [.string (⟨#[49, 32, 48, 32, 32, 120, 32, 120, 32, 120, 32, 120, 32, 120, 32, 120, 32, 120, 32, 120, 32, 120, 32, 120]⟩ : ByteArray)] from rfl) (Reps.one (show Kd.M Kd.string _ _ _ (⟨#[49, 32, 48, 32, 120, 32, 120, 32, 120, 32, 120, 32, 120, 32, 120, 32, 120, 32, 120, 32, 120, 32, 121]⟩ : ByteArray) [.string (⟨#[49, 32, 48, 32, 120, 32, 120, 32, 120, 32, 120, 32, 120, 32, 120, 32, 120, 32, 120, 32, 120, 32, 121]⟩ : ByteArray)] from rfl) (Reps.one (show Kd.M Kd.string _ _ _ (⟨#[120, 32, 48, 32, 120, 32, 120, 32, 120, 32, 120, 32, 120, 32, 120, 32, 120, 32, 120, 32, 120, 32, 120]⟩ : ByteArray) [.string (⟨#[120, 32, 48, 32, 120, 32, 120, 32, 120, 32, 120, 32, 120, 32, 120, 32, 120, 32, 120, 32, 120, 32, 120]⟩ : ByteArray)] from rfl) (Reps.none _ _))))))))))))); intro v205 w49 ho50 hb hg_ hnew_; clear hg_ hnew_; (first | rw [← Ny204.out] at ho50 | (simp only [Int.reduceToNat] at ho50; rw [← Ny204.out] at ho50)); have n0_ := Aside0.mk (Kd.R_lower ho50 (below_size (by repeat (first | (with_reducible first | exact HB.out | apply below_alloc | apply pw_below_drewN | apply below_drew1) | exact HB.out)))); have n1_ := Aside0.mk (below_step (by repeat (first | (with_reducible first | exact HB.out | apply below_alloc | apply pw_below_drewN | apply below_drew1) | exact HB.out)) hb); clear HB; have HO206 := n0_; have HB := n1_; clear n0_ n1_; clear hb ho50))
     have n0_ := Aside0.mk (Kd.R_drew HO206.out)
     have n1_ := Aside0.mk (below_drew1 HB.out)
     clear HO206; clear HB
     have HO206 := n0_
     have HB := n1_
     clear n0_ n1_
     have q52 : ((ji7) : Int) ≤ ((l0.length : Int) : Int) := of_decide_eq_true (by first | (with_reducible assumption) | assumption)
     obtain ⟨i052, hi052, _, hsz52, _⟩ := info_parts info36
     have hroom52 : l0.length ≤ c0 := HC0.out
     have hC52 : Kd.C k36 _ A0 l0.length l0 := HR0.out
     have hcut52 := cut_to (P := Tryd.prog) 22 36 .i64 Tryd.underlying22 hi052 A0 l0.length c0 (ji7) (of_decide_eq_true (by first | (with_reducible assumption) | assumption)) q52 hroom52
     have hr52 := Kd.C_take (m := ((ji7) : Int).toNat) hC52 (by omega)
     have hy52 : y207.length = ((ji7) : Int).toNat := (by rw [Ny207.out, List.length_take]; omega)
     rw [← Ny207.out] at hr52
     rw [← hy52] at hcut52
     have HR210 := Aside0.mk hr52
     have HC210 := Aside0.mk (show y207.length ≤ c0 from by omega)
     clear hr52 hC52 hroom52 hi052 hsz52
     have KY52 := Aside0.mk hy52
     clear hy52
     replace q52 := eq_true q52
     obtain ⟨Ao53, co53, eo53⟩ := Kd.R_slice HO206.out
     (first | subst eo53 | (injection eo53 with f1_ f2_ f3_; have f4_ := f1_.symm; have f5_ := f3_.symm; clear f1_ f2_ f3_; subst f4_; subst f5_))
     have p212 : 0 ≤ ((ji11) : Int) := of_decide_eq_true (by first | (with_reducible assumption) | assumption)
     have q212 : (ji11) < (y204.length : Int) := of_decide_eq_true (by first | (with_reducible assumption) | assumption)
     obtain ⟨ad212, e212, hx212_0⟩ := Kd.at_string (Kd.R_reads' HO206.out).2.2 (ji11) p212 q212
     cases e212
     replace p212 := eq_true p212
     replace q212 := eq_true q212
     have q54 : ((ji7) : Int) ≤ ((l0.length : Int) : Int) := of_decide_eq_true (by first | (with_reducible assumption) | assumption)
     obtain ⟨i054, hi054, _, hsz54, _⟩ := info_parts info36
     have hroom54 : l0.length ≤ c0 := HC0.out
     have hC54 : Kd.C k36 _ A0 l0.length l0 := HR0.out
     have q054 : (0 : Int) ≤ ((ji7) : Int) := of_decide_eq_true (by first | (with_reducible assumption) | assumption)
     have hcut54 := cut_from (P := Tryd.prog) 22 36 .i64 Tryd.underlying22 hi054 13 hsz54 A0 l0.length c0 (ji7) q054 q54
     have hr54 := Kd.C_drop (m := ((ji7) : Int).toNat) (c := c0) hC54 (by omega) hroom54
     obtain ⟨A54, hA54⟩ : ∃ A1, A1 = (if c0 = ((ji7) : Int).toNat then A0 else (A0 : Option Addr).map (·.add (((ji7) : Int).toNat * 13))) := ⟨_, rfl⟩
     obtain ⟨c54, hc54⟩ : ∃ c1, c1 = c0 - ((ji7) : Int).toNat := ⟨_, rfl⟩
     have hy54 : y213.length = l0.length - ((ji7) : Int).toNat := (by rw [Ny213.out, List.length_drop] <;> omega)
     rw [show (l0).drop ((ji7) : Int).toNat = y213 from Ny213.out.symm] at hr54
     replace hr54 : Kd.C k36 _ A54 y213.length y213 := (by rw [hA54]; exact hr54)
     rw [← hy54, ← hA54, ← hc54] at hcut54
     have HR216 := Aside0.mk hr54
     have HC216 := Aside0.mk (show y213.length ≤ c54 from by rw [hy54, hc54]; exact Nat.sub_le_sub_right hroom54 _)
     clear hr54 hC54 hroom54 hi054 hsz54 hc54
     have KY54 := Aside0.mk hy54
     have KA54 := Aside0.mk hA54
     clear hy54 hA54
     replace q54 := eq_true q54
     refine start_ (n := 24) (S := fun w' => w'.cell? (ad212.add ((ji11)).toNat) = some (.string (rdOf ByteArray.empty y204 (ji11)))) (ds := []) #[false, false, false, false, false, false, false, false, false, false, false, false, false, false, false, false, false, false, false, false, false, false, false, false] (by kernel_rfl) rfl rfl (hx212_0) (fun hHeld => ?_); refine with_tabW exequaturlaw24_ScriptLine.tab5 exequaturlaw24_ScriptLine.bits5 (fun HT_ HW_ => ?_)
     generalize w49.drew = w51 at HO206 HB HR210 HR216 hx212_0 hHeld ⊢
     refine pure_ (i := 0) (N := some 24) (v := ?_) (a' := ?_) #[true, false, false, false, false, false, false, false, false, false, false, false, false, false, false, false, false, false, false, false, false, false, false, false] rfl rfl (any_of HT_.out (by kernel_rfl)) (fun _ _ _ h => h) (Or.inl ⟨by rfl, ?_⟩) ?_ ?_
     rotate_left
     ·intro w'
      go_simp
      with_reducible rfl
     rotate_left
     ·simp only [Act.put, List.setIfInBounds_toArray, List.set_cons_zero, List.set_cons_succ, i64_w, i32_w]
      rfl
     refine pure_ (i := 1) (N := some 25) (v := ?_) (a' := ?_) #[true, true, false, false, false, false, false, false, false, false, false, false, false, false, false, false, false, false, false, false, false, false, false, false] rfl rfl (any_of HT_.out (by kernel_rfl)) (fun _ _ _ h => h) (Or.inl ⟨by rfl, ?_⟩) ?_ ?_
     rotate_left
     ·intro w'
      go_simp
      with_reducible rfl
     rotate_left
     ·simp only [Act.put, List.setIfInBounds_toArray, List.set_cons_zero, List.set_cons_succ, i64_w, i32_w]
      rfl
     refine pure_ (i := 2) (N := some 26) (v := ?_) (a' := ?_) #[true, true, true, false, false, false, false, false, false, false, false, false, false, false, false, false, false, false, false, false, false, false, false, false] rfl rfl (any_of HT_.out (by kernel_rfl)) (fun _ _ _ h => h) (Or.inl ⟨by rfl, ?_⟩) ?_ ?_
     rotate_left
     ·intro w'
      go_simp
      with_reducible rfl
     rotate_left
     ·simp only [Act.put, List.setIfInBounds_toArray, List.set_cons_zero, List.set_cons_succ, i64_w, i32_w]
      rfl
     refine pure_ (i := 4) (N := some 28) (v := ?_) (a' := ?_) #[true, true, true, false, true, false, false, false, false, false, false, false, false, false, false, false, false, false, false, false, false, false, false, false] rfl rfl (any_of HT_.out (by kernel_rfl)) (fun _ _ _ h => h) (Or.inl ⟨by rfl, ?_⟩) ?_ ?_
     rotate_left
     ·intro w'
      go_simp
      with_reducible rfl
     rotate_left
     ·simp only [Act.put, List.setIfInBounds_toArray, List.set_cons_zero, List.set_cons_succ, i64_w, i32_w]
      rfl
     refine pure_ (i := 5) (N := some 29) (v := ?_) (a' := ?_) #[true, true, true, false, true, true, false, false, false, false, false, false, false, false, false, false, false, false, false, false, false, false, false, false] rfl rfl (any_of HT_.out (by kernel_rfl)) (fun _ _ _ h => h) (Or.inl ⟨by rfl, ?_⟩) ?_ ?_
     rotate_left
     ·intro w'
      go_simp
      with_reducible rfl
     rotate_left
     ·simp only [Act.put, List.setIfInBounds_toArray, List.set_cons_zero, List.set_cons_succ, i64_w, i32_w]
      rfl
     refine pure_ (i := 6) (N := some 30) (v := ?_) (a' := ?_) #[true, true, true, false, true, true, true, false, false, false, false, false, false, false, false, false, false, false, false, false, false, false, false, false] rfl rfl (any_of HT_.out (by kernel_rfl)) (fun _ _ _ h => h) (Or.inl ⟨by rfl, ?_⟩) ?_ ?_
     rotate_left
     ·intro w'
      go_simp
      with_reducible rfl
     rotate_left
     ·simp only [Act.put, List.setIfInBounds_toArray, List.set_cons_zero, List.set_cons_succ, i64_w, i32_w]
      rfl
     refine pure_ (i := 7) (N := some 31) (v := ?_) (a' := ?_) #[true, true, true, false, true, true, true, true, false, false, false, false, false, false, false, false, false, false, false, false, false, false, false, false] rfl rfl (any_of HT_.out (by kernel_rfl)) (fun _ _ _ h => h) (Or.inl ⟨by rfl, ?_⟩) ?_ ?_
     rotate_left
     ·intro w'
      go_simp
      with_reducible rfl
     rotate_left
     ·simp only [Act.put, List.setIfInBounds_toArray, List.set_cons_zero, List.set_cons_succ, i64_w, i32_w]
      rfl
     refine pure_ (i := 11) (N := some 35) (v := ?_) (a' := ?_) #[true, true, true, false, true, true, true, true, false, false, false, true, false, false, false, false, false, false, false, false, false, false, false, false] rfl rfl (any_of HT_.out (by kernel_rfl)) (fun _ _ _ h => h) (Or.inl ⟨by rfl, ?_⟩) ?_ ?_
     rotate_left
     ·intro w'
      go_simp
      with_reducible rfl
     rotate_left
     ·simp only [Act.put, List.setIfInBounds_toArray, List.set_cons_zero, List.set_cons_succ, i64_w, i32_w]
      rfl
     refine pure_ (i := 12) (N := some 36) (v := ?_) (a' := ?_) #[true, true, true, false, true, true, true, true, false, false, false, true, true, false, false, false, false, false, false, false, false, false, false, false] rfl rfl (any_of HT_.out (by kernel_rfl)) (fun _ _ _ h => h) (Or.inl ⟨by rfl, ?_⟩) ?_ ?_
     rotate_left
     ·intro w'
      go_simp
      with_reducible rfl
     rotate_left
     ·simp only [Act.put, List.setIfInBounds_toArray, List.set_cons_zero, List.set_cons_succ, i64_w, i32_w]
      rfl
     refine pure_ (i := 13) (N := some 37) (v := ?_) (a' := ?_) #[true, true, true, false, true, true, true, true, false, false, false, true, true, true, false, false, false, false, false, false, false, false, false, false] rfl rfl (any_of HT_.out (by kernel_rfl)) (fun _ _ _ h => h) (Or.inl ⟨by rfl, ?_⟩) ?_ ?_
     rotate_left
     ·intro w'
      go_simp
      with_reducible rfl
     rotate_left
     ·simp only [Act.put, List.setIfInBounds_toArray, List.set_cons_zero, List.set_cons_succ, i64_w, i32_w]
      rfl
     refine take_ (i := 8) (N := some 32) (v := ?_) (a' := ?_) #[true, true, true, false, true, true, true, true, true, false, false, true, true, true, false, false, false, false, false, false, false, false, false, false] rfl rfl (take_ofW HT_.out HW_.out (by kernel_rfl)) (fun _ _ _ h => h) (Or.inl ⟨by rfl, ?_⟩) hHeld ?_ ?_
     rotate_left
     ·intro w' s0
      go_simp
      with_reducible rfl
     rotate_left
     ·simp only [Act.put, List.setIfInBounds_toArray, List.set_cons_zero, List.set_cons_succ, i64_w, i32_w]
      rfl
     refine one_ (i := 3) (N := some 27) #[true, true, true, true, true, true, true, true, true, false, false, true, true, true, false, false, false, false, false, false, false, false, false, false] rfl rfl (one_of HT_.out (by kernel_rfl)) (by decide) (fun K hK => ?_)
     refine goes_ Tryd.func12 (by kernel_rfl) rfl #[.slice A0 y207.length c0] (by rfl) rfl rfl (by (try simp only [List.map_toArray, List.map_cons, List.map_nil]); first | done | rfl | (simp only [List.length_drop, List.length_take]; rfl)) ?_
     with_reducible refine (exequaturlaw24_text.calls k _ _ y207 t211 _ ?side1 ?side2 A10.out).mono ?_
     (case side1 => repeat (first | exact (Kd.C_below HR210.out HB.out) | (with_reducible refine Kd.C_alloc ?_ _) | (with_reducible refine Kd.C_drewN ?_ _) | (with_reducible refine Kd.C_drew ?_)))
     (case side2 => exact HC210.out)
     rintro e w55 ⟨rfl, hb⟩
     have HS0_ := (hb.cell (World.block_lt_of_cell? _ _ (hHeld))).trans (hHeld)
     refine ⟨_, rfl, ?_⟩
     have n0_ := Aside0.mk (Kd.R_below (by (with_reducible repeat (first | apply Kd.R_alloc | apply Kd.R_drewN | apply Kd.R_drew)); exact HO206.out) hb)
     have n1_ := Aside0.mk (below_step (by repeat (first | (with_reducible first | exact HB.out | apply below_alloc | apply pw_below_drewN | apply below_drew1) | exact HB.out)) hb)
     clear HO206; clear HB
     have HO206 := n0_
     have HB := n1_
     clear n0_ n1_; (try clear hb); (try clear hb2); (try clear hk); (try clear hi)
     refine hK.out _ _ (HS0_) (fun hHeld => ?_)
     clear hK K
     refine norm_ (a' := ?_) ?_ ?_
     rotate_left
     ·show Act.put _ (some 27) _ = _
      simp only [Act.put, List.setIfInBounds_toArray, List.set_cons_zero, List.set_cons_succ, i64_w, i32_w]
      rfl
     refine pure_ (i := 9) (N := some 33) (v := ?_) (a' := ?_) #[true, true, true, true, true, true, true, true, true, true, false, true, true, true, false, false, false, false, false, false, false, false, false, false] rfl rfl (any_of HT_.out (by kernel_rfl)) (fun _ _ _ h => h) (Or.inl ⟨by rfl, ?_⟩) ?_ ?_
     rotate_left
     ·intro w'
      go_simp
      with_reducible rfl
     rotate_left
     ·simp only [Act.put, List.setIfInBounds_toArray, List.set_cons_zero, List.set_cons_succ, i64_w, i32_w]
      rfl
     refine pure_ (i := 10) (N := some 34) (v := ?_) (a' := ?_) #[true, true, true, true, true, true, true, true, true, true, true, true, true, true, false, false, false, false, false, false, false, false, false, false] rfl rfl (any_of HT_.out (by kernel_rfl)) (fun _ _ _ h => h) (Or.inl ⟨by rfl, ?_⟩) ?_ ?_
     rotate_left
     ·intro w'
      go_simp
      with_reducible rfl
     rotate_left
     ·simp only [Act.put, List.setIfInBounds_toArray, List.set_cons_zero, List.set_cons_succ, i64_w, i32_w]
      rfl
     refine one_ (i := 14) (N := some 38) #[true, true, true, true, true, true, true, true, true, true, true, true, true, true, true, false, false, false, false, false, false, false, false, false] rfl rfl (one_of HT_.out (by kernel_rfl)) (by decide) (fun K hK => ?_)
     refine goes_ Tryd.func12 (by kernel_rfl) rfl #[.slice A54 y213.length c54] (by rfl) rfl rfl (by (try simp only [List.map_toArray, List.map_cons, List.map_nil]); first | done | rfl | (simp only [List.length_drop, List.length_take]; rfl)) ?_
     with_reducible refine (exequaturlaw24_text.calls k _ _ y213 t217 _ ?side1 ?side2 A18.out).mono ?_
     (case side1 => repeat (first | exact (Kd.C_below HR216.out HB.out) | (with_reducible refine Kd.C_alloc ?_ _) | (with_reducible refine Kd.C_drewN ?_ _) | (with_reducible refine Kd.C_drew ?_)))
     (case side2 => exact HC216.out)
     rintro e w56 ⟨rfl, hb⟩
     have HS0_ := (hb.cell (World.block_lt_of_cell? _ _ (hHeld))).trans (hHeld)
     refine ⟨_, rfl, ?_⟩
     have n0_ := Aside0.mk (Kd.R_below (by (with_reducible repeat (first | apply Kd.R_alloc | apply Kd.R_drewN | apply Kd.R_drew)); exact HO206.out) hb)
     have n1_ := Aside0.mk (below_step (by repeat (first | (with_reducible first | exact HB.out | apply below_alloc | apply pw_below_drewN | apply below_drew1) | exact HB.out)) hb)
     clear HO206; clear HB
     have HO206 := n0_
     have HB := n1_
     clear n0_ n1_; (try clear hb); (try clear hb2); (try clear hk); (try clear hi)
     refine hK.out _ _ (HS0_) (fun hHeld => ?_)
     clear hK K
     refine norm_ (a' := ?_) ?_ ?_
     rotate_left
     ·show Act.put _ (some 38) _ = _
      simp only [Act.put, List.setIfInBounds_toArray, List.set_cons_zero, List.set_cons_succ, i64_w, i32_w]
      rfl
     refine pure_ (i := 15) (N := some 39) (v := ?_) (a' := ?_) #[true, true, true, true, true, true, true, true, true, true, true, true, true, true, true, true, false, false, false, false, false, false, false, false] rfl rfl (any_of HT_.out (by kernel_rfl)) (fun _ _ _ h => h) (Or.inl ⟨by rfl, ?_⟩) ?_ ?_
     rotate_left
     ·intro w'
      go_simp
      with_reducible rfl
     rotate_left
     ·simp only [Act.put, List.setIfInBounds_toArray, List.set_cons_zero, List.set_cons_succ, i64_w, i32_w]
      rfl
     refine one_ (i := 16) (N := some 40) #[true, true, true, true, true, true, true, true, true, true, true, true, true, true, true, true, true, false, false, false, false, false, false, false] rfl rfl (one_of HT_.out (by kernel_rfl)) (by decide) (fun K hK => ?_)
     refine goes_ Tryd.func11 (by kernel_rfl) rfl #[.string (((t211 ++ (rdOf ByteArray.empty y204 (ji11))) ++ (⟨#[10]⟩ : ByteArray)) ++ t217)] (by rfl) rfl rfl (by (try simp only [List.map_toArray, List.map_cons, List.map_nil]); first | done | (simp only [hji11]; rfl) | rfl | (simp only [List.length_drop, List.length_take]; rfl)) ?_
     with_reducible refine (script_Parse.calls k (((t211 ++ (rdOf ByteArray.empty y204 (ji11))) ++ (⟨#[10]⟩ : ByteArray)) ++ t217) t218 t221 t222 _ A20.out (hG := GOK.below hG (by repeat (first | (with_reducible first | exact HB.out | apply below_alloc | apply pw_below_drewN | apply below_drew1) | exact HB.out)))).mono ?_
     rintro e w57 ⟨v219, rfl, ho0, hb⟩
     have HS0_ := (hb.cell (World.block_lt_of_cell? _ _ (hHeld))).trans (hHeld)
     refine ⟨_, rfl, ?_⟩
     have n0_ := Aside0.mk (Kd.R_below (by (with_reducible repeat (first | apply Kd.R_alloc | apply Kd.R_drewN | apply Kd.R_drew)); exact HO206.out) hb)
     have n1_ := Aside0.mk (Kd.N_lower (Kd.N_mono (ok' := fun k_ => some k_ ≠ (.slice (some ad212) y204.length co53 : Value).ownBlock) ho0 (fun k_ hk_ => (Kd.fresh' (Kd.R_lt (by (with_reducible repeat (first | apply Kd.R_alloc | apply Kd.R_drewN | apply Kd.R_drew)); exact HO206.out)) k_ hk_))) (below_size (by repeat (first | (with_reducible first | exact HB.out | apply below_alloc | apply pw_below_drewN | apply below_drew1) | exact HB.out))))
     have n2_ := Aside0.mk (below_step (by repeat (first | (with_reducible first | exact HB.out | apply below_alloc | apply pw_below_drewN | apply below_drew1) | exact HB.out)) hb)
     clear HO206; clear HB
     have HO206 := n0_
     have HO220 := n1_
     have HB := n2_
     clear n0_ n1_ n2_; (try clear hb); (try clear hb2); (try clear hk); (try clear hi); (try clear ho0)
     refine hK.out _ _ (HS0_) (fun hHeld => ?_)
     clear hK K
     refine norm_ (a' := ?_) ?_ ?_
     rotate_left
     ·show Act.put _ (some 40) _ = _
      simp only [Act.put, List.setIfInBounds_toArray, List.set_cons_zero, List.set_cons_succ, i64_w, i32_w]
      rfl
     refine pure_ (i := 17) (N := some 23) (v := ?_) (a' := ?_) #[true, true, true, true, true, true, true, true, true, true, true, true, true, true, true, true, true, true, false, false, false, false, false, false] rfl rfl (any_of HT_.out (by kernel_rfl)) (fun _ _ _ h => h) (Or.inl ⟨by rfl, ?_⟩) ?_ ?_
     rotate_left
     ·intro w'
      go_simp
      with_reducible rfl
     rotate_left
     ·simp only [Act.put, List.setIfInBounds_toArray, List.set_cons_zero, List.set_cons_succ, i64_w, i32_w]
      rfl
     refine pure_ (i := 18) (N := some 41) (v := ?_) (a' := ?_) #[true, true, true, true, true, true, true, true, true, true, true, true, true, true, true, true, true, true, true, false, false, false, false, false] rfl rfl (any_of HT_.out (by kernel_rfl)) (fun _ _ _ h => h) (Or.inl ⟨by rfl, ?_⟩) ?_ ?_
     rotate_left
     ·intro w'
      go_simp
      with_reducible rfl
     rotate_left
     ·simp only [Act.put, List.setIfInBounds_toArray, List.set_cons_zero, List.set_cons_succ, i64_w, i32_w]
      rfl
     refine pure_ (i := 19) (N := some 42) (v := ?_) (a' := ?_) #[true, true, true, true, true, true, true, true, true, true, true, true, true, true, true, true, true, true, true, true, false, false, false, false] rfl rfl (any_of HT_.out (by kernel_rfl)) (fun _ _ _ h => h) (Or.inl ⟨by rfl, ?_⟩) ?_ ?_
     rotate_left
     ·intro w'
      go_simp
      with_reducible rfl
     rotate_left
     ·simp only [Act.put, List.setIfInBounds_toArray, List.set_cons_zero, List.set_cons_succ, i64_w, i32_w]
      rfl
     refine pure_ (i := 20) (N := some 43) (v := ?_) (a' := ?_) #[true, true, true, true, true, true, true, true, true, true, true, true, true, true, true, true, true, true, true, true, true, false, false, false] rfl rfl (any_of HT_.out (by kernel_rfl)) (fun _ _ _ h => h) (Or.inl ⟨by rfl, ?_⟩) ?_ ?_
     rotate_left
     ·intro w'
      go_simp
      with_reducible rfl
     rotate_left
     ·simp only [Act.put, List.setIfInBounds_toArray, List.set_cons_zero, List.set_cons_succ, i64_w, i32_w]
      rfl
     refine pure_ (i := 21) (N := some 9) (v := ?_) (a' := ?_) #[true, true, true, true, true, true, true, true, true, true, true, true, true, true, true, true, true, true, true, true, true, true, false, false] rfl rfl (any_of HT_.out (by kernel_rfl)) (fun _ _ _ h => h) (Or.inl ⟨by rfl, ?_⟩) ?_ ?_
     rotate_left
     ·intro w'
      go_simp
      with_reducible rfl
     rotate_left
     ·simp only [Act.put, List.setIfInBounds_toArray, List.set_cons_zero, List.set_cons_succ, i64_w, i32_w]
      rfl
     refine pure_ (i := 22) (N := some 10) (v := ?_) (a' := ?_) #[true, true, true, true, true, true, true, true, true, true, true, true, true, true, true, true, true, true, true, true, true, true, true, false] rfl rfl (any_of HT_.out (by kernel_rfl)) (fun _ _ _ h => h) (Or.inl ⟨by rfl, ?_⟩) ?_ ?_
     rotate_left
     ·intro w'
      go_simp
      with_reducible rfl
     rotate_left
     ·simp only [Act.put, List.setIfInBounds_toArray, List.set_cons_zero, List.set_cons_succ, i64_w, i32_w]
      rfl
     refine pure_ (i := 23) (N := some 11) (v := ?_) (a' := ?_) #[true, true, true, true, true, true, true, true, true, true, true, true, true, true, true, true, true, true, true, true, true, true, true, true] rfl rfl (any_of HT_.out (by kernel_rfl)) (fun _ _ _ h => h) (Or.inl ⟨by rfl, ?_⟩) ?_ ?_
     rotate_left
     ·intro w'
      go_simp
      with_reducible rfl
     rotate_left
     ·simp only [Act.put, List.setIfInBounds_toArray, List.set_cons_zero, List.set_cons_succ, i64_w, i32_w]
      rfl
     refine done_ (done_of HT_.out (by kernel_rfl)) ?_
     try go_wp2_with (first | ((with_reducible refine gate_callee (f := 9) rfl ?_); refine goesL_ (some 44) rfl rfl Tryd.func9 (by kernel_rfl) rfl #[] rfl (by (try simp only [List.map_toArray, List.map_cons, List.map_nil]); first | done | rfl | (simp only [List.length_drop, List.length_take]; rfl)) ?_; (with_reducible refine (exequaturlaw24_answers.calls k  true _ A21.out (hG := GOK.below hG (by repeat (first | (with_reducible first | exact HB.out | apply below_alloc | apply pw_below_drewN | apply below_drew1) | exact HB.out)))).mono ?_); rintro e w58 ⟨rfl, hb⟩; refine ⟨_, rfl, ?_⟩; have n0_ := Aside0.mk (Kd.R_below (by (with_reducible repeat (first | apply Kd.R_alloc | apply Kd.R_drewN | apply Kd.R_drew)); exact HO206.out) hb); have n1_ := Aside0.mk (Kd.N_below (by (with_reducible repeat (first | apply Kd.N_alloc | apply Kd.N_drewN | apply Kd.N_drew)); exact HO220.out) hb); have n2_ := Aside0.mk (below_step (by repeat (first | (with_reducible first | exact HB.out | apply below_alloc | apply pw_below_drewN | apply below_drew1) | exact HB.out)) hb); clear HO206; clear HO220; clear HB; have HO206 := n0_; have HO220 := n1_; have HB := n2_; clear n0_ n1_ n2_; (try clear hb); (try clear hb2); (try clear hk); (try clear hi)))
     go_ret
     first | (exact ⟨by first | rfl | (simp [errW_none, errW_some] <;> rfl) | (simp only [← hji7, ← hji11]; first | rfl | (simp [errW_none, errW_some] <;> rfl)) | (simp [*, errW_none, errW_some] <;> rfl), by repeat (first | (with_reducible first | exact HB.out | apply below_alloc | apply pw_below_drewN | apply below_drew1) | exact HB.out)⟩) | (focus (exfalso; simp_all; done))
     all_goals (first | (exfalso; simp_all <;> omega) | (go_ret; exact ⟨by first | rfl | (simp [errW_none, errW_some] <;> rfl) | (simp only [← hji7, ← hji11]; first | rfl | (simp [errW_none, errW_some] <;> rfl)) | (simp [*, errW_none, errW_some] <;> rfl), by repeat (first | (with_reducible first | exact HB.out | apply below_alloc | apply pw_below_drewN | apply below_drew1) | exact HB.out)⟩))
   ·replace c22 := Bool.eq_false_iff.mpr c22
    subst c22
    have H1 : (some false) = some r := by rw [if_neg (show ¬ (false = true) by decide)] at H; exact H
    clear H
    have H := H1
    clear H1
    obtain rfl := Option.some.inj H
    go_enter Tryd.func5, Tryd.ntmps5
    try go_wp2_with (first | ((with_reducible refine gate_callee (f := 8) rfl ?_); refine goesL_ (some 13) rfl rfl Tryd.func8 (by kernel_rfl) rfl #[.slice A0 l0.length c0] rfl (by (try simp only [List.map_toArray, List.map_cons, List.map_nil]); first | done | rfl | (simp only [List.length_drop, List.length_take]; rfl)) ?_; (with_reducible refine (exequaturlaw24_small.calls _ _ l0 true _ ?side1 ?side2 A4.out).mono ?_); (case side1 => repeat (first | exact HR0.out | (with_reducible refine Kd.C_alloc ?_ _) | (with_reducible refine Kd.C_drewN ?_ _) | (with_reducible refine Kd.C_drew ?_))); (case side2 => exact HC0.out); rintro e w59 ⟨rfl, hb⟩; refine ⟨_, rfl, ?_⟩; have n0_ := Aside0.mk (below_step (by repeat (first | (with_reducible first | exact HB.out | apply below_alloc | apply pw_below_drewN | apply below_drew1) | exact HB.out)) hb); clear HB; have HB := n0_; clear n0_; (try clear hb); (try clear hb2); (try clear hk); (try clear hi)) | ((with_reducible refine gate_dst (N := 16) rfl ?_); (try (refine gate_guard (by rfl) ?_; dsimp only)); refine Kd.R_lit Kd.string _ 9 ?hg (N := 16) ?hd (xs := ([(⟨#[]⟩ : ByteArray), (⟨#[49]⟩ : ByteArray), (⟨#[49, 32, 48, 32, 120, 32, 120, 32, 120, 32, 120, 32, 120, 32, 120, 32, 120, 32, 120, 32, 120]⟩ : ByteArray), (⟨#[48, 49, 32, 48, 32, 120, 32, 120, 32, 120, 32, 120, 32, 120, 32, 120, 32, 120, 32, 120, 32, 120, 32, 120]⟩ : ByteArray), (⟨#[49, 32, 43, 48, 32, 120, 32, 120, 32, 120, 32, 120, 32, 120, 32, 120, 32, 120, 32, 120, 32, 120, 32, 120]⟩ : ByteArray), (⟨#[49, 32, 48, 32, 120, 32, 120, 32, 120, 32, 120, 32, 120, 32, 120, 32, 120, 32, 120, 32, 120, 32, 120, 61]⟩ : ByteArray), (⟨#[49, 32, 48, 32, 120, 32, 120, 32, 120, 32, 120, 32, 120, 32, 120, 32, 120, 32, 120, 32, 120, 32, 120, 65]⟩ : ByteArray), (⟨#[49, 32, 48, 32, 120, 32, 120, 32, 120, 32, 120, 32, 120, 32, 120, 32, 120, 32, 120, 32, 120]⟩ : ByteArray), (⟨#[49, 32, 48, 32, 32, 120, 32, 120, 32, 120, 32, 120, 32, 120, 32, 120, 32, 120, 32, 120, 32, 120, 32, 120]⟩ : ByteArray), (⟨#[49, 32, 48, 32, 120, 32, 120, 32, 120, 32, 120, 32, 120, 32, 120, 32, 120, 32, 120, 32, 120, 32, 121]⟩ : ByteArray), (⟨#[120, 32, 48, 32, 120, 32, 120, 32, 120, 32, 120, 32, 120, 32, 120, 32, 120, 32, 120, 32, 120, 32, 120]⟩ : ByteArray)] : List ByteArray)) (inner := [.string (⟨#[]⟩ : ByteArray), .string (⟨#[49]⟩ : ByteArray), .string (⟨#[49, 32, 48, 32, 120, 32, 120, 32, 120, 32, 120, 32, 120, 32, 120, 32, 120, 32, 120, 32, 120]⟩ : ByteArray), .string (⟨#[48, 49, 32, 48, 32, 120, 32, 120, 32, 120, 32, 120, 32, 120, 32, 120, 32, 120, 32, 120, 32, 120, 32, 120]⟩ : ByteArray), .string (⟨#[49, 32, 43, 48, 32, 120, 32, 120, 32, 120, 32, 120, 32, 120, 32, 120, 32, 120, 32, 120, 32, 120, 32, 120]⟩ : ByteArray), .string (⟨#[49, 32, 48, 32, 120, 32, 120, 32, 120, 32, 120, 32, 120, 32, 120, 32, 120, 32, 120, 32, 120, 32, 120, 61]⟩ : ByteArray), .string (⟨#[49, 32, 48, 32, 120, 32, 120, 32, 120, 32, 120, 32, 120, 32, 120, 32, 120, 32, 120, 32, 120, 32, 120, 65]⟩ : ByteArray), .string (⟨#[49, 32, 48, 32, 120, 32, 120, 32, 120, 32, 120, 32, 120, 32, 120, 32, 120, 32, 120, 32, 120]⟩ : ByteArray), .string (⟨#[49, 32, 48, 32, 32, 120, 32, 120, 32, 120, 32, 120, 32, 120, 32, 120, 32, 120, 32, 120, 32, 120, 32, 120]⟩ : ByteArray), .string (⟨#[49, 32, 48, 32, 120, 32, 120, 32, 120, 32, 120, 32, 120, 32, 120, 32, 120, 32, 120, 32, 120, 32, 121]⟩ : ByteArray), .string (⟨#[120, 32, 48, 32, 120, 32, 120, 32, 120, 32, 120, 32, 120, 32, 120, 32, 120, 32, 120, 32, 120, 32, 120]⟩ : ByteArray)]) (ok := fun _ => True) (okp := fun _ => True) ?hr ?hp (fun _ hk => hk) trivial (Below.refl _ _) (Nat.le_refl _) (by simp) ?_; (case hd => rfl); (case hg => rfl); (case hr => first | (go_simp; done) | (go_simp; rfl)); (case hp => exact (Reps.one (show Kd.M Kd.string _ _ _ (⟨#[]⟩ : ByteArray) [.string (⟨#[]⟩ : ByteArray)] from rfl) (Reps.one (show Kd.M Kd.string _ _ _ (⟨#[49]⟩ : ByteArray) [.string (⟨#[49]⟩ : ByteArray)] from rfl) (Reps.one (show Kd.M Kd.string _ _ _ (⟨#[49, 32, 48, 32, 120, 32, 120, 32, 120, 32, 120, 32, 120, 32, 120, 32, 120, 32, 120, 32, 120]⟩ : ByteArray) [.string (⟨#[49, 32, 48, 32, 120, 32, 120, 32, 120, 32, 120, 32, 120, 32, 120, 32, 120, 32, 120, 32, 120]⟩ : ByteArray)] from rfl) (Reps.one (show Kd.M Kd.string _ _ _ (⟨#[48, 49, 32, 48, 32, 120, 32, 120, 32, 120, 32, 120, 32, 120, 32, 120, 32, 120, 32, 120, 32, 120, 32, 120]⟩ : ByteArray) [.string (⟨#[48, 49, 32, 48, 32, 120, 32, 120, 32, 120, 32, 120, 32, 120, 32, 120, 32, 120, 32, 120, 32, 120, 32, 120]⟩ : ByteArray)] from rfl) (Reps.one (show Kd.M Kd.string _ _ _ (⟨#[49, 32, 43, 48, 32, 120, 32, 120, 32, 120, 32, 120, 32, 120, 32, 120, 32, 120, 32, 120, 32, 120, 32, 120]⟩ : ByteArray) [.string (⟨#[49, 32, 43, 48, 32, 120, 32, 120, 32, 120, 32, 120, 32, 120, 32, 120, 32, 120, 32, 120, 32, 120, 32, 120]⟩ : ByteArray)] from rfl) (Reps.one (show Kd.M Kd.string _ _ _ (⟨#[49, 32, 48, 32, 120, 32, 120, 32, 120, 32, 120, 32, 120, 32, 120, 32, 120, 32, 120, 32, 120, 32, 120, 61]⟩ : ByteArray) [.string (⟨#[49, 32, 48, 32, 120, 32, 120, 32, 120, 32, 120, 32, 120, 32, 120, 32, 120, 32, 120, 32, 120, 32, 120, 61]⟩ : ByteArray)] from rfl) (Reps.one (show Kd.M Kd.string _ _ _ (⟨#[49, 32, 48, 32, 120, 32, 120, 32, 120, 32, 120, 32, 120, 32, 120, 32, 120, 32, 120, 32, 120, 32, 120, 65]⟩ : ByteArray) [.string (⟨#[49, 32, 48, 32, 120, 32, 120, 32, 120, 32, 120, 32, 120, 32, 120, 32, 120, 32, 120, 32, 120, 32, 120, 65]⟩ : ByteArray)] from rfl) (Reps.one (show Kd.M Kd.string _ _ _ (⟨#[49, 32, 48, 32, 120, 32, 120, 32, 120, 32, 120, 32, 120, 32, 120, 32, 120, 32, 120, 32, 120]⟩ : ByteArray) [.string (⟨#[49, 32, 48, 32, 120, 32, 120, 32, 120, 32, 120, 32, 120, 32, 120, 32, 120, 32, 120, 32, 120]⟩ : ByteArray)] from rfl) (Reps.one (show Kd.M Kd.string _ _ _ (⟨#[49, 32, 48, 32, 32, 120, 32, 120, 32, 120, 32, 120, 32, 120, 32, 120, 32, 120, 32, 120, 32, 120, 32, 120]⟩ : ByteArray) [.string (⟨#[49, 32, 48, 32, 32, 120, 32, 120, 32, 120, 32, 120, 32, 120, 32, 120, 32, 120, 32, 120, 32, 120, 32, 120]⟩ : ByteArray)] from rfl) (Reps.one (show Kd.M Kd.string _ _ _ (⟨#[49, 32, 48, 32, 120, 32, 120, 32, 120, 32, 120, 32, 120, 32, 120, 32, 120, 32, 120, 32, 120, 32, 121]⟩ : ByteArray) [.string (⟨#[49, 32, 48, 32, 120, 32, 120, 32, 120, 32, 120, 32, 120, 32, 120, 32, 120, 32, 120, 32, 120, 32, 121]⟩ : ByteArray)] from rfl) (Reps.one (show Kd.M Kd.string _ _ _ (⟨#[120, 32, 48, 32, 120, 32, 120, 32, 120, 32, 120, 32, 120, 32, 120, 32, 120, 32, 120, 32, 120, 32, 120]⟩ : ByteArray) [.string (⟨#[120, 32, 48, 32, 120, 32, 120, 32, 120, 32, 120, 32, 120, 32, 120, 32, 120, 32, 120, 32, 120, 32, 120]⟩ : ByteArray)] from rfl) (Reps.none _ _))))))))))))); intro v205 w60 ho61 hb hg_ hnew_; clear hg_ hnew_; (first | rw [← Ny204.out] at ho61 | (simp only [Int.reduceToNat] at ho61; rw [← Ny204.out] at ho61)); have n0_ := Aside0.mk (Kd.R_lower ho61 (below_size (by repeat (first | (with_reducible first | exact HB.out | apply below_alloc | apply pw_below_drewN | apply below_drew1) | exact HB.out)))); have n1_ := Aside0.mk (below_step (by repeat (first | (with_reducible first | exact HB.out | apply below_alloc | apply pw_below_drewN | apply below_drew1) | exact HB.out)) hb); clear HB; have HO206 := n0_; have HB := n1_; clear n0_ n1_; clear hb ho61))
    have n0_ := Aside0.mk (Kd.R_drew HO206.out)
    have n1_ := Aside0.mk (below_drew1 HB.out)
    clear HO206; clear HB
    have HO206 := n0_
    have HB := n1_
    clear n0_ n1_
    have q63 : ((ji7) : Int) ≤ ((l0.length : Int) : Int) := of_decide_eq_true (by first | (with_reducible assumption) | assumption)
    obtain ⟨i063, hi063, _, hsz63, _⟩ := info_parts info36
    have hroom63 : l0.length ≤ c0 := HC0.out
    have hC63 : Kd.C k36 _ A0 l0.length l0 := HR0.out
    have hcut63 := cut_to (P := Tryd.prog) 22 36 .i64 Tryd.underlying22 hi063 A0 l0.length c0 (ji7) (of_decide_eq_true (by first | (with_reducible assumption) | assumption)) q63 hroom63
    have hr63 := Kd.C_take (m := ((ji7) : Int).toNat) hC63 (by omega)
    have hy63 : y207.length = ((ji7) : Int).toNat := (by rw [Ny207.out, List.length_take]; omega)
    rw [← Ny207.out] at hr63
    rw [← hy63] at hcut63
    have HR210 := Aside0.mk hr63
    have HC210 := Aside0.mk (show y207.length ≤ c0 from by omega)
    clear hr63 hC63 hroom63 hi063 hsz63
    have KY63 := Aside0.mk hy63
    clear hy63
    replace q63 := eq_true q63
    obtain ⟨Ao64, co64, eo64⟩ := Kd.R_slice HO206.out
    (first | subst eo64 | (injection eo64 with f1_ f2_ f3_; have f4_ := f1_.symm; have f5_ := f3_.symm; clear f1_ f2_ f3_; subst f4_; subst f5_))
    have p212 : 0 ≤ ((ji11) : Int) := of_decide_eq_true (by first | (with_reducible assumption) | assumption)
    have q212 : (ji11) < (y204.length : Int) := of_decide_eq_true (by first | (with_reducible assumption) | assumption)
    obtain ⟨ad212, e212, hx212_0⟩ := Kd.at_string (Kd.R_reads' HO206.out).2.2 (ji11) p212 q212
    cases e212
    replace p212 := eq_true p212
    replace q212 := eq_true q212
    have q65 : ((ji7) : Int) ≤ ((l0.length : Int) : Int) := of_decide_eq_true (by first | (with_reducible assumption) | assumption)
    obtain ⟨i065, hi065, _, hsz65, _⟩ := info_parts info36
    have hroom65 : l0.length ≤ c0 := HC0.out
    have hC65 : Kd.C k36 _ A0 l0.length l0 := HR0.out
    have q065 : (0 : Int) ≤ ((ji7) : Int) := of_decide_eq_true (by first | (with_reducible assumption) | assumption)
    have hcut65 := cut_from (P := Tryd.prog) 22 36 .i64 Tryd.underlying22 hi065 13 hsz65 A0 l0.length c0 (ji7) q065 q65
    have hr65 := Kd.C_drop (m := ((ji7) : Int).toNat) (c := c0) hC65 (by omega) hroom65
    obtain ⟨A65, hA65⟩ : ∃ A1, A1 = (if c0 = ((ji7) : Int).toNat then A0 else (A0 : Option Addr).map (·.add (((ji7) : Int).toNat * 13))) := ⟨_, rfl⟩
    obtain ⟨c65, hc65⟩ : ∃ c1, c1 = c0 - ((ji7) : Int).toNat := ⟨_, rfl⟩
    have hy65 : y213.length = l0.length - ((ji7) : Int).toNat := (by rw [Ny213.out, List.length_drop] <;> omega)
    rw [show (l0).drop ((ji7) : Int).toNat = y213 from Ny213.out.symm] at hr65
    replace hr65 : Kd.C k36 _ A65 y213.length y213 := (by rw [hA65]; exact hr65)
    rw [← hy65, ← hA65, ← hc65] at hcut65
    have HR216 := Aside0.mk hr65
    have HC216 := Aside0.mk (show y213.length ≤ c65 from by rw [hy65, hc65]; exact Nat.sub_le_sub_right hroom65 _)
    clear hr65 hC65 hroom65 hi065 hsz65 hc65
    have KY65 := Aside0.mk hy65
    have KA65 := Aside0.mk hA65
    clear hy65 hA65
    replace q65 := eq_true q65
    refine start_ (n := 24) (S := fun w' => w'.cell? (ad212.add ((ji11)).toNat) = some (.string (rdOf ByteArray.empty y204 (ji11)))) (ds := []) #[false, false, false, false, false, false, false, false, false, false, false, false, false, false, false, false, false, false, false, false, false, false, false, false] (by kernel_rfl) rfl rfl (hx212_0) (fun hHeld => ?_); refine with_tabW exequaturlaw24_ScriptLine.tab5 exequaturlaw24_ScriptLine.bits5 (fun HT_ HW_ => ?_)
    generalize w60.drew = w62 at HO206 HB HR210 HR216 hx212_0 hHeld ⊢
    refine pure_ (i := 0) (N := some 24) (v := ?_) (a' := ?_) #[true, false, false, false, false, false, false, false, false, false, false, false, false, false, false, false, false, false, false, false, false, false, false, false] rfl rfl (any_of HT_.out (by kernel_rfl)) (fun _ _ _ h => h) (Or.inl ⟨by rfl, ?_⟩) ?_ ?_
    rotate_left
    ·intro w'
     go_simp
     with_reducible rfl
    rotate_left
    ·simp only [Act.put, List.setIfInBounds_toArray, List.set_cons_zero, List.set_cons_succ, i64_w, i32_w]
     rfl
    refine pure_ (i := 1) (N := some 25) (v := ?_) (a' := ?_) #[true, true, false, false, false, false, false, false, false, false, false, false, false, false, false, false, false, false, false, false, false, false, false, false] rfl rfl (any_of HT_.out (by kernel_rfl)) (fun _ _ _ h => h) (Or.inl ⟨by rfl, ?_⟩) ?_ ?_
    rotate_left
    ·intro w'
     go_simp
     with_reducible rfl
    rotate_left
    ·simp only [Act.put, List.setIfInBounds_toArray, List.set_cons_zero, List.set_cons_succ, i64_w, i32_w]
     rfl
    refine pure_ (i := 2) (N := some 26) (v := ?_) (a' := ?_) #[true, true, true, false, false, false, false, false, false, false, false, false, false, false, false, false, false, false, false, false, false, false, false, false] rfl rfl (any_of HT_.out (by kernel_rfl)) (fun _ _ _ h => h) (Or.inl ⟨by rfl, ?_⟩) ?_ ?_
    rotate_left
    ·intro w'
     go_simp
     with_reducible rfl
    rotate_left
    ·simp only [Act.put, List.setIfInBounds_toArray, List.set_cons_zero, List.set_cons_succ, i64_w, i32_w]
     rfl
    refine pure_ (i := 4) (N := some 28) (v := ?_) (a' := ?_) #[true, true, true, false, true, false, false, false, false, false, false, false, false, false, false, false, false, false, false, false, false, false, false, false] rfl rfl (any_of HT_.out (by kernel_rfl)) (fun _ _ _ h => h) (Or.inl ⟨by rfl, ?_⟩) ?_ ?_
    rotate_left
    ·intro w'
     go_simp
     with_reducible rfl
    rotate_left
    ·simp only [Act.put, List.setIfInBounds_toArray, List.set_cons_zero, List.set_cons_succ, i64_w, i32_w]
     rfl
    refine pure_ (i := 5) (N := some 29) (v := ?_) (a' := ?_) #[true, true, true, false, true, true, false, false, false, false, false, false, false, false, false, false, false, false, false, false, false, false, false, false] rfl rfl (any_of HT_.out (by kernel_rfl)) (fun _ _ _ h => h) (Or.inl ⟨by rfl, ?_⟩) ?_ ?_
    rotate_left
    ·intro w'
     go_simp
     with_reducible rfl
    rotate_left
    ·simp only [Act.put, List.setIfInBounds_toArray, List.set_cons_zero, List.set_cons_succ, i64_w, i32_w]
     rfl
    refine pure_ (i := 6) (N := some 30) (v := ?_) (a' := ?_) #[true, true, true, false, true, true, true, false, false, false, false, false, false, false, false, false, false, false, false, false, false, false, false, false] rfl rfl (any_of HT_.out (by kernel_rfl)) (fun _ _ _ h => h) (Or.inl ⟨by rfl, ?_⟩) ?_ ?_
    rotate_left
    ·intro w'
     go_simp
     with_reducible rfl
    rotate_left
    ·simp only [Act.put, List.setIfInBounds_toArray, List.set_cons_zero, List.set_cons_succ, i64_w, i32_w]
     rfl
    refine pure_ (i := 7) (N := some 31) (v := ?_) (a' := ?_) #[true, true, true, false, true, true, true, true, false, false, false, false, false, false, false, false, false, false, false, false, false, false, false, false] rfl rfl (any_of HT_.out (by kernel_rfl)) (fun _ _ _ h => h) (Or.inl ⟨by rfl, ?_⟩) ?_ ?_
    rotate_left
    ·intro w'
     go_simp
     with_reducible rfl
    rotate_left
    ·simp only [Act.put, List.setIfInBounds_toArray, List.set_cons_zero, List.set_cons_succ, i64_w, i32_w]
     rfl
    refine pure_ (i := 11) (N := some 35) (v := ?_) (a' := ?_) #[true, true, true, false, true, true, true, true, false, false, false, true, false, false, false, false, false, false, false, false, false, false, false, false] rfl rfl (any_of HT_.out (by kernel_rfl)) (fun _ _ _ h => h) (Or.inl ⟨by rfl, ?_⟩) ?_ ?_
    rotate_left
    ·intro w'
     go_simp
     with_reducible rfl
    rotate_left
    ·simp only [Act.put, List.setIfInBounds_toArray, List.set_cons_zero, List.set_cons_succ, i64_w, i32_w]
     rfl
    refine pure_ (i := 12) (N := some 36) (v := ?_) (a' := ?_) #[true, true, true, false, true, true, true, true, false, false, false, true, true, false, false, false, false, false, false, false, false, false, false, false] rfl rfl (any_of HT_.out (by kernel_rfl)) (fun _ _ _ h => h) (Or.inl ⟨by rfl, ?_⟩) ?_ ?_
    rotate_left
    ·intro w'
     go_simp
     with_reducible rfl
    rotate_left
    ·simp only [Act.put, List.setIfInBounds_toArray, List.set_cons_zero, List.set_cons_succ, i64_w, i32_w]
     rfl
    refine pure_ (i := 13) (N := some 37) (v := ?_) (a' := ?_) #[true, true, true, false, true, true, true, true, false, false, false, true, true, true, false, false, false, false, false, false, false, false, false, false] rfl rfl (any_of HT_.out (by kernel_rfl)) (fun _ _ _ h => h) (Or.inl ⟨by rfl, ?_⟩) ?_ ?_
    rotate_left
    ·intro w'
     go_simp
     with_reducible rfl
    rotate_left
    ·simp only [Act.put, List.setIfInBounds_toArray, List.set_cons_zero, List.set_cons_succ, i64_w, i32_w]
     rfl
    refine take_ (i := 8) (N := some 32) (v := ?_) (a' := ?_) #[true, true, true, false, true, true, true, true, true, false, false, true, true, true, false, false, false, false, false, false, false, false, false, false] rfl rfl (take_ofW HT_.out HW_.out (by kernel_rfl)) (fun _ _ _ h => h) (Or.inl ⟨by rfl, ?_⟩) hHeld ?_ ?_
    rotate_left
    ·intro w' s0
     go_simp
     with_reducible rfl
    rotate_left
    ·simp only [Act.put, List.setIfInBounds_toArray, List.set_cons_zero, List.set_cons_succ, i64_w, i32_w]
     rfl
    refine one_ (i := 3) (N := some 27) #[true, true, true, true, true, true, true, true, true, false, false, true, true, true, false, false, false, false, false, false, false, false, false, false] rfl rfl (one_of HT_.out (by kernel_rfl)) (by decide) (fun K hK => ?_)
    refine goes_ Tryd.func12 (by kernel_rfl) rfl #[.slice A0 y207.length c0] (by rfl) rfl rfl (by (try simp only [List.map_toArray, List.map_cons, List.map_nil]); first | done | rfl | (simp only [List.length_drop, List.length_take]; rfl)) ?_
    with_reducible refine (exequaturlaw24_text.calls k _ _ y207 t211 _ ?side1 ?side2 A10.out).mono ?_
    (case side1 => repeat (first | exact (Kd.C_below HR210.out HB.out) | (with_reducible refine Kd.C_alloc ?_ _) | (with_reducible refine Kd.C_drewN ?_ _) | (with_reducible refine Kd.C_drew ?_)))
    (case side2 => exact HC210.out)
    rintro e w66 ⟨rfl, hb⟩
    have HS0_ := (hb.cell (World.block_lt_of_cell? _ _ (hHeld))).trans (hHeld)
    refine ⟨_, rfl, ?_⟩
    have n0_ := Aside0.mk (Kd.R_below (by (with_reducible repeat (first | apply Kd.R_alloc | apply Kd.R_drewN | apply Kd.R_drew)); exact HO206.out) hb)
    have n1_ := Aside0.mk (below_step (by repeat (first | (with_reducible first | exact HB.out | apply below_alloc | apply pw_below_drewN | apply below_drew1) | exact HB.out)) hb)
    clear HO206; clear HB
    have HO206 := n0_
    have HB := n1_
    clear n0_ n1_; (try clear hb); (try clear hb2); (try clear hk); (try clear hi)
    refine hK.out _ _ (HS0_) (fun hHeld => ?_)
    clear hK K
    refine norm_ (a' := ?_) ?_ ?_
    rotate_left
    ·show Act.put _ (some 27) _ = _
     simp only [Act.put, List.setIfInBounds_toArray, List.set_cons_zero, List.set_cons_succ, i64_w, i32_w]
     rfl
    refine pure_ (i := 9) (N := some 33) (v := ?_) (a' := ?_) #[true, true, true, true, true, true, true, true, true, true, false, true, true, true, false, false, false, false, false, false, false, false, false, false] rfl rfl (any_of HT_.out (by kernel_rfl)) (fun _ _ _ h => h) (Or.inl ⟨by rfl, ?_⟩) ?_ ?_
    rotate_left
    ·intro w'
     go_simp
     with_reducible rfl
    rotate_left
    ·simp only [Act.put, List.setIfInBounds_toArray, List.set_cons_zero, List.set_cons_succ, i64_w, i32_w]
     rfl
    refine pure_ (i := 10) (N := some 34) (v := ?_) (a' := ?_) #[true, true, true, true, true, true, true, true, true, true, true, true, true, true, false, false, false, false, false, false, false, false, false, false] rfl rfl (any_of HT_.out (by kernel_rfl)) (fun _ _ _ h => h) (Or.inl ⟨by rfl, ?_⟩) ?_ ?_
    rotate_left
    ·intro w'
     go_simp
     with_reducible rfl
    rotate_left
    ·simp only [Act.put, List.setIfInBounds_toArray, List.set_cons_zero, List.set_cons_succ, i64_w, i32_w]
     rfl
    refine one_ (i := 14) (N := some 38) #[true, true, true, true, true, true, true, true, true, true, true, true, true, true, true, false, false, false, false, false, false, false, false, false] rfl rfl (one_of HT_.out (by kernel_rfl)) (by decide) (fun K hK => ?_)
    refine goes_ Tryd.func12 (by kernel_rfl) rfl #[.slice A65 y213.length c65] (by rfl) rfl rfl (by (try simp only [List.map_toArray, List.map_cons, List.map_nil]); first | done | rfl | (simp only [List.length_drop, List.length_take]; rfl)) ?_
    with_reducible refine (exequaturlaw24_text.calls k _ _ y213 t217 _ ?side1 ?side2 A18.out).mono ?_
    (case side1 => repeat (first | exact (Kd.C_below HR216.out HB.out) | (with_reducible refine Kd.C_alloc ?_ _) | (with_reducible refine Kd.C_drewN ?_ _) | (with_reducible refine Kd.C_drew ?_)))
    (case side2 => exact HC216.out)
    rintro e w67 ⟨rfl, hb⟩
    have HS0_ := (hb.cell (World.block_lt_of_cell? _ _ (hHeld))).trans (hHeld)
    refine ⟨_, rfl, ?_⟩
    have n0_ := Aside0.mk (Kd.R_below (by (with_reducible repeat (first | apply Kd.R_alloc | apply Kd.R_drewN | apply Kd.R_drew)); exact HO206.out) hb)
    have n1_ := Aside0.mk (below_step (by repeat (first | (with_reducible first | exact HB.out | apply below_alloc | apply pw_below_drewN | apply below_drew1) | exact HB.out)) hb)
    clear HO206; clear HB
    have HO206 := n0_
    have HB := n1_
    clear n0_ n1_; (try clear hb); (try clear hb2); (try clear hk); (try clear hi)
    refine hK.out _ _ (HS0_) (fun hHeld => ?_)
    clear hK K
    refine norm_ (a' := ?_) ?_ ?_
    rotate_left
    ·show Act.put _ (some 38) _ = _
     simp only [Act.put, List.setIfInBounds_toArray, List.set_cons_zero, List.set_cons_succ, i64_w, i32_w]
     rfl
    refine pure_ (i := 15) (N := some 39) (v := ?_) (a' := ?_) #[true, true, true, true, true, true, true, true, true, true, true, true, true, true, true, true, false, false, false, false, false, false, false, false] rfl rfl (any_of HT_.out (by kernel_rfl)) (fun _ _ _ h => h) (Or.inl ⟨by rfl, ?_⟩) ?_ ?_
    rotate_left
    ·intro w'
     go_simp
     with_reducible rfl
    rotate_left
    ·simp only [Act.put, List.setIfInBounds_toArray, List.set_cons_zero, List.set_cons_succ, i64_w, i32_w]
     rfl
    refine one_ (i := 16) (N := some 40) #[true, true, true, true, true, true, true, true, true, true, true, true, true, true, true, true, true, false, false, false, false, false, false, false] rfl rfl (one_of HT_.out (by kernel_rfl)) (by decide) (fun K hK => ?_)
    refine goes_ Tryd.func11 (by kernel_rfl) rfl #[.string (((t211 ++ (rdOf ByteArray.empty y204 (ji11))) ++ (⟨#[10]⟩ : ByteArray)) ++ t217)] (by rfl) rfl rfl (by (try simp only [List.map_toArray, List.map_cons, List.map_nil]); first | done | (simp only [hji11]; rfl) | rfl | (simp only [List.length_drop, List.length_take]; rfl)) ?_
    with_reducible refine (script_Parse.calls k (((t211 ++ (rdOf ByteArray.empty y204 (ji11))) ++ (⟨#[10]⟩ : ByteArray)) ++ t217) t218 t221 t222 _ A20.out (hG := GOK.below hG (by repeat (first | (with_reducible first | exact HB.out | apply below_alloc | apply pw_below_drewN | apply below_drew1) | exact HB.out)))).mono ?_
    rintro e w68 ⟨v219, rfl, ho0, hb⟩
    have HS0_ := (hb.cell (World.block_lt_of_cell? _ _ (hHeld))).trans (hHeld)
    refine ⟨_, rfl, ?_⟩
    have n0_ := Aside0.mk (Kd.R_below (by (with_reducible repeat (first | apply Kd.R_alloc | apply Kd.R_drewN | apply Kd.R_drew)); exact HO206.out) hb)
    have n1_ := Aside0.mk (Kd.N_lower (Kd.N_mono (ok' := fun k_ => some k_ ≠ (.slice (some ad212) y204.length co64 : Value).ownBlock) ho0 (fun k_ hk_ => (Kd.fresh' (Kd.R_lt (by (with_reducible repeat (first | apply Kd.R_alloc | apply Kd.R_drewN | apply Kd.R_drew)); exact HO206.out)) k_ hk_))) (below_size (by repeat (first | (with_reducible first | exact HB.out | apply below_alloc | apply pw_below_drewN | apply below_drew1) | exact HB.out))))
    have n2_ := Aside0.mk (below_step (by repeat (first | (with_reducible first | exact HB.out | apply below_alloc | apply pw_below_drewN | apply below_drew1) | exact HB.out)) hb)
    clear HO206; clear HB
    have HO206 := n0_
    have HO220 := n1_
    have HB := n2_
    clear n0_ n1_ n2_; (try clear hb); (try clear hb2); (try clear hk); (try clear hi); (try clear ho0)
    refine hK.out _ _ (HS0_) (fun hHeld => ?_)
    clear hK K
    refine norm_ (a' := ?_) ?_ ?_
    rotate_left
    ·show Act.put _ (some 40) _ = _
     simp only [Act.put, List.setIfInBounds_toArray, List.set_cons_zero, List.set_cons_succ, i64_w, i32_w]
     rfl
    refine pure_ (i := 17) (N := some 23) (v := ?_) (a' := ?_) #[true, true, true, true, true, true, true, true, true, true, true, true, true, true, true, true, true, true, false, false, false, false, false, false] rfl rfl (any_of HT_.out (by kernel_rfl)) (fun _ _ _ h => h) (Or.inl ⟨by rfl, ?_⟩) ?_ ?_
    rotate_left
    ·intro w'
     go_simp
     with_reducible rfl
    rotate_left
    ·simp only [Act.put, List.setIfInBounds_toArray, List.set_cons_zero, List.set_cons_succ, i64_w, i32_w]
     rfl
    refine pure_ (i := 18) (N := some 41) (v := ?_) (a' := ?_) #[true, true, true, true, true, true, true, true, true, true, true, true, true, true, true, true, true, true, true, false, false, false, false, false] rfl rfl (any_of HT_.out (by kernel_rfl)) (fun _ _ _ h => h) (Or.inl ⟨by rfl, ?_⟩) ?_ ?_
    rotate_left
    ·intro w'
     go_simp
     with_reducible rfl
    rotate_left
    ·simp only [Act.put, List.setIfInBounds_toArray, List.set_cons_zero, List.set_cons_succ, i64_w, i32_w]
     rfl
    refine pure_ (i := 19) (N := some 42) (v := ?_) (a' := ?_) #[true, true, true, true, true, true, true, true, true, true, true, true, true, true, true, true, true, true, true, true, false, false, false, false] rfl rfl (any_of HT_.out (by kernel_rfl)) (fun _ _ _ h => h) (Or.inl ⟨by rfl, ?_⟩) ?_ ?_
    rotate_left
    ·intro w'
     go_simp
     with_reducible rfl
    rotate_left
    ·simp only [Act.put, List.setIfInBounds_toArray, List.set_cons_zero, List.set_cons_succ, i64_w, i32_w]
     rfl
    refine pure_ (i := 20) (N := some 43) (v := ?_) (a' := ?_) #[true, true, true, true, true, true, true, true, true, true, true, true, true, true, true, true, true, true, true, true, true, false, false, false] rfl rfl (any_of HT_.out (by kernel_rfl)) (fun _ _ _ h => h) (Or.inl ⟨by rfl, ?_⟩) ?_ ?_
    rotate_left
    ·intro w'
     go_simp
     with_reducible rfl
    rotate_left
    ·simp only [Act.put, List.setIfInBounds_toArray, List.set_cons_zero, List.set_cons_succ, i64_w, i32_w]
     rfl
    refine pure_ (i := 21) (N := some 9) (v := ?_) (a' := ?_) #[true, true, true, true, true, true, true, true, true, true, true, true, true, true, true, true, true, true, true, true, true, true, false, false] rfl rfl (any_of HT_.out (by kernel_rfl)) (fun _ _ _ h => h) (Or.inl ⟨by rfl, ?_⟩) ?_ ?_
    rotate_left
    ·intro w'
     go_simp
     with_reducible rfl
    rotate_left
    ·simp only [Act.put, List.setIfInBounds_toArray, List.set_cons_zero, List.set_cons_succ, i64_w, i32_w]
     rfl
    refine pure_ (i := 22) (N := some 10) (v := ?_) (a' := ?_) #[true, true, true, true, true, true, true, true, true, true, true, true, true, true, true, true, true, true, true, true, true, true, true, false] rfl rfl (any_of HT_.out (by kernel_rfl)) (fun _ _ _ h => h) (Or.inl ⟨by rfl, ?_⟩) ?_ ?_
    rotate_left
    ·intro w'
     go_simp
     with_reducible rfl
    rotate_left
    ·simp only [Act.put, List.setIfInBounds_toArray, List.set_cons_zero, List.set_cons_succ, i64_w, i32_w]
     rfl
    refine pure_ (i := 23) (N := some 11) (v := ?_) (a' := ?_) #[true, true, true, true, true, true, true, true, true, true, true, true, true, true, true, true, true, true, true, true, true, true, true, true] rfl rfl (any_of HT_.out (by kernel_rfl)) (fun _ _ _ h => h) (Or.inl ⟨by rfl, ?_⟩) ?_ ?_
    rotate_left
    ·intro w'
     go_simp
     with_reducible rfl
    rotate_left
    ·simp only [Act.put, List.setIfInBounds_toArray, List.set_cons_zero, List.set_cons_succ, i64_w, i32_w]
     rfl
    refine done_ (done_of HT_.out (by kernel_rfl)) ?_
    try go_wp2_with (first | ((with_reducible refine gate_callee (f := 9) rfl ?_); refine goesL_ (some 44) rfl rfl Tryd.func9 (by kernel_rfl) rfl #[] rfl (by (try simp only [List.map_toArray, List.map_cons, List.map_nil]); first | done | rfl | (simp only [List.length_drop, List.length_take]; rfl)) ?_; (with_reducible refine (exequaturlaw24_answers.calls k  false _ A21.out (hG := GOK.below hG (by repeat (first | (with_reducible first | exact HB.out | apply below_alloc | apply pw_below_drewN | apply below_drew1) | exact HB.out)))).mono ?_); rintro e w69 ⟨rfl, hb⟩; refine ⟨_, rfl, ?_⟩; have n0_ := Aside0.mk (Kd.R_below (by (with_reducible repeat (first | apply Kd.R_alloc | apply Kd.R_drewN | apply Kd.R_drew)); exact HO206.out) hb); have n1_ := Aside0.mk (Kd.N_below (by (with_reducible repeat (first | apply Kd.N_alloc | apply Kd.N_drewN | apply Kd.N_drew)); exact HO220.out) hb); have n2_ := Aside0.mk (below_step (by repeat (first | (with_reducible first | exact HB.out | apply below_alloc | apply pw_below_drewN | apply below_drew1) | exact HB.out)) hb); clear HO206; clear HO220; clear HB; have HO206 := n0_; have HO220 := n1_; have HB := n2_; clear n0_ n1_ n2_; (try clear hb); (try clear hb2); (try clear hk); (try clear hi)))
    go_ret
    first | (exact ⟨by first | rfl | (simp [errW_none, errW_some] <;> rfl) | (simp only [← hji7, ← hji11]; first | rfl | (simp [errW_none, errW_some] <;> rfl)) | (simp [*, errW_none, errW_some] <;> rfl), by repeat (first | (with_reducible first | exact HB.out | apply below_alloc | apply pw_below_drewN | apply below_drew1) | exact HB.out)⟩) | (focus (exfalso; simp_all; done))
    all_goals (first | (exfalso; simp_all <;> omega) | (go_ret; exact ⟨by first | rfl | (simp [errW_none, errW_some] <;> rfl) | (simp only [← hji7, ← hji11]; first | rfl | (simp [errW_none, errW_some] <;> rfl)) | (simp [*, errW_none, errW_some] <;> rfl), by repeat (first | (with_reducible first | exact HB.out | apply below_alloc | apply pw_below_drewN | apply below_drew1) | exact HB.out)⟩))
 ·replace c5 := Bool.eq_false_iff.mpr c5
  subst c5
  have H1 : ((exequaturlaw24_answers.f k).bind fun t203 => (some t203)) = some r := by rw [if_neg (show ¬ (false = true) by decide)] at H; exact H
  clear H
  have H := H1
  clear H1
  replace H := Option.bind_eq_some_iff.mp H
  obtain ⟨t203, A700, H⟩ := H
  replace H : (some t203) = some r := H
  have A70 := Aside0.mk A700
  clear A700
  obtain rfl := Option.some.inj H
  go_enter Tryd.func5, Tryd.ntmps5
  go_wp2_with (first | ((with_reducible refine gate_callee (f := 8) rfl ?_); refine goesL_ (some 13) rfl rfl Tryd.func8 (by kernel_rfl) rfl #[.slice A0 l0.length c0] rfl (by (try simp only [List.map_toArray, List.map_cons, List.map_nil]); first | done | rfl | (simp only [List.length_drop, List.length_take]; rfl)) ?_; (with_reducible refine (exequaturlaw24_small.calls _ _ l0 false _ ?side1 ?side2 A4.out).mono ?_); (case side1 => repeat (first | exact HR0.out | (with_reducible refine Kd.C_alloc ?_ _) | (with_reducible refine Kd.C_drewN ?_ _) | (with_reducible refine Kd.C_drew ?_))); (case side2 => exact HC0.out); rintro e w71 ⟨rfl, hb⟩; refine ⟨_, rfl, ?_⟩; have n0_ := Aside0.mk (below_step (by repeat (first | (with_reducible first | exact HB.out | apply below_alloc | apply pw_below_drewN | apply below_drew1) | exact HB.out)) hb); clear HB; have HB := n0_; clear n0_; (try clear hb); (try clear hb2); (try clear hk); (try clear hi)) | ((with_reducible refine gate_callee (f := 9) rfl ?_); refine goesL_ (some 15) rfl rfl Tryd.func9 (by kernel_rfl) rfl #[] rfl (by (try simp only [List.map_toArray, List.map_cons, List.map_nil]); first | done | rfl | (simp only [List.length_drop, List.length_take]; rfl)) ?_; (with_reducible refine (exequaturlaw24_answers.calls k  t203 _ A70.out (hG := GOK.below hG (by repeat (first | (with_reducible first | exact HB.out | apply below_alloc | apply pw_below_drewN | apply below_drew1) | exact HB.out)))).mono ?_); rintro e w72 ⟨rfl, hb⟩; refine ⟨_, rfl, ?_⟩; have n0_ := Aside0.mk (below_step (by repeat (first | (with_reducible first | exact HB.out | apply below_alloc | apply pw_below_drewN | apply below_drew1) | exact HB.out)) hb); clear HB; have HB := n0_; clear n0_; (try clear hb); (try clear hb2); (try clear hk); (try clear hi)))
  go_ret
  first | (exact ⟨by first | rfl | (simp [errW_none, errW_some] <;> rfl) | (simp [*, errW_none, errW_some] <;> rfl), by repeat (first | (with_reducible first | exact HB.out | apply below_alloc | apply pw_below_drewN | apply below_drew1) | exact HB.out)⟩) | (focus (exfalso; simp_all; done))
  all_goals (first | (exfalso; simp_all <;> omega) | (go_ret; exact ⟨by first | rfl | (simp [errW_none, errW_some] <;> rfl) | (simp [*, errW_none, errW_some] <;> rfl), by repeat (first | (with_reducible first | exact HB.out | apply below_alloc | apply pw_below_drewN | apply below_drew1) | exact HB.out)⟩))

end Go.Proofs.YtjfajkdamechiaaDoor.X
