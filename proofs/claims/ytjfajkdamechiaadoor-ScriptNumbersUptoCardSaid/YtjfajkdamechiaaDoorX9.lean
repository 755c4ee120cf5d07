-- Lean text made by xprint.py (ours) out of the seat's translation. Lean checks it.
import Derived.Test.YtjfajkdamechiaaDoorX0
import Derived.Test.YtjfajkdamechiaaDoorX8
import Derived.Test.YtjfajkdamechiaaDoorHDec
import Derived.Test.YtjfajkdamechiaaDoorHScrP
import Derived.Test.YtjfajkdamechiaaDoorHSmall
namespace Go.Proofs.YtjfajkdamechiaaDoor.X
open Go.RowKit Go.Proofs.YtjfajkdamechiaaDoorW.PrintWords Go.Proofs.YtjfajkdamechiaaDoorW.PrintLast Go.Proofs.YtjfajkdamechiaaDoorW.PrintMore
attribute [local go_sem] max2_int min2_int max_two min_two max_three min_three max_four min_four   -- for this text's walks alone
set_option linter.unusedVariables false
set_option linter.unusedSimpArgs false

/-! ### exequaturref01_sixty: function 31 -/
def exequaturref01_sixty.f (a0 : Int) : Option (Int) := if 0 ≤ a0 then (if a0 < 64 then (some (bt (⟨#[65, 66, 67, 68, 69, 70, 71, 72, 73, 74, 75, 76, 77, 78, 79, 80, 81, 82, 83, 84, 85, 86, 87, 88, 89, 90, 97, 98, 99, 100, 101, 102, 103, 104, 105, 106, 107, 108, 109, 110, 111, 112, 113, 114, 115, 116, 117, 118, 119, 120, 121, 122, 48, 49, 50, 51, 52, 53, 54, 55, 56, 57, 45, 95]⟩ : ByteArray) a0)) else (none)) else (none)
set_option maxHeartbeats 8000000 in
set_option maxRecDepth 100000 in
theorem exequaturref01_sixty.calls (a0 : Int) (r : Int) (w : World) (h : exequaturref01_sixty.f a0 = some r) :
  Calls Tryd.prog 31 #[.int .i64 a0] w fun e w' => e = .returned (.int .u8 r) ∧ Drawn0 w w' := by
 have H : (if 0 ≤ a0 then (if a0 < 64 then (some (bt (⟨#[65, 66, 67, 68, 69, 70, 71, 72, 73, 74, 75, 76, 77, 78, 79, 80, 81, 82, 83, 84, 85, 86, 87, 88, 89, 90, 97, 98, 99, 100, 101, 102, 103, 104, 105, 106, 107, 108, 109, 110, 111, 112, 113, 114, 115, 116, 117, 118, 119, 120, 121, 122, 48, 49, 50, 51, 52, 53, 54, 55, 56, 57, 45, 95]⟩ : ByteArray) a0)) else (none)) else (none)) = some r := h
 clear h
 by_cases c2 : 0 ≤ a0
 rotate_left
 ·rw [if_neg c2] at H; exact absurd H (by simp)
 rw [if_pos c2] at H
 have c2b0 : decide (0 ≤ a0) = true := decide_eq_true c2
 clear c2
 by_cases c3 : a0 < 64
 rotate_left
 ·rw [if_neg c3] at H; exact absurd H (by simp)
 rw [if_pos c3] at H
 have c3b0 : decide (a0 < 64) = true := decide_eq_true c3
 clear c3
 obtain rfl := Option.some.inj H
 have p4 : 0 ≤ (a0 : Int) := of_decide_eq_true (by first | (with_reducible assumption) | assumption)
 have q4 : a0 < (64 : Int) := of_decide_eq_true (by first | (with_reducible assumption) | assumption)
 have hx4 := bt_at (⟨#[65, 66, 67, 68, 69, 70, 71, 72, 73, 74, 75, 76, 77, 78, 79, 80, 81, 82, 83, 84, 85, 86, 87, 88, 89, 90, 97, 98, 99, 100, 101, 102, 103, 104, 105, 106, 107, 108, 109, 110, 111, 112, 113, 114, 115, 116, 117, 118, 119, 120, 121, 122, 48, 49, 50, 51, 52, 53, 54, 55, 56, 57, 45, 95]⟩ : ByteArray) a0
 replace p4 := eq_true p4
 replace q4 := eq_true q4
 go_enter Tryd.func31, Tryd.ntmps31
 go_wp2
 go_ret
 exact ⟨by first | rfl | (simp; done) | (simp [*]; done) | (refine congrArg Value.bool ?_; rw [Bool.eq_iff_iff]; simp; done), by repeat (first | exact Drawn0.refl _ | apply Drawn0.step)⟩

/-! ### exequaturref01_B64: function 20 -/
mutual
def exequaturref01_B64.l0 : Nat → ByteArray → List Int → Int → Option (ByteArray)
  | 0, _, _, _ => none
  | k + 1, x0, x3, x4 => if x4 < (x0.size : Int) then (exequaturref01_B64.l1 k x0 x3 x4 0 0 0) else (some (strOfNums x3))
def exequaturref01_B64.l1 : Nat → ByteArray → List Int → Int → Int → Int → Int → Option (ByteArray)
  | 0, _, _, _, _, _, _ => none
  | k + 1, x0, x3, x4, x5, x6, x7 => if x7 < 3 then (if (wrap64 (x4 + x7)) < (x0.size : Int) then (if 0 ≤ (wrap64 (x4 + x7)) then (exequaturref01_B64.l1 k x0 x3 x4 (wrap64 ((wrap64 (x5 * 256)) + (wrap64 (bt x0 (wrap64 (x4 + x7)))))) (wrap64 (x6 + 1)) (wrap64 (x7 + 1))) else (none)) else (exequaturref01_B64.l1 k x0 x3 x4 (wrap64 (x5 * 256)) x6 (wrap64 (x7 + 1)))) else ((exequaturref01_sixty.f (wrap64 (Int.tdiv x5 262144))).bind fun t154 => ((exequaturref01_sixty.f (Int.tmod (wrap64 (Int.tdiv x5 4096)) 64)).bind fun t155 => ((exequaturref01_sixty.f (Int.tmod (wrap64 (Int.tdiv x5 64)) 64)).bind fun t156 => ((exequaturref01_sixty.f (Int.tmod x5 64)).bind fun t157 => ((some (([t154, t155, t156, t157] : List Int) : List Int)).bind fun y158 => (if 0 ≤ (wrap64 (x6 + 1)) then (if (wrap64 (x6 + 1)) ≤ (y158.length : Int) then ((some (y158.take ((wrap64 (x6 + 1)) : Int).toNat : List Int)).bind fun y161 => (if x3.length + y161.length < 140737488355328 then (exequaturref01_B64.l0 k x0 (x3 ++ y161) (wrap64 (x4 + 3))) else (none))) else (none)) else (none)))))))
end
def exequaturref01_B64.f (k : Nat) (a0 : ByteArray) : Option (ByteArray) := exequaturref01_B64.l0 k a0 ([] : List Int) 0
theorem exequaturref01_B64.mono_l : ∀ k, (∀ y0 y1 y2, LeO (exequaturref01_B64.l0 k y0 y1 y2) (exequaturref01_B64.l0 (k + 1) y0 y1 y2)) ∧ (∀ y0 y1 y2 y3 y4 y5, LeO (exequaturref01_B64.l1 k y0 y1 y2 y3 y4 y5) (exequaturref01_B64.l1 (k + 1) y0 y1 y2 y3 y4 y5))
  | 0 => ⟨fun _ _ _ r h => by simp [exequaturref01_B64.l0] at h, fun _ _ _ _ _ _ r h => by simp [exequaturref01_B64.l1] at h⟩
  | k + 1 => by
    obtain ⟨ih0, ih1⟩ := exequaturref01_B64.mono_l k
    refine ⟨?_, ?_⟩
    · intro y0 y1 y2
      unfold exequaturref01_B64.l0
      repeat' first
      | (with_reducible exact ih0 _ _ _)
      | (with_reducible exact ih1 _ _ _ _ _ _)
      | (with_reducible exact LeO.refl _)
      | (with_reducible exact LeO.none _)
      | (with_reducible refine LeO.ite ?_ ?_)
      | (with_reducible refine LeO.bind ?_ (fun _ => ?_))
      | exact ih0 _ _ _
      | exact ih1 _ _ _ _ _ _
      | exact LeO.none _
      | refine LeO.ite ?_ ?_
      | refine LeO.bind ?_ (fun _ => ?_)
    · intro y0 y1 y2 y3 y4 y5
      unfold exequaturref01_B64.l1
      repeat' first
      | (with_reducible exact ih0 _ _ _)
      | (with_reducible exact ih1 _ _ _ _ _ _)
      | (with_reducible exact LeO.refl _)
      | (with_reducible exact LeO.none _)
      | (with_reducible refine LeO.ite ?_ ?_)
      | (with_reducible refine LeO.bind ?_ (fun _ => ?_))
      | exact ih0 _ _ _
      | exact ih1 _ _ _ _ _ _
      | exact LeO.none _
      | refine LeO.ite ?_ ?_
      | refine LeO.bind ?_ (fun _ => ?_)
theorem exequaturref01_B64.mono : ∀ a0 k, LeO (exequaturref01_B64.f k a0) (exequaturref01_B64.f (k + 1) a0) := by
  intro a0 k
  obtain ⟨ih0, ih1⟩ := exequaturref01_B64.mono_l k
  unfold exequaturref01_B64.f
  repeat' first
      | (with_reducible exact ih0 _ _ _)
      | (with_reducible exact ih1 _ _ _ _ _ _)
      | (with_reducible exact LeO.refl _)
      | (with_reducible exact LeO.none _)
      | (with_reducible refine LeO.ite ?_ ?_)
      | (with_reducible refine LeO.bind ?_ (fun _ => ?_))
      | exact ih0 _ _ _
      | exact ih1 _ _ _ _ _ _
      | exact LeO.none _
      | refine LeO.ite ?_ ?_
      | refine LeO.bind ?_ (fun _ => ?_)
set_option maxHeartbeats 8000000 in
set_option maxRecDepth 100000 in
theorem exequaturref01_B64.calls (k : Nat) (a0 : ByteArray) (r : ByteArray) (w : World) (h : exequaturref01_B64.f k a0 = some r) :
  Calls Tryd.prog 20 #[.string a0] w fun e w' => e = .returned (.string r) ∧ Below w.heap.size w w' := by
 have HB := Aside0.mk (Below.refl w.heap.size w)
 have H : (exequaturref01_B64.l0 k a0 ([] : List Int) 0) = some r := h
 clear h
 have H' := Aside0.mk H
 clear H
 go_enter Tryd.func20, Tryd.ntmps20
 go_wp2
 go_loopg [3, 4] k (fun kq v3 v4 w' => ∃ (x3_1 : List Int) (x4_1 : Int), v4 = .int .i64 x4_1 ∧ Aside0 (exequaturref01_B64.l0 kq a0 x3_1 x4_1 = some r) ∧ Aside0 (kq ≤ k) ∧ Aside0 (Kd.R (Kd.int .u8) 5 w' w.heap.size (fun _ => True) v3 x3_1) ∧ Aside0 (Below w.heap.size w w'))
 case atStart => exact ⟨(([] : List Int)), (0), (by first | rfl | (simp; done) | (simp [*]; done) | (refine congrArg Value.bool ?_; rw [Bool.eq_iff_iff]; simp; done)), H', ⟨Nat.le_refl _⟩, ⟨by first | exact Kd.R_nil _ _ _ _ _ | exact Kd.N_nil _ _ _ _ _ | exact Kd.V_nil _ _ _ _ _ | exact Kd.Q_nil _ _ _ _ _ | exact Kd.S_nil _ _ _ _ _⟩, ⟨by repeat (first | (with_reducible first | exact HB.out | apply below_alloc | apply pw_below_drewN | apply below_drew1) | exact HB.out)⟩⟩
 case round =>
  clear H'
  obtain ⟨x3_1, x4_1, rfl, HA, HK1, HO_3, HB⟩ := hrel
  cases gk with
  | zero => exact absurd HA.out (by simp [exequaturref01_B64.l0])
  | succ k1 =>
   have H := HA.out
   clear HA
   simp only [exequaturref01_B64.l0] at H
   by_cases c2 : x4_1 < (a0.size : Int)
   ·rw [if_pos c2] at H
    have c2b0 : decide (x4_1 < (a0.size : Int)) = true := decide_eq_true c2
    clear c2
    have H' := Aside0.mk H
    clear H
    go_wp2
    go_loopg [5, 6, 7] k1 (fun kq v5 v6 v7 w' => ∃ (x5_2 : Int) (x6_2 : Int) (x7_2 : Int), v5 = .int .i64 x5_2 ∧ v6 = .int .i64 x6_2 ∧ v7 = .int .i64 x7_2 ∧ Aside0 (exequaturref01_B64.l1 kq a0 x3_1 x4_1 x5_2 x6_2 x7_2 = some r) ∧ Aside0 (kq ≤ k1) ∧ Aside0 (Kd.R (Kd.int .u8) 5 w' w.heap.size (fun _ => True) u3 x3_1) ∧ Aside0 (Below w.heap.size w w'))
    case atStart => exact ⟨(0), (0), (0), (by first | rfl | (simp; done) | (simp [*]; done) | (refine congrArg Value.bool ?_; rw [Bool.eq_iff_iff]; simp; done)), (by first | rfl | (simp; done) | (simp [*]; done) | (refine congrArg Value.bool ?_; rw [Bool.eq_iff_iff]; simp; done)), (by first | rfl | (simp; done) | (simp [*]; done) | (refine congrArg Value.bool ?_; rw [Bool.eq_iff_iff]; simp; done)), H', ⟨Nat.le_refl _⟩, ⟨by (with_reducible repeat (first | apply Kd.R_alloc | apply Kd.R_drewN | apply Kd.R_drew)); exact HO_3.out⟩, ⟨by repeat (first | (with_reducible first | exact HB.out | apply below_alloc | apply pw_below_drewN | apply below_drew1) | exact HB.out)⟩⟩
    case round =>
     clear H'
     try clear c2; try clear c2b0; try clear p2
     obtain ⟨x5_2, x6_2, x7_2, rfl, rfl, rfl, HA, HK2, HO_3, HB⟩ := hrel
     cases gk with
     | zero => exact absurd HA.out (by simp [exequaturref01_B64.l1])
     | succ k2 =>
      have H := HA.out
      clear HA
      simp only [exequaturref01_B64.l1] at H
      by_cases c3 : x7_2 < 3
      ·rw [if_pos c3] at H
       have c3b0 : decide (x7_2 < 3) = true := decide_eq_true c3
       clear c3
       by_cases c4 : (wrap64 (x4_1 + x7_2)) < (a0.size : Int)
       ·rw [if_pos c4] at H
        have c4b0 : decide ((wrap64 (x4_1 + x7_2)) < (a0.size : Int)) = true := decide_eq_true c4
        clear c4
        obtain ⟨ji5, hji5⟩ : ∃ j_ : Int, (wrap64 (x4_1 + x7_2)) = j_ := ⟨_, rfl⟩
        replace H : (if 0 ≤ (ji5) then (exequaturref01_B64.l1 k2 a0 x3_1 x4_1 (wrap64 ((wrap64 (x5_2 * 256)) + (wrap64 (bt a0 (ji5))))) (wrap64 (x6_2 + 1)) (wrap64 (x7_2 + 1))) else (none)) = some r := by first | (rw [hji5] at H; exact H) | (simp only [hji5] at H ⊢; exact H)
        (try rw [hji5] at c4b0)
        have hji5w : (IntKind.i64.wrap (x4_1 + x7_2)) = ji5 := (i64_w _).trans hji5
        by_cases c6 : 0 ≤ (ji5)
        rotate_left
        ·rw [if_neg c6] at H; exact absurd H (by simp)
        rw [if_pos c6] at H
        have c6b0 : decide (0 ≤ (ji5)) = true := decide_eq_true c6
        clear c6
        have H' := Aside0.mk H
        clear H
        have p7 : 0 ≤ ((ji5) : Int) := of_decide_eq_true (by first | (with_reducible assumption) | assumption)
        have q7 : (ji5) < (a0.size : Int) := of_decide_eq_true (by first | (with_reducible assumption) | assumption)
        have hx7 := bt_at a0 (ji5)
        replace p7 := eq_true p7
        replace q7 := eq_true q7
        go_wp2
        go_roundg k2
        case measure => have := HK1.out; have := HK2.out; omega
        case rel => exact ⟨(wrap64 ((wrap64 (x5_2 * 256)) + (wrap64 (bt a0 (ji5))))), (wrap64 (x6_2 + 1)), (wrap64 (x7_2 + 1)), (by first | rfl | (simp; done) | (simp only [← hji5] <;> (first | rfl | simp)) | (simp [*]; done)), (by first | rfl | (simp; done) | (simp [*]; done) | (refine congrArg Value.bool ?_; rw [Bool.eq_iff_iff]; simp; done)), (by first | rfl | (simp; done) | (simp [*]; done) | (refine congrArg Value.bool ?_; rw [Bool.eq_iff_iff]; simp; done)), H', ⟨by have := HK1.out; have := HK2.out; omega⟩, ⟨by (with_reducible repeat (first | apply Kd.R_alloc | apply Kd.R_drewN | apply Kd.R_drew)); exact HO_3.out⟩, ⟨by repeat (first | (with_reducible first | exact HB.out | apply below_alloc | apply pw_below_drewN | apply below_drew1) | exact HB.out)⟩⟩
       ·rw [if_neg c4] at H
        have c4b0 : decide ((wrap64 (x4_1 + x7_2)) < (a0.size : Int)) = false := decide_eq_false c4
        clear c4
        have H' := Aside0.mk H
        clear H
        go_wp2
        go_roundg k2
        case measure => have := HK1.out; have := HK2.out; omega
        case rel => exact ⟨(wrap64 (x5_2 * 256)), (x6_2), (wrap64 (x7_2 + 1)), (by first | rfl | (simp; done) | (simp [*]; done) | (refine congrArg Value.bool ?_; rw [Bool.eq_iff_iff]; simp; done)), (by first | rfl | (simp; done) | (simp [*]; done) | (refine congrArg Value.bool ?_; rw [Bool.eq_iff_iff]; simp; done)), (by first | rfl | (simp; done) | (simp [*]; done) | (refine congrArg Value.bool ?_; rw [Bool.eq_iff_iff]; simp; done)), H', ⟨by have := HK1.out; have := HK2.out; omega⟩, ⟨by (with_reducible repeat (first | apply Kd.R_alloc | apply Kd.R_drewN | apply Kd.R_drew)); exact HO_3.out⟩, ⟨by repeat (first | (with_reducible first | exact HB.out | apply below_alloc | apply pw_below_drewN | apply below_drew1) | exact HB.out)⟩⟩
      ·rw [if_neg c3] at H
       have c3b0 : decide (x7_2 < 3) = false := decide_eq_false c3
       clear c3
       replace H := Option.bind_eq_some_iff.mp H
       obtain ⟨t154, A80, H⟩ := H
       replace H : ((exequaturref01_sixty.f (Int.tmod (wrap64 (Int.tdiv x5_2 4096)) 64)).bind fun t155 => ((exequaturref01_sixty.f (Int.tmod (wrap64 (Int.tdiv x5_2 64)) 64)).bind fun t156 => ((exequaturref01_sixty.f (Int.tmod x5_2 64)).bind fun t157 => ((some (([t154, t155, t156, t157] : List Int) : List Int)).bind fun y158 => (if 0 ≤ (wrap64 (x6_2 + 1)) then (if (wrap64 (x6_2 + 1)) ≤ (y158.length : Int) then ((some (y158.take ((wrap64 (x6_2 + 1)) : Int).toNat : List Int)).bind fun y161 => (if x3_1.length + y161.length < 140737488355328 then (exequaturref01_B64.l0 k2 a0 (x3_1 ++ y161) (wrap64 (x4_1 + 3))) else (none))) else (none)) else (none)))))) = some r := H
       have A8 := Aside0.mk A80
       clear A80
       replace H := Option.bind_eq_some_iff.mp H
       obtain ⟨t155, A90, H⟩ := H
       replace H : ((exequaturref01_sixty.f (Int.tmod (wrap64 (Int.tdiv x5_2 64)) 64)).bind fun t156 => ((exequaturref01_sixty.f (Int.tmod x5_2 64)).bind fun t157 => ((some (([t154, t155, t156, t157] : List Int) : List Int)).bind fun y158 => (if 0 ≤ (wrap64 (x6_2 + 1)) then (if (wrap64 (x6_2 + 1)) ≤ (y158.length : Int) then ((some (y158.take ((wrap64 (x6_2 + 1)) : Int).toNat : List Int)).bind fun y161 => (if x3_1.length + y161.length < 140737488355328 then (exequaturref01_B64.l0 k2 a0 (x3_1 ++ y161) (wrap64 (x4_1 + 3))) else (none))) else (none)) else (none))))) = some r := H
       have A9 := Aside0.mk A90
       clear A90
       replace H := Option.bind_eq_some_iff.mp H
       obtain ⟨t156, A100, H⟩ := H
       replace H : ((exequaturref01_sixty.f (Int.tmod x5_2 64)).bind fun t157 => ((some (([t154, t155, t156, t157] : List Int) : List Int)).bind fun y158 => (if 0 ≤ (wrap64 (x6_2 + 1)) then (if (wrap64 (x6_2 + 1)) ≤ (y158.length : Int) then ((some (y158.take ((wrap64 (x6_2 + 1)) : Int).toNat : List Int)).bind fun y161 => (if x3_1.length + y161.length < 140737488355328 then (exequaturref01_B64.l0 k2 a0 (x3_1 ++ y161) (wrap64 (x4_1 + 3))) else (none))) else (none)) else (none)))) = some r := H
       have A10 := Aside0.mk A100
       clear A100
       replace H := Option.bind_eq_some_iff.mp H
       obtain ⟨t157, A110, H⟩ := H
       replace H : ((some (([t154, t155, t156, t157] : List Int) : List Int)).bind fun y158 => (if 0 ≤ (wrap64 (x6_2 + 1)) then (if (wrap64 (x6_2 + 1)) ≤ (y158.length : Int) then ((some (y158.take ((wrap64 (x6_2 + 1)) : Int).toNat : List Int)).bind fun y161 => (if x3_1.length + y161.length < 140737488355328 then (exequaturref01_B64.l0 k2 a0 (x3_1 ++ y161) (wrap64 (x4_1 + 3))) else (none))) else (none)) else (none))) = some r := H
       have A11 := Aside0.mk A110
       clear A110
       obtain ⟨y158, hy158⟩ : ∃ y_ : List Int, y_ = (([t154, t155, t156, t157] : List Int)) := ⟨_, rfl⟩
       replace H : (if 0 ≤ (wrap64 (x6_2 + 1)) then (if (wrap64 (x6_2 + 1)) ≤ (y158.length : Int) then ((some (y158.take ((wrap64 (x6_2 + 1)) : Int).toNat : List Int)).bind fun y161 => (if x3_1.length + y161.length < 140737488355328 then (exequaturref01_B64.l0 k2 a0 (x3_1 ++ y161) (wrap64 (x4_1 + 3))) else (none))) else (none)) else (none)) = some r := by first | (rw [hy158]; with_reducible exact H) | (have H2_ := (Option.bind_some _ _).symm.trans H; rw [hy158]; with_reducible exact H2_) | (have H2_ := (Option.bind_some _ _).symm.trans H; with_reducible exact H2_) | with_reducible exact H | (rw [hy158]; exact H) | exact H
       have Ny158 := Aside0.mk hy158
       clear hy158
       obtain ⟨ji12, hji12⟩ : ∃ j_ : Int, (wrap64 (x6_2 + 1)) = j_ := ⟨_, rfl⟩
       replace H : (if 0 ≤ (ji12) then (if (ji12) ≤ (y158.length : Int) then ((some (y158.take ((ji12) : Int).toNat : List Int)).bind fun y161 => (if x3_1.length + y161.length < 140737488355328 then (exequaturref01_B64.l0 k2 a0 (x3_1 ++ y161) (wrap64 (x4_1 + 3))) else (none))) else (none)) else (none)) = some r := by first | (rw [hji12] at H; exact H) | (simp only [hji12] at H ⊢; exact H)
       (try rw [hji12] at A8)
       (try rw [hji12] at A9)
       (try rw [hji12] at A10)
       (try rw [hji12] at A11)
       have hji12w : (IntKind.i64.wrap (x6_2 + 1)) = ji12 := (i64_w _).trans hji12
       by_cases c13 : 0 ≤ (ji12)
       rotate_left
       ·rw [if_neg c13] at H; exact absurd H (by simp)
       rw [if_pos c13] at H
       have c13b0 := eq_true c13
       have c13b1 : decide (0 ≤ (ji12)) = true := decide_eq_true c13
       clear c13
       by_cases c14 : (ji12) ≤ (y158.length : Int)
       rotate_left
       ·rw [if_neg c14] at H; exact absurd H (by simp)
       rw [if_pos c14] at H
       have c14b0 := eq_true c14
       have c14b1 : decide ((ji12) ≤ (y158.length : Int)) = true := decide_eq_true c14
       clear c14
       obtain ⟨y161, hy161⟩ : ∃ y_ : List Int, y_ = (y158.take ((ji12) : Int).toNat) := ⟨_, rfl⟩
       replace H : (if x3_1.length + y161.length < 140737488355328 then (exequaturref01_B64.l0 k2 a0 (x3_1 ++ y161) (wrap64 (x4_1 + 3))) else (none)) = some r := by first | (rw [hy161]; with_reducible exact H) | (have H2_ := (Option.bind_some _ _).symm.trans H; rw [hy161]; with_reducible exact H2_) | (have H2_ := (Option.bind_some _ _).symm.trans H; with_reducible exact H2_) | with_reducible exact H | (rw [hy161]; exact H) | exact H
       have Ny161 := Aside0.mk hy161
       clear hy161
       by_cases c15 : x3_1.length + y161.length < 140737488355328
       rotate_left
       ·rw [if_neg c15] at H; exact absurd H (by simp)
       rw [if_pos c15] at H
       have LMc15 := Aside0.mk c15
       clear c15
       obtain ⟨y165, hy165⟩ : ∃ y_ : List Int, y_ = (x3_1 ++ y161) := ⟨_, rfl⟩
       replace H : (exequaturref01_B64.l0 k2 a0 y165 (wrap64 (x4_1 + 3))) = some r := by first | (rw [hy165]; with_reducible exact H) | (have H2_ := (Option.bind_some _ _).symm.trans H; rw [hy165]; with_reducible exact H2_) | (have H2_ := (Option.bind_some _ _).symm.trans H; with_reducible exact H2_) | with_reducible exact H | (rw [hy165]; exact H) | exact H
       have Ny165 := Aside0.mk hy165
       clear hy165
       have H' := Aside0.mk H
       clear H
       go_wp2_with (first | ((with_reducible refine gate_callee (f := 31) rfl ?_); refine goesL_ (some 39) rfl rfl Tryd.func31 (by kernel_rfl) rfl #[.int .i64 (wrap64 (Int.tdiv x5_2 262144))] rfl (by (try simp only [List.map_toArray, List.map_cons, List.map_nil]); first | done | rfl | (simp only [List.length_drop, List.length_take]; rfl)) ?_; (with_reducible refine (exequaturref01_sixty.calls (wrap64 (Int.tdiv x5_2 262144)) t154 _ A8.out).mono ?_); rintro e w' ⟨rfl, ⟨nd, rfl⟩⟩; refine ⟨_, rfl, ?_⟩) | ((with_reducible refine gate_callee (f := 31) rfl ?_); refine goesL_ (some 43) rfl rfl Tryd.func31 (by kernel_rfl) rfl #[.int .i64 (Int.tmod (wrap64 (Int.tdiv x5_2 4096)) 64)] rfl (by (try simp only [List.map_toArray, List.map_cons, List.map_nil]); first | done | rfl | (simp only [List.length_drop, List.length_take]; rfl)) ?_; (with_reducible refine (exequaturref01_sixty.calls (Int.tmod (wrap64 (Int.tdiv x5_2 4096)) 64) t155 _ A9.out).mono ?_); rintro e w' ⟨rfl, ⟨nd, rfl⟩⟩; refine ⟨_, rfl, ?_⟩) | ((with_reducible refine gate_callee (f := 31) rfl ?_); refine goesL_ (some 47) rfl rfl Tryd.func31 (by kernel_rfl) rfl #[.int .i64 (Int.tmod (wrap64 (Int.tdiv x5_2 64)) 64)] rfl (by (try simp only [List.map_toArray, List.map_cons, List.map_nil]); first | done | rfl | (simp only [List.length_drop, List.length_take]; rfl)) ?_; (with_reducible refine (exequaturref01_sixty.calls (Int.tmod (wrap64 (Int.tdiv x5_2 64)) 64) t156 _ A10.out).mono ?_); rintro e w' ⟨rfl, ⟨nd, rfl⟩⟩; refine ⟨_, rfl, ?_⟩) | ((with_reducible refine gate_callee (f := 31) rfl ?_); refine goesL_ (some 50) rfl rfl Tryd.func31 (by kernel_rfl) rfl #[.int .i64 (Int.tmod x5_2 64)] rfl (by (try simp only [List.map_toArray, List.map_cons, List.map_nil]); first | done | rfl | (simp only [List.length_drop, List.length_take]; rfl)) ?_; (with_reducible refine (exequaturref01_sixty.calls (Int.tmod x5_2 64) t157 _ A11.out).mono ?_); rintro e w' ⟨rfl, ⟨nd, rfl⟩⟩; refine ⟨_, rfl, ?_⟩) | ((with_reducible refine gate_dst (N := 51) rfl ?_); refine Kd.R_lit (Kd.int .u8) _ 5 ?hg (N := 51) ?hd (xs := ([t154, t155, t156, t157] : List Int)) (inner := [.int .u8 t154, .int .u8 t155, .int .u8 t156, .int .u8 t157]) (ok := fun _ => True) (okp := fun _ => True) ?hr ?hp (fun _ hk => hk) trivial (Below.refl _ _) (Nat.le_refl _) (by simp) ?_; (case hd => rfl); (case hg => rfl); (case hr => first | (go_simp; done) | (go_simp; rfl)); (case hp => exact (Reps.one (show Kd.M (Kd.int .u8) _ _ _ t154 [.int .u8 t154] from rfl) (Reps.one (show Kd.M (Kd.int .u8) _ _ _ t155 [.int .u8 t155] from rfl) (Reps.one (show Kd.M (Kd.int .u8) _ _ _ t156 [.int .u8 t156] from rfl) (Reps.one (show Kd.M (Kd.int .u8) _ _ _ t157 [.int .u8 t157] from rfl) (Reps.none _ _)))))); intro v159 w16 ho17 hb hg_ hnew_; clear hg_ hnew_; (first | rw [← Ny158.out] at ho17 | (simp only [Int.reduceToNat] at ho17; rw [← Ny158.out] at ho17)); have n0_ := Aside0.mk (Kd.R_elder' (by (with_reducible repeat (first | apply Kd.R_alloc | apply Kd.R_drewN | apply Kd.R_drew)); exact HO_3.out) (Kd.R_base ho17) hb); have n1_ := Aside0.mk (Kd.R_lower (Kd.R_new' ho17 (Kd.R_lt (by (with_reducible repeat (first | apply Kd.R_alloc | apply Kd.R_drewN | apply Kd.R_drew)); exact HO_3.out))) (below_size (by repeat (first | (with_reducible first | exact HB.out | apply below_alloc | apply pw_below_drewN | apply below_drew1) | exact HB.out)))); have n2_ := Aside0.mk (below_step (by repeat (first | (with_reducible first | exact HB.out | apply below_alloc | apply pw_below_drewN | apply below_drew1) | exact HB.out)) hb); clear HO_3; clear HB; have HO_3 := n0_; have HO160 := n1_; have HB := n2_; clear n0_ n1_ n2_; clear hb ho17; obtain ⟨Ao19, co19, eo19⟩ := Kd.R_slice HO160.out; subst eo19; have q18 : ((ji12) : Int) ≤ ((y158.length : Int) : Int) := of_decide_eq_true (by first | (with_reducible assumption) | assumption); obtain ⟨i018, hi018, _, hsz18, _⟩ := info_parts info5; have hroom18 : y158.length ≤ co19 := (Kd.R_reads' HO160.out).2.1; have hC18 : Kd.C (Kd.int .u8) _ Ao19 y158.length y158 := (Kd.R_reads' HO160.out).2.2; have hcut18 := cut_to (P := Tryd.prog) 39 5 .i64 Tryd.underlying39 hi018 Ao19 y158.length co19 (ji12) (of_decide_eq_true (by first | (with_reducible assumption) | assumption)) q18 hroom18; have hr18 := Kd.C_take (m := ((ji12) : Int).toNat) hC18 (by omega); have hy18 : y161.length = ((ji12) : Int).toNat := (by rw [Ny161.out, List.length_take]; omega); rw [← Ny161.out] at hr18; rw [← hy18] at hcut18; have HR164 := Aside0.mk hr18; have HC164 := Aside0.mk (show y161.length ≤ co19 from by omega); clear hr18 hC18 hroom18 hi018 hsz18; have KY18 := Aside0.mk hy18; clear hy18; have KL18 := Aside0.mk (show ((ji12) : Int).toNat ≤ y158.length from by omega); replace q18 := eq_true q18) | ((with_reducible refine gate_builtin (b := .append) (xs := #[.tmp 52, .tmp 56]) rfl ?_); at_builtin; refine Kd.R_append_rows (Kd.int .u8) (w0 := w) w.heap.size rfl (.tmp 52) (.tmp 56) 39 5 (.int .u8 0) 1 rfl Tryd.underlying39 info5 rfl (by decide) (by omega) u3 x3_1 y161 _ _ _ (fun k_ => some k_ ≠ (.slice Ao19 y158.length co19 : Value).ownBlock) (fun _ => False) rfl rfl ?aO ?aR (fun _ _ h => h) (fun _ h => h.elim) ?aF ?aB ?aS ?aL ?_; (case aR => repeat (first | exact (by repeat (first | (with_reducible exact HR164.out) | (with_reducible refine Kd.C_alloc ?_ _) | (with_reducible refine Kd.C_drewN ?_ _) | (with_reducible refine Kd.C_drew ?_) | exact HR164.out)) | (with_reducible refine Kd.C_alloc ?_ _) | (with_reducible refine Kd.C_drewN ?_ _) | (with_reducible refine Kd.C_drew ?_))); (case aB => exact (by repeat (first | (with_reducible first | exact HB.out | apply below_alloc | apply pw_below_drewN | apply below_drew1) | exact HB.out))); (case aF => exact (fun k_ hk => Kd.fresh' (Kd.R_lt (by (with_reducible repeat (first | apply Kd.R_alloc | apply Kd.R_drewN | apply Kd.R_drew)); exact HO160.out)) k_ hk)); (case aO => exact (by (with_reducible repeat (first | apply Kd.R_alloc | apply Kd.R_drewN | apply Kd.R_drew)); exact Kd.R_mono HO_3.out (fun _ hk => hk.2))); (case aS => exact (below_size (by repeat (first | (with_reducible first | exact HB.out | apply below_alloc | apply pw_below_drewN | apply below_drew1) | exact HB.out)))); (case aL => have := LMc15.out; omega); intro v166 w20 ho hb hg hat; rw [← Ny165.out] at ho; have n0_ := Aside0.mk (Kd.R_after (ok := (fun _ => True)) (by (with_reducible repeat (first | apply Kd.R_alloc | apply Kd.R_drewN | apply Kd.R_drew)); exact HO160.out) hg hat); have n1_ := Aside0.mk (hb); have n2_ := Aside0.mk ((show Kd.C (Kd.int .u8) w20 Ao19 y161.length y161 from by rw [Ny161.out]; exact Kd.C_take (m := ((ji12) : Int).toNat) ((Kd.R_reads' (Kd.R_after (ok := (fun _ => True)) (by (with_reducible repeat (first | apply Kd.R_alloc | apply Kd.R_drewN | apply Kd.R_drew)); exact HO160.out) hg hat)).2.2) KL18.out)); have n3_ := Aside0.mk (ho); clear HO160; clear HB; clear HR164; clear HO_3; have HO160 := n0_; have HB := n1_; have HR164 := n2_; have HO167 := n3_; clear n0_ n1_ n2_ n3_; clear ho hb hg hat))
       go_roundg k2
       case measure => have := HK1.out; have := HK2.out; omega
       case rel => exact ⟨(y165), (wrap64 (x4_1 + 3)), (by first | rfl | (simp; done) | (simp [*]; done) | (refine congrArg Value.bool ?_; rw [Bool.eq_iff_iff]; simp; done)), H', ⟨by have := HK1.out; have := HK2.out; omega⟩, ⟨by (with_reducible repeat (first | apply Kd.R_alloc | apply Kd.R_drewN | apply Kd.R_drew)); exact Kd.R_mono HO167.out (fun _ hk => trivial)⟩, ⟨by repeat (first | (with_reducible first | exact HB.out | apply below_alloc | apply pw_below_drewN | apply below_drew1) | exact HB.out)⟩⟩
   ·rw [if_neg c2] at H
    have c2b0 : decide (x4_1 < (a0.size : Int)) = false := decide_eq_false c2
    clear c2
    obtain rfl := Option.some.inj H
    have hcv21 := own_string (P := Tryd.prog) Tryd.underlying39 Tryd.underlying5 Tryd.underlying9 (Kd.own_of_R HO_3.out)
    go_wp2
    go_ret
    first | (exact ⟨by first | rfl | (simp [errW_none, errW_some] <;> rfl) | (simp [*, errW_none, errW_some] <;> rfl), by repeat (first | (with_reducible first | exact HB.out | apply below_alloc | apply pw_below_drewN | apply below_drew1) | exact HB.out)⟩) | (focus (exfalso; simp_all; done))
    all_goals (first | (exfalso; simp_all <;> omega) | (go_ret; exact ⟨by first | rfl | (simp [errW_none, errW_some] <;> rfl) | (simp [*, errW_none, errW_some] <;> rfl), by repeat (first | (with_reducible first | exact HB.out | apply below_alloc | apply pw_below_drewN | apply below_drew1) | exact HB.out)⟩))

/-! ### exequaturlaw24_text: function 12 -/
mutual
def exequaturlaw24_text.l0 : Nat → List (S36) → ByteArray → Int → Option (ByteArray)
  | 0, _, _, _ => none
  | k + 1, x0, x3, x4 => if x4 < (x0.length : Int) then (if 0 ≤ x4 then ((exequaturref01_Dec.f ((rd_T36 x0 x4).f0)).bind fun t170 => (if x3.size + t170.size ≤ 9223372036854775807 then (if (x3 ++ t170).size + 1 ≤ 9223372036854775807 then ((exequaturref01_Dec.f ((rd_T36 x0 x4).f1)).bind fun t171 => (if ((x3 ++ t170) ++ (⟨#[32]⟩ : ByteArray)).size + t171.size ≤ 9223372036854775807 then ((some (([(rd_T36 x0 x4).f2.f0, (rd_T36 x0 x4).f2.f1, (rd_T36 x0 x4).f2.f2, (rd_T36 x0 x4).f2.f3, (rd_T36 x0 x4).f2.f4, (rd_T36 x0 x4).f2.f5, (rd_T36 x0 x4).f3, (rd_T36 x0 x4).f4, (rd_T36 x0 x4).f5, (rd_T36 x0 x4).f6] : List ByteArray) : List ByteArray)).bind fun y172 => (if y172.length + ((rd_T36 x0 x4).f7).length < 8796093022208 then (exequaturlaw24_text.l1 k x0 (((x3 ++ t170) ++ (⟨#[32]⟩ : ByteArray)) ++ t171) x4 (y172 ++ ((rd_T36 x0 x4).f7)) 0) else (none))) else (none))) else (none)) else (none))) else (none)) else (some x3)
def exequaturlaw24_text.l1 : Nat → List (S36) → ByteArray → Int → List ByteArray → Int → Option (ByteArray)
  | 0, _, _, _, _, _ => none
  | k + 1, x0, x3, x4, x6, x7 => if x7 < (x6.length : Int) then (if x3.size + 2 ≤ 9223372036854775807 then (if 0 ≤ x7 then ((exequaturref01_B64.f k (rdOf ByteArray.empty x6 x7)).bind fun t179 => (if (x3 ++ (⟨#[32, 120]⟩ : ByteArray)).size + t179.size ≤ 9223372036854775807 then (exequaturlaw24_text.l1 k x0 ((x3 ++ (⟨#[32, 120]⟩ : ByteArray)) ++ t179) x4 x6 (wrap64 (x7 + 1))) else (none))) else (none)) else (none)) else (if x3.size + 1 ≤ 9223372036854775807 then (exequaturlaw24_text.l0 k x0 (x3 ++ (⟨#[10]⟩ : ByteArray)) (wrap64 (x4 + 1))) else (none))
end
def exequaturlaw24_text.f (k : Nat) (l0 : List (S36)) : Option (ByteArray) := exequaturlaw24_text.l0 k l0 (⟨#[]⟩ : ByteArray) 0
theorem exequaturlaw24_text.mono_l : ∀ k, (∀ y0 y1 y2, LeO (exequaturlaw24_text.l0 k y0 y1 y2) (exequaturlaw24_text.l0 (k + 1) y0 y1 y2)) ∧ (∀ y0 y1 y2 y3 y4, LeO (exequaturlaw24_text.l1 k y0 y1 y2 y3 y4) (exequaturlaw24_text.l1 (k + 1) y0 y1 y2 y3 y4))
  | 0 => ⟨fun _ _ _ r h => by simp [exequaturlaw24_text.l0] at h, fun _ _ _ _ _ r h => by simp [exequaturlaw24_text.l1] at h⟩
  | k + 1 => by
    obtain ⟨ih0, ih1⟩ := exequaturlaw24_text.mono_l k
    refine ⟨?_, ?_⟩
    · intro y0 y1 y2
      unfold exequaturlaw24_text.l0
      repeat' first
      | (with_reducible exact ih0 _ _ _)
      | (with_reducible exact ih1 _ _ _ _ _)
      | (with_reducible exact exequaturref01_B64.mono _ _)
      | (with_reducible exact LeO.refl _)
      | (with_reducible exact LeO.none _)
      | (with_reducible refine LeO.ite ?_ ?_)
      | (with_reducible refine LeO.bind ?_ (fun _ => ?_))
      | exact ih0 _ _ _
      | exact ih1 _ _ _ _ _
      | exact exequaturref01_B64.mono _ _
      | exact LeO.none _
      | refine LeO.ite ?_ ?_
      | refine LeO.bind ?_ (fun _ => ?_)
    · intro y0 y1 y2 y3 y4
      unfold exequaturlaw24_text.l1
      repeat' first
      | (with_reducible exact ih0 _ _ _)
      | (with_reducible exact ih1 _ _ _ _ _)
      | (with_reducible exact exequaturref01_B64.mono _ _)
      | (with_reducible exact LeO.refl _)
      | (with_reducible exact LeO.none _)
      | (with_reducible refine LeO.ite ?_ ?_)
      | (with_reducible refine LeO.bind ?_ (fun _ => ?_))
      | exact ih0 _ _ _
      | exact ih1 _ _ _ _ _
      | exact exequaturref01_B64.mono _ _
      | exact LeO.none _
      | refine LeO.ite ?_ ?_
      | refine LeO.bind ?_ (fun _ => ?_)
theorem exequaturlaw24_text.mono : ∀ a0 k, LeO (exequaturlaw24_text.f k a0) (exequaturlaw24_text.f (k + 1) a0) := by
  intro a0 k
  obtain ⟨ih0, ih1⟩ := exequaturlaw24_text.mono_l k
  unfold exequaturlaw24_text.f
  repeat' first
      | (with_reducible exact ih0 _ _ _)
      | (with_reducible exact ih1 _ _ _ _ _)
      | (with_reducible exact exequaturref01_B64.mono _ _)
      | (with_reducible exact LeO.refl _)
      | (with_reducible exact LeO.none _)
      | (with_reducible refine LeO.ite ?_ ?_)
      | (with_reducible refine LeO.bind ?_ (fun _ => ?_))
      | exact ih0 _ _ _
      | exact ih1 _ _ _ _ _
      | exact exequaturref01_B64.mono _ _
      | exact LeO.none _
      | refine LeO.ite ?_ ?_
      | refine LeO.bind ?_ (fun _ => ?_)
def exequaturlaw24_text.T6 : Bool × List (List Nat × List Nat) := (true, [([], []), ([], []), ([1], [1]), ([2], [2]), ([0, 3], [0, 3]), ([4], [4]), ([], []), ([6], [6]), ([7, 3], [7]), ([5, 8], [5, 8]), ([9, 8, 0, 1, 2, 3, 4, 5, 6, 7, 8, 9], [0, 9])])
def exequaturlaw24_text.B6 : List Nat := [0, 0, 2, 6, 15, 31, 0, 64, 206, 511, 1023]
theorem exequaturlaw24_text.tab6 : rtab .any (opsOf Tryd.f12 6) = exequaturlaw24_text.T6 := by kernel_rfl
theorem exequaturlaw24_text.bits6 : waitsOk exequaturlaw24_text.T6.2 exequaturlaw24_text.B6 = true := by kernel_rfl
set_option maxHeartbeats 8000000 in
set_option maxRecDepth 100000 in
theorem exequaturlaw24_text.calls (k : Nat) (A0 : Option Addr) (c0 : Nat) (l0 : List (S36)) (r : ByteArray) (w : World) (hr0 : Kd.C k36 w A0 l0.length l0) (hc0 : l0.length ≤ c0) (h : exequaturlaw24_text.f k l0 = some r) :
  Calls Tryd.prog 12 #[.slice A0 l0.length c0] w fun e w' => e = .returned (.string r) ∧ Below w.heap.size w w' := by
 have hu36 := Tryd.underlying36
 have HR0 := Aside0.mk hr0
 have HC0 := Aside0.mk hc0
 clear hr0 hc0
 have HB := Aside0.mk (Below.refl w.heap.size w)
 have H : (exequaturlaw24_text.l0 k l0 (⟨#[]⟩ : ByteArray) 0) = some r := h
 clear h
 have H' := Aside0.mk H
 clear H
 go_enter Tryd.func12, Tryd.ntmps12
 go_wp2
 go_loopg [3, 4] k (fun kq v3 v4 w' => ∃ (x3_1 : ByteArray) (x4_1 : Int), v3 = .string x3_1 ∧ v4 = .int .i64 x4_1 ∧ Aside0 (exequaturlaw24_text.l0 kq l0 x3_1 x4_1 = some r) ∧ Aside0 (kq ≤ k) ∧ Aside0 (Below w.heap.size w w'))
 case atStart => exact ⟨((⟨#[]⟩ : ByteArray)), (0), (by first | rfl | (simp; done) | (simp [*]; done) | (refine congrArg Value.bool ?_; rw [Bool.eq_iff_iff]; simp; done)), (by first | rfl | (simp; done) | (simp [*]; done) | (refine congrArg Value.bool ?_; rw [Bool.eq_iff_iff]; simp; done)), H', ⟨Nat.le_refl _⟩, ⟨by repeat (first | (with_reducible first | exact HB.out | apply below_alloc | apply pw_below_drewN | apply below_drew1) | exact HB.out)⟩⟩
 case round =>
  clear H'
  try clear c1
  obtain ⟨x3_1, x4_1, rfl, rfl, HA, HK1, HB⟩ := hrel
  cases gk with
  | zero => exact absurd HA.out (by simp [exequaturlaw24_text.l0])
  | succ k1 =>
   have H := HA.out
   clear HA
   simp only [exequaturlaw24_text.l0] at H
   by_cases c2 : x4_1 < (l0.length : Int)
   ·rw [if_pos c2] at H
    have c2b0 : decide (x4_1 < (l0.length : Int)) = true := decide_eq_true c2
    clear c2
    by_cases c3 : 0 ≤ x4_1
    rotate_left
    ·rw [if_neg c3] at H; exact absurd H (by simp)
    rw [if_pos c3] at H
    have c3b0 : decide (0 ≤ x4_1) = true := decide_eq_true c3
    clear c3
    replace H := Option.bind_eq_some_iff.mp H
    obtain ⟨t170, A40, H⟩ := H
    replace H : (if x3_1.size + t170.size ≤ 9223372036854775807 then (if (x3_1 ++ t170).size + 1 ≤ 9223372036854775807 then ((exequaturref01_Dec.f ((rd_T36 l0 x4_1).f1)).bind fun t171 => (if ((x3_1 ++ t170) ++ (⟨#[32]⟩ : ByteArray)).size + t171.size ≤ 9223372036854775807 then ((some (([(rd_T36 l0 x4_1).f2.f0, (rd_T36 l0 x4_1).f2.f1, (rd_T36 l0 x4_1).f2.f2, (rd_T36 l0 x4_1).f2.f3, (rd_T36 l0 x4_1).f2.f4, (rd_T36 l0 x4_1).f2.f5, (rd_T36 l0 x4_1).f3, (rd_T36 l0 x4_1).f4, (rd_T36 l0 x4_1).f5, (rd_T36 l0 x4_1).f6] : List ByteArray) : List ByteArray)).bind fun y172 => (if y172.length + ((rd_T36 l0 x4_1).f7).length < 8796093022208 then (exequaturlaw24_text.l1 k1 l0 (((x3_1 ++ t170) ++ (⟨#[32]⟩ : ByteArray)) ++ t171) x4_1 (y172 ++ ((rd_T36 l0 x4_1).f7)) 0) else (none))) else (none))) else (none)) else (none)) = some r := H
    have A4 := Aside0.mk A40
    clear A40
    by_cases c5 : x3_1.size + t170.size ≤ 9223372036854775807
    rotate_left
    ·rw [if_neg c5] at H; exact absurd H (by simp)
    rw [if_pos c5] at H
    have c5b0 := eq_true c5
    have c5b1 : decide (x3_1.size + t170.size ≤ 9223372036854775807) = true := decide_eq_true c5
    try have c5b2 : (9223372036854775807 < x3_1.size + t170.size) = False := eq_false (Nat.not_lt.2 c5)
    try have c5b3 : (9223372036854775807 < x3_1.size + t170.size) = False := eq_false (Nat.not_lt.2 (by have h_ := c5; simp only [ByteArray.size_append] at h_; exact h_))
    by_cases c6 : (x3_1 ++ t170).size + 1 ≤ 9223372036854775807
    rotate_left
    ·rw [if_neg c6] at H; exact absurd H (by simp)
    rw [if_pos c6] at H
    have c6b0 := eq_true c6
    have c6b1 : decide ((x3_1 ++ t170).size + 1 ≤ 9223372036854775807) = true := decide_eq_true c6
    try have c6b2 : (9223372036854775807 < (x3_1 ++ t170).size + 1) = False := eq_false (Nat.not_lt.2 c6)
    try have c6b3 : (9223372036854775807 < x3_1.size + t170.size + 1) = False := eq_false (Nat.not_lt.2 (by have h_ := c6; simp only [ByteArray.size_append] at h_; exact h_))
    replace H := Option.bind_eq_some_iff.mp H
    obtain ⟨t171, A70, H⟩ := H
    replace H : (if ((x3_1 ++ t170) ++ (⟨#[32]⟩ : ByteArray)).size + t171.size ≤ 9223372036854775807 then ((some (([(rd_T36 l0 x4_1).f2.f0, (rd_T36 l0 x4_1).f2.f1, (rd_T36 l0 x4_1).f2.f2, (rd_T36 l0 x4_1).f2.f3, (rd_T36 l0 x4_1).f2.f4, (rd_T36 l0 x4_1).f2.f5, (rd_T36 l0 x4_1).f3, (rd_T36 l0 x4_1).f4, (rd_T36 l0 x4_1).f5, (rd_T36 l0 x4_1).f6] : List ByteArray) : List ByteArray)).bind fun y172 => (if y172.length + ((rd_T36 l0 x4_1).f7).length < 8796093022208 then (exequaturlaw24_text.l1 k1 l0 (((x3_1 ++ t170) ++ (⟨#[32]⟩ : ByteArray)) ++ t171) x4_1 (y172 ++ ((rd_T36 l0 x4_1).f7)) 0) else (none))) else (none)) = some r := H
    have A7 := Aside0.mk A70
    clear A70
    by_cases c8 : ((x3_1 ++ t170) ++ (⟨#[32]⟩ : ByteArray)).size + t171.size ≤ 9223372036854775807
    rotate_left
    ·rw [if_neg c8] at H; exact absurd H (by simp)
    rw [if_pos c8] at H
    have c8b0 := eq_true c8
    have c8b1 : decide (((x3_1 ++ t170) ++ (⟨#[32]⟩ : ByteArray)).size + t171.size ≤ 9223372036854775807) = true := decide_eq_true c8
    try have c8b2 : (9223372036854775807 < ((x3_1 ++ t170) ++ (⟨#[32]⟩ : ByteArray)).size + t171.size) = False := eq_false (Nat.not_lt.2 c8)
    try have c8b3 : (9223372036854775807 < x3_1.size + t170.size + 1 + t171.size) = False := eq_false (Nat.not_lt.2 (by have h_ := c8; simp only [ByteArray.size_append] at h_; exact h_))
    obtain ⟨y172, hy172⟩ : ∃ y_ : List ByteArray, y_ = (([(rd_T36 l0 x4_1).f2.f0, (rd_T36 l0 x4_1).f2.f1, (rd_T36 l0 x4_1).f2.f2, (rd_T36 l0 x4_1).f2.f3, (rd_T36 l0 x4_1).f2.f4, (rd_T36 l0 x4_1).f2.f5, (rd_T36 l0 x4_1).f3, (rd_T36 l0 x4_1).f4, (rd_T36 l0 x4_1).f5, (rd_T36 l0 x4_1).f6] : List ByteArray)) := ⟨_, rfl⟩
    replace H : (if y172.length + ((rd_T36 l0 x4_1).f7).length < 8796093022208 then (exequaturlaw24_text.l1 k1 l0 (((x3_1 ++ t170) ++ (⟨#[32]⟩ : ByteArray)) ++ t171) x4_1 (y172 ++ ((rd_T36 l0 x4_1).f7)) 0) else (none)) = some r := by first | (rw [hy172]; with_reducible exact H) | (have H2_ := (Option.bind_some _ _).symm.trans H; rw [hy172]; with_reducible exact H2_) | (have H2_ := (Option.bind_some _ _).symm.trans H; with_reducible exact H2_) | with_reducible exact H | (rw [hy172]; exact H) | exact H
    have Ny172 := Aside0.mk hy172
    clear hy172
    by_cases c9 : y172.length + ((rd_T36 l0 x4_1).f7).length < 8796093022208
    rotate_left
    ·rw [if_neg c9] at H; exact absurd H (by simp)
    rw [if_pos c9] at H
    have LMc9 := Aside0.mk c9
    clear c9
    obtain ⟨y175, hy175⟩ : ∃ y_ : List ByteArray, y_ = (y172 ++ ((rd_T36 l0 x4_1).f7)) := ⟨_, rfl⟩
    replace H : (exequaturlaw24_text.l1 k1 l0 (((x3_1 ++ t170) ++ (⟨#[32]⟩ : ByteArray)) ++ t171) x4_1 y175 0) = some r := by first | (rw [hy175]; with_reducible exact H) | (have H2_ := (Option.bind_some _ _).symm.trans H; rw [hy175]; with_reducible exact H2_) | (have H2_ := (Option.bind_some _ _).symm.trans H; with_reducible exact H2_) | with_reducible exact H | (rw [hy175]; exact H) | exact H
    have Ny175 := Aside0.mk hy175
    clear hy175
    have H' := Aside0.mk H
    clear H
    have p168 : 0 ≤ (x4_1 : Int) := of_decide_eq_true (by first | (with_reducible assumption) | assumption)
    have q168 : x4_1 < (l0.length : Int) := of_decide_eq_true (by first | (with_reducible assumption) | assumption)
    obtain ⟨ad168, A168_12, c168_12, e168, hx168_0, hx168_1, hx168_2, hx168_3, hx168_4, hx168_5, hx168_6, hx168_7, hx168_8, hx168_9, hx168_10, hx168_11, hx168_12, hl168_12, hi168_12⟩ := at_T36 HR0.out x4_1 p168 q168
    cases e168
    replace hx168_0 := (HB.out.cell (World.block_lt_of_cell? w _ hx168_0)).trans hx168_0
    replace hx168_1 := (HB.out.cell (World.block_lt_of_cell? w _ hx168_1)).trans hx168_1
    replace hx168_2 := (HB.out.cell (World.block_lt_of_cell? w _ hx168_2)).trans hx168_2
    replace hx168_3 := (HB.out.cell (World.block_lt_of_cell? w _ hx168_3)).trans hx168_3
    replace hx168_4 := (HB.out.cell (World.block_lt_of_cell? w _ hx168_4)).trans hx168_4
    replace hx168_5 := (HB.out.cell (World.block_lt_of_cell? w _ hx168_5)).trans hx168_5
    replace hx168_6 := (HB.out.cell (World.block_lt_of_cell? w _ hx168_6)).trans hx168_6
    replace hx168_7 := (HB.out.cell (World.block_lt_of_cell? w _ hx168_7)).trans hx168_7
    replace hx168_8 := (HB.out.cell (World.block_lt_of_cell? w _ hx168_8)).trans hx168_8
    replace hx168_9 := (HB.out.cell (World.block_lt_of_cell? w _ hx168_9)).trans hx168_9
    replace hx168_10 := (HB.out.cell (World.block_lt_of_cell? w _ hx168_10)).trans hx168_10
    replace hx168_11 := (HB.out.cell (World.block_lt_of_cell? w _ hx168_11)).trans hx168_11
    replace hx168_12 := (HB.out.cell (World.block_lt_of_cell? w _ hx168_12)).trans hx168_12
    have HR168_12 := Aside0.mk hi168_12
    have HC168_12 := Aside0.mk hl168_12
    clear hi168_12 hl168_12
    replace p168 := eq_true p168
    replace q168 := eq_true q168
    try go_wp2_with (first | ((with_reducible refine gate_dst (N := 5) rfl ?_); refine box_event ?hg (N := 5) ?hd (cs := #[.int .i64 0, .int .i64 0, .string (⟨#[]⟩ : ByteArray), .string (⟨#[]⟩ : ByteArray), .string (⟨#[]⟩ : ByteArray), .string (⟨#[]⟩ : ByteArray), .string (⟨#[]⟩ : ByteArray), .string (⟨#[]⟩ : ByteArray), .string (⟨#[]⟩ : ByteArray), .string (⟨#[]⟩ : ByteArray), .string (⟨#[]⟩ : ByteArray), .string (⟨#[]⟩ : ByteArray), .slice none 0 0]) (t := 36) ?hr ?_; (case hd => rfl); (case hg => rfl); (case hr => first | (go_simp; done) | (go_simp; rfl)); intro gb169 hg w10 hbox hb; have n0_ := Aside0.mk (below_step (by repeat (first | (with_reducible first | exact HB.out | apply below_alloc | apply pw_below_drewN | apply below_drew1) | exact HB.out)) hb); have n1_ := Aside0.mk (hbox); have n2_ := Aside0.mk ((by rw [hg]; exact (below_size (by repeat (first | (with_reducible first | exact HB.out | apply below_alloc | apply pw_below_drewN | apply below_drew1) | exact HB.out))) : w.heap.size ≤ gb169)); have n3_ := Aside0.mk ((by rw [hg]; exact (below_size (by repeat (first | (with_reducible first | exact HB.out | apply below_alloc | apply pw_below_drewN | apply below_drew1) | exact HB.out))) : w.heap.size ≤ gb169)); clear HB; have HB := n0_; have BK169 := n1_; have GW169 := n2_; have GE169 := n3_; clear n0_ n1_ n2_ n3_; clear hb hbox hg; obtain ⟨hcz11_0, hcz11_1, hcz11_2, hcz11_3, hcz11_4, hcz11_5, hcz11_6, hcz11_7, hcz11_8, hcz11_9, hcz11_10, hcz11_11, hcz11_12⟩ := cells13 BK169.out; obtain ⟨hfz11_0, hfz11_1, hfz11_2, hfz11_3, hfz11_4, hfz11_5, hfz11_6, hfz11_7, hfz11_8, hfz11_9, hfz11_10, hfz11_11, hfz11_12⟩ := froz13 BK169.out))
    have n0_ : Aside0 ((((((((((((((w10.setCell ⟨gb169, 0, none⟩ (.int .i64 ((rd_T36 l0 x4_1).f0))).setCell ⟨gb169, 1, none⟩ (.int .i64 ((rd_T36 l0 x4_1).f1))).setCell ⟨gb169, 2, none⟩ (.string ((rd_T36 l0 x4_1).f2.f0))).setCell ⟨gb169, 3, none⟩ (.string ((rd_T36 l0 x4_1).f2.f1))).setCell ⟨gb169, 4, none⟩ (.string ((rd_T36 l0 x4_1).f2.f2))).setCell ⟨gb169, 5, none⟩ (.string ((rd_T36 l0 x4_1).f2.f3))).setCell ⟨gb169, 6, none⟩ (.string ((rd_T36 l0 x4_1).f2.f4))).setCell ⟨gb169, 7, none⟩ (.string ((rd_T36 l0 x4_1).f2.f5))).setCell ⟨gb169, 8, none⟩ (.string ((rd_T36 l0 x4_1).f3))).setCell ⟨gb169, 9, none⟩ (.string ((rd_T36 l0 x4_1).f4))).setCell ⟨gb169, 10, none⟩ (.string ((rd_T36 l0 x4_1).f5))).setCell ⟨gb169, 11, none⟩ (.string ((rd_T36 l0 x4_1).f6))).setCell ⟨gb169, 12, none⟩ (.slice A168_12 ((rd_T36 l0 x4_1).f7).length c168_12)).heap[gb169]? = some (.cells #[.int .i64 ((rd_T36 l0 x4_1).f0), .int .i64 ((rd_T36 l0 x4_1).f1), .string ((rd_T36 l0 x4_1).f2.f0), .string ((rd_T36 l0 x4_1).f2.f1), .string ((rd_T36 l0 x4_1).f2.f2), .string ((rd_T36 l0 x4_1).f2.f3), .string ((rd_T36 l0 x4_1).f2.f4), .string ((rd_T36 l0 x4_1).f2.f5), .string ((rd_T36 l0 x4_1).f3), .string ((rd_T36 l0 x4_1).f4), .string ((rd_T36 l0 x4_1).f5), .string ((rd_T36 l0 x4_1).f6), .slice A168_12 ((rd_T36 l0 x4_1).f7).length c168_12] 36 (0, 0))) := ⟨by (with_reducible repeat (first | refine blk_drewN ?_ _ | refine blk_drew ?_ | refine blk_alloc ?_ _)); refine fillR (cs := ?cs_) rfl rfl ?h_ ?l_; (case h_ => (with_reducible repeat (first | refine blk_drewN ?_ _ | refine blk_drew ?_ | refine blk_alloc ?_ _)); exact BK169.out); (case l_ => rfl)⟩
    have n1_ : Aside0 (Below w.heap.size w (((((((((((((w10.setCell ⟨gb169, 0, none⟩ (.int .i64 ((rd_T36 l0 x4_1).f0))).setCell ⟨gb169, 1, none⟩ (.int .i64 ((rd_T36 l0 x4_1).f1))).setCell ⟨gb169, 2, none⟩ (.string ((rd_T36 l0 x4_1).f2.f0))).setCell ⟨gb169, 3, none⟩ (.string ((rd_T36 l0 x4_1).f2.f1))).setCell ⟨gb169, 4, none⟩ (.string ((rd_T36 l0 x4_1).f2.f2))).setCell ⟨gb169, 5, none⟩ (.string ((rd_T36 l0 x4_1).f2.f3))).setCell ⟨gb169, 6, none⟩ (.string ((rd_T36 l0 x4_1).f2.f4))).setCell ⟨gb169, 7, none⟩ (.string ((rd_T36 l0 x4_1).f2.f5))).setCell ⟨gb169, 8, none⟩ (.string ((rd_T36 l0 x4_1).f3))).setCell ⟨gb169, 9, none⟩ (.string ((rd_T36 l0 x4_1).f4))).setCell ⟨gb169, 10, none⟩ (.string ((rd_T36 l0 x4_1).f5))).setCell ⟨gb169, 11, none⟩ (.string ((rd_T36 l0 x4_1).f6))).setCell ⟨gb169, 12, none⟩ (.slice A168_12 ((rd_T36 l0 x4_1).f7).length c168_12))) := ⟨by repeat (first | (with_reducible first | exact HB.out | apply below_alloc | apply pw_below_drewN | apply below_drew1 | refine below_set ?_ GE169.out) | exact HB.out)⟩
    (try clear BK169); (try clear HB)
    generalize (((((((((((((w10.setCell ⟨gb169, 0, none⟩ (.int .i64 ((rd_T36 l0 x4_1).f0))).setCell ⟨gb169, 1, none⟩ (.int .i64 ((rd_T36 l0 x4_1).f1))).setCell ⟨gb169, 2, none⟩ (.string ((rd_T36 l0 x4_1).f2.f0))).setCell ⟨gb169, 3, none⟩ (.string ((rd_T36 l0 x4_1).f2.f1))).setCell ⟨gb169, 4, none⟩ (.string ((rd_T36 l0 x4_1).f2.f2))).setCell ⟨gb169, 5, none⟩ (.string ((rd_T36 l0 x4_1).f2.f3))).setCell ⟨gb169, 6, none⟩ (.string ((rd_T36 l0 x4_1).f2.f4))).setCell ⟨gb169, 7, none⟩ (.string ((rd_T36 l0 x4_1).f2.f5))).setCell ⟨gb169, 8, none⟩ (.string ((rd_T36 l0 x4_1).f3))).setCell ⟨gb169, 9, none⟩ (.string ((rd_T36 l0 x4_1).f4))).setCell ⟨gb169, 10, none⟩ (.string ((rd_T36 l0 x4_1).f5))).setCell ⟨gb169, 11, none⟩ (.string ((rd_T36 l0 x4_1).f6))).setCell ⟨gb169, 12, none⟩ (.slice A168_12 ((rd_T36 l0 x4_1).f7).length c168_12)) = w12 at n0_ n1_ ⊢
    have BK169 := n0_
    have HB := n1_
    clear n0_ n1_
    have n0_ := Aside0.mk (blk_drew BK169.out)
    have n1_ := Aside0.mk (below_drew1 HB.out)
    clear BK169; clear HB
    have BK169 := n0_
    have HB := n1_
    clear n0_ n1_
    refine start_ (n := 11) (S := fun w' => w'.cell? ⟨gb169, 0, none⟩ = some (.int .i64 ((rd_T36 l0 x4_1).f0)) ∧ w'.cell? ⟨gb169, 1, none⟩ = some (.int .i64 ((rd_T36 l0 x4_1).f1)) ∧ w'.cell? ⟨gb169, 2, none⟩ = some (.string ((rd_T36 l0 x4_1).f2.f0)) ∧ w'.cell? ⟨gb169, 3, none⟩ = some (.string ((rd_T36 l0 x4_1).f2.f1)) ∧ w'.cell? ⟨gb169, 4, none⟩ = some (.string ((rd_T36 l0 x4_1).f2.f2)) ∧ w'.cell? ⟨gb169, 5, none⟩ = some (.string ((rd_T36 l0 x4_1).f2.f3)) ∧ w'.cell? ⟨gb169, 6, none⟩ = some (.string ((rd_T36 l0 x4_1).f2.f4)) ∧ w'.cell? ⟨gb169, 7, none⟩ = some (.string ((rd_T36 l0 x4_1).f2.f5)) ∧ w'.cell? ⟨gb169, 8, none⟩ = some (.string ((rd_T36 l0 x4_1).f3)) ∧ w'.cell? ⟨gb169, 9, none⟩ = some (.string ((rd_T36 l0 x4_1).f4)) ∧ w'.cell? ⟨gb169, 10, none⟩ = some (.string ((rd_T36 l0 x4_1).f5)) ∧ w'.cell? ⟨gb169, 11, none⟩ = some (.string ((rd_T36 l0 x4_1).f6)) ∧ w'.cell? ⟨gb169, 12, none⟩ = some (.slice A168_12 ((rd_T36 l0 x4_1).f7).length c168_12)) (ds := []) #[false, false, false, false, false, false, false, false, false, false, false] (by kernel_rfl) rfl rfl ⟨(blk_cell BK169.out 0).trans rfl, (blk_cell BK169.out 1).trans rfl, (blk_cell BK169.out 2).trans rfl, (blk_cell BK169.out 3).trans rfl, (blk_cell BK169.out 4).trans rfl, (blk_cell BK169.out 5).trans rfl, (blk_cell BK169.out 6).trans rfl, (blk_cell BK169.out 7).trans rfl, (blk_cell BK169.out 8).trans rfl, (blk_cell BK169.out 9).trans rfl, (blk_cell BK169.out 10).trans rfl, (blk_cell BK169.out 11).trans rfl, (blk_cell BK169.out 12).trans rfl⟩ (fun hHeld => ?_); refine with_tabW exequaturlaw24_text.tab6 exequaturlaw24_text.bits6 (fun HT_ HW_ => ?_)
    generalize w12.drew = w13 at BK169 HB hHeld ⊢
    refine pure_ (i := 0) (N := some 18) (v := ?_) (a' := ?_) #[true, false, false, false, false, false, false, false, false, false, false] rfl rfl (any_of HT_.out (by kernel_rfl)) (fun _ _ _ h => h) (Or.inl ⟨by rfl, ?_⟩) ?_ ?_
    rotate_left
    ·intro w'
     go_simp
     with_reducible rfl
    rotate_left
    ·simp only [Act.put, List.setIfInBounds_toArray, List.set_cons_zero, List.set_cons_succ, i64_w, i32_w]
     rfl
    refine pure_ (i := 1) (N := some 19) (v := ?_) (a' := ?_) #[true, true, false, false, false, false, false, false, false, false, false] rfl rfl (any_of HT_.out (by kernel_rfl)) (fun _ _ _ h => h) (Or.inl ⟨by rfl, ?_⟩) ?_ ?_
    rotate_left
    ·intro w'
     go_simp
     with_reducible rfl
    rotate_left
    ·simp only [Act.put, List.setIfInBounds_toArray, List.set_cons_zero, List.set_cons_succ, i64_w, i32_w]
     rfl
    refine pure_ (i := 6) (N := some 24) (v := ?_) (a' := ?_) #[true, true, false, false, false, false, true, false, false, false, false] rfl rfl (any_of HT_.out (by kernel_rfl)) (fun _ _ _ h => h) (Or.inl ⟨by rfl, ?_⟩) ?_ ?_
    rotate_left
    ·intro w'
     go_simp
     with_reducible rfl
    rotate_left
    ·simp only [Act.put, List.setIfInBounds_toArray, List.set_cons_zero, List.set_cons_succ, i64_w, i32_w]
     rfl
    refine take_ (i := 2) (N := some 20) (v := ?_) (a' := ?_) #[true, true, true, false, false, false, true, false, false, false, false] rfl rfl (take_ofW HT_.out HW_.out (by kernel_rfl)) (fun _ _ _ h => h) (Or.inl ⟨by rfl, ?_⟩) hHeld ?_ ?_
    rotate_left
    ·rintro w' ⟨s0, s1, s2, s3, s4, s5, s6, s7, s8, s9, s10, s11, s12⟩
     go_simp
     with_reducible rfl
    rotate_left
    ·simp only [Act.put, List.setIfInBounds_toArray, List.set_cons_zero, List.set_cons_succ, i64_w, i32_w]
     rfl
    refine take_ (i := 7) (N := some 25) (v := ?_) (a' := ?_) #[true, true, true, false, false, false, true, true, false, false, false] rfl rfl (take_ofW HT_.out HW_.out (by kernel_rfl)) (fun _ _ _ h => h) (Or.inl ⟨by rfl, ?_⟩) hHeld ?_ ?_
    rotate_left
    ·rintro w' ⟨s0, s1, s2, s3, s4, s5, s6, s7, s8, s9, s10, s11, s12⟩
     go_simp
     with_reducible rfl
    rotate_left
    ·simp only [Act.put, List.setIfInBounds_toArray, List.set_cons_zero, List.set_cons_succ, i64_w, i32_w]
     rfl
    refine one_ (i := 3) (N := some 21) #[true, true, true, true, false, false, true, true, false, false, false] rfl rfl (one_of HT_.out (by kernel_rfl)) (by decide) (fun K hK => ?_)
    refine goes_ Tryd.func19 (by kernel_rfl) rfl #[.int .i64 ((rd_T36 l0 x4_1).f0)] (by rfl) rfl rfl (by (try simp only [List.map_toArray, List.map_cons, List.map_nil]); first | done | rfl | (simp only [List.length_drop, List.length_take]; rfl)) ?_
    with_reducible refine (exequaturref01_Dec.calls ((rd_T36 l0 x4_1).f0) t170 _ A4.out).mono ?_
    rintro e w14 ⟨rfl, hb⟩
    refine ⟨_, rfl, ?_⟩
    have n0_ := Aside0.mk (blk_belowB BK169.out (by (with_reducible repeat (first | refine blk_drewN ?_ _ | refine blk_drew ?_ | refine blk_alloc ?_ _)); exact BK169.out) hb)
    have n1_ := Aside0.mk (below_step (by repeat (first | (with_reducible first | exact HB.out | apply below_alloc | apply pw_below_drewN | apply below_drew1 | refine below_set ?_ GE169.out) | exact HB.out)) hb)
    clear BK169; clear HB
    have BK169 := n0_
    have HB := n1_
    clear n0_ n1_; (try clear hb); (try clear hb2); (try clear hk); (try clear hi)
    refine hK.out _ _ ⟨(blk_cell BK169.out 0).trans rfl, (blk_cell BK169.out 1).trans rfl, (blk_cell BK169.out 2).trans rfl, (blk_cell BK169.out 3).trans rfl, (blk_cell BK169.out 4).trans rfl, (blk_cell BK169.out 5).trans rfl, (blk_cell BK169.out 6).trans rfl, (blk_cell BK169.out 7).trans rfl, (blk_cell BK169.out 8).trans rfl, (blk_cell BK169.out 9).trans rfl, (blk_cell BK169.out 10).trans rfl, (blk_cell BK169.out 11).trans rfl, (blk_cell BK169.out 12).trans rfl⟩ (fun hHeld => ?_)
    clear hK K
    refine norm_ (a' := ?_) ?_ ?_
    rotate_left
    ·show Act.put _ (some 21) _ = _
     simp only [Act.put, List.setIfInBounds_toArray, List.set_cons_zero, List.set_cons_succ, i64_w, i32_w]
     rfl
    refine pure_ (i := 4) (N := some 22) (v := ?_) (a' := ?_) #[true, true, true, true, true, false, true, true, false, false, false] rfl rfl (any_of HT_.out (by kernel_rfl)) (fun _ _ _ h => h) (Or.inl ⟨by rfl, ?_⟩) ?_ ?_
    rotate_left
    ·intro w'
     go_simp
     with_reducible rfl
    rotate_left
    ·simp only [Act.put, List.setIfInBounds_toArray, List.set_cons_zero, List.set_cons_succ, i64_w, i32_w]
     rfl
    refine pure_ (i := 5) (N := some 23) (v := ?_) (a' := ?_) #[true, true, true, true, true, true, true, true, false, false, false] rfl rfl (any_of HT_.out (by kernel_rfl)) (fun _ _ _ h => h) (Or.inl ⟨by rfl, ?_⟩) ?_ ?_
    rotate_left
    ·intro w'
     go_simp
     with_reducible rfl
    rotate_left
    ·simp only [Act.put, List.setIfInBounds_toArray, List.set_cons_zero, List.set_cons_succ, i64_w, i32_w]
     rfl
    refine one_ (i := 8) (N := some 26) #[true, true, true, true, true, true, true, true, true, false, false] rfl rfl (one_of HT_.out (by kernel_rfl)) (by decide) (fun K hK => ?_)
    refine goes_ Tryd.func19 (by kernel_rfl) rfl #[.int .i64 ((rd_T36 l0 x4_1).f1)] (by rfl) rfl rfl (by (try simp only [List.map_toArray, List.map_cons, List.map_nil]); first | done | rfl | (simp only [List.length_drop, List.length_take]; rfl)) ?_
    with_reducible refine (exequaturref01_Dec.calls ((rd_T36 l0 x4_1).f1) t171 _ A7.out).mono ?_
    rintro e w15 ⟨rfl, hb⟩
    refine ⟨_, rfl, ?_⟩
    have n0_ := Aside0.mk (blk_belowB BK169.out (by (with_reducible repeat (first | refine blk_drewN ?_ _ | refine blk_drew ?_ | refine blk_alloc ?_ _)); exact BK169.out) hb)
    have n1_ := Aside0.mk (below_step (by repeat (first | (with_reducible first | exact HB.out | apply below_alloc | apply pw_below_drewN | apply below_drew1 | refine below_set ?_ GE169.out) | exact HB.out)) hb)
    clear BK169; clear HB
    have BK169 := n0_
    have HB := n1_
    clear n0_ n1_; (try clear hb); (try clear hb2); (try clear hk); (try clear hi)
    refine hK.out _ _ ⟨(blk_cell BK169.out 0).trans rfl, (blk_cell BK169.out 1).trans rfl, (blk_cell BK169.out 2).trans rfl, (blk_cell BK169.out 3).trans rfl, (blk_cell BK169.out 4).trans rfl, (blk_cell BK169.out 5).trans rfl, (blk_cell BK169.out 6).trans rfl, (blk_cell BK169.out 7).trans rfl, (blk_cell BK169.out 8).trans rfl, (blk_cell BK169.out 9).trans rfl, (blk_cell BK169.out 10).trans rfl, (blk_cell BK169.out 11).trans rfl, (blk_cell BK169.out 12).trans rfl⟩ (fun hHeld => ?_)
    clear hK K
    refine norm_ (a' := ?_) ?_ ?_
    rotate_left
    ·show Act.put _ (some 26) _ = _
     simp only [Act.put, List.setIfInBounds_toArray, List.set_cons_zero, List.set_cons_succ, i64_w, i32_w]
     rfl
    refine pure_ (i := 9) (N := some 27) (v := ?_) (a' := ?_) #[true, true, true, true, true, true, true, true, true, true, false] rfl rfl (any_of HT_.out (by kernel_rfl)) (fun _ _ _ h => h) (Or.inl ⟨by rfl, ?_⟩) ?_ ?_
    rotate_left
    ·intro w'
     go_simp
     with_reducible rfl
    rotate_left
    ·simp only [Act.put, List.setIfInBounds_toArray, List.set_cons_zero, List.set_cons_succ, i64_w, i32_w]
     rfl
    refine pure_ (i := 10) (N := some 3) (v := ?_) (a' := ?_) #[true, true, true, true, true, true, true, true, true, true, true] rfl rfl (any_of HT_.out (by kernel_rfl)) (fun _ _ _ h => h) (Or.inl ⟨by rfl, ?_⟩) ?_ ?_
    rotate_left
    ·intro w'
     go_simp
     with_reducible rfl
    rotate_left
    ·simp only [Act.put, List.setIfInBounds_toArray, List.set_cons_zero, List.set_cons_succ, i64_w, i32_w]
     rfl
    refine done_ (done_of HT_.out (by kernel_rfl)) ?_
    obtain ⟨hcz16_0, hcz16_1, hcz16_2, hcz16_3, hcz16_4, hcz16_5, hcz16_6, hcz16_7, hcz16_8, hcz16_9, hcz16_10, hcz16_11, hcz16_12⟩ := cells13 BK169.out
    obtain ⟨hfz16_0, hfz16_1, hfz16_2, hfz16_3, hfz16_4, hfz16_5, hfz16_6, hfz16_7, hfz16_8, hfz16_9, hfz16_10, hfz16_11, hfz16_12⟩ := froz13 BK169.out
    try go_wp2_with (first | ((with_reducible refine gate_dst (N := 54) rfl ?_); refine Kd.R_lit Kd.string _ 9 ?hg (N := 54) ?hd (xs := ([(rd_T36 l0 x4_1).f2.f0, (rd_T36 l0 x4_1).f2.f1, (rd_T36 l0 x4_1).f2.f2, (rd_T36 l0 x4_1).f2.f3, (rd_T36 l0 x4_1).f2.f4, (rd_T36 l0 x4_1).f2.f5, (rd_T36 l0 x4_1).f3, (rd_T36 l0 x4_1).f4, (rd_T36 l0 x4_1).f5, (rd_T36 l0 x4_1).f6] : List ByteArray)) (inner := [.string ((rd_T36 l0 x4_1).f2.f0), .string ((rd_T36 l0 x4_1).f2.f1), .string ((rd_T36 l0 x4_1).f2.f2), .string ((rd_T36 l0 x4_1).f2.f3), .string ((rd_T36 l0 x4_1).f2.f4), .string ((rd_T36 l0 x4_1).f2.f5), .string ((rd_T36 l0 x4_1).f3), .string ((rd_T36 l0 x4_1).f4), .string ((rd_T36 l0 x4_1).f5), .string ((rd_T36 l0 x4_1).f6)]) (ok := fun _ => True) (okp := fun _ => True) ?hr ?hp (fun _ hk => hk) trivial (Below.refl _ _) (Nat.le_refl _) (by simp) ?_; (case hd => rfl); (case hg => rfl); (case hr => first | (go_simp; done) | (go_simp; rfl)); (case hp => exact (Reps.one (show Kd.M Kd.string _ _ _ ((rd_T36 l0 x4_1).f2.f0) [.string ((rd_T36 l0 x4_1).f2.f0)] from rfl) (Reps.one (show Kd.M Kd.string _ _ _ ((rd_T36 l0 x4_1).f2.f1) [.string ((rd_T36 l0 x4_1).f2.f1)] from rfl) (Reps.one (show Kd.M Kd.string _ _ _ ((rd_T36 l0 x4_1).f2.f2) [.string ((rd_T36 l0 x4_1).f2.f2)] from rfl) (Reps.one (show Kd.M Kd.string _ _ _ ((rd_T36 l0 x4_1).f2.f3) [.string ((rd_T36 l0 x4_1).f2.f3)] from rfl) (Reps.one (show Kd.M Kd.string _ _ _ ((rd_T36 l0 x4_1).f2.f4) [.string ((rd_T36 l0 x4_1).f2.f4)] from rfl) (Reps.one (show Kd.M Kd.string _ _ _ ((rd_T36 l0 x4_1).f2.f5) [.string ((rd_T36 l0 x4_1).f2.f5)] from rfl) (Reps.one (show Kd.M Kd.string _ _ _ ((rd_T36 l0 x4_1).f3) [.string ((rd_T36 l0 x4_1).f3)] from rfl) (Reps.one (show Kd.M Kd.string _ _ _ ((rd_T36 l0 x4_1).f4) [.string ((rd_T36 l0 x4_1).f4)] from rfl) (Reps.one (show Kd.M Kd.string _ _ _ ((rd_T36 l0 x4_1).f5) [.string ((rd_T36 l0 x4_1).f5)] from rfl) (Reps.one (show Kd.M Kd.string _ _ _ ((rd_T36 l0 x4_1).f6) [.string ((rd_T36 l0 x4_1).f6)] from rfl) (Reps.none _ _)))))))))))); intro v173 w17 ho18 hb hg_ hnew_; clear hg_ hnew_; (first | rw [← Ny172.out] at ho18 | (simp only [Int.reduceToNat] at ho18; rw [← Ny172.out] at ho18)); have n0_ := Aside0.mk (Kd.R_lower ho18 (below_size (by repeat (first | (with_reducible first | exact HB.out | apply below_alloc | apply pw_below_drewN | apply below_drew1 | refine below_set ?_ GE169.out) | exact HB.out)))); have n1_ := Aside0.mk (blk_belowB BK169.out (by (with_reducible repeat (first | refine blk_drewN ?_ _ | refine blk_drew ?_ | refine blk_alloc ?_ _)); exact BK169.out) hb); have n2_ := Aside0.mk (below_step (by repeat (first | (with_reducible first | exact HB.out | apply below_alloc | apply pw_below_drewN | apply below_drew1 | refine below_set ?_ GE169.out) | exact HB.out)) hb); clear BK169; clear HB; have HO174 := n0_; have BK169 := n1_; have HB := n2_; clear n0_ n1_ n2_; clear hb ho18; obtain ⟨hcz19_0, hcz19_1, hcz19_2, hcz19_3, hcz19_4, hcz19_5, hcz19_6, hcz19_7, hcz19_8, hcz19_9, hcz19_10, hcz19_11, hcz19_12⟩ := cells13 BK169.out; obtain ⟨hfz19_0, hfz19_1, hfz19_2, hfz19_3, hfz19_4, hfz19_5, hfz19_6, hfz19_7, hfz19_8, hfz19_9, hfz19_10, hfz19_11, hfz19_12⟩ := froz13 BK169.out) | ((with_reducible refine gate_builtin (b := .append) (xs := #[.tmp 54, .tmp 56]) rfl ?_); at_builtin; refine Kd.R_append_rows Kd.string (w0 := w) w.heap.size rfl (.tmp 54) (.tmp 56) 31 9 (.string ⟨#[]⟩) 16 rfl Tryd.underlying31 info9 rfl (by decide) (by omega) v173 y172 ((rd_T36 l0 x4_1).f7) _ _ _ (fun _ => True) (fun _ => False) rfl rfl ?aO ?aR (fun _ _ h => h) (fun _ h => h.elim) ?aF ?aB ?aS ?aL ?_; (case aR => repeat (first | exact (Kd.C_below HR168_12.out HB.out) | (with_reducible refine Kd.C_alloc ?_ _) | (with_reducible refine Kd.C_drewN ?_ _) | (with_reducible refine Kd.C_drew ?_))); (case aB => exact (by repeat (first | (with_reducible first | exact HB.out | apply below_alloc | apply pw_below_drewN | apply below_drew1 | refine below_set ?_ GE169.out) | exact HB.out))); (case aF => exact (fun _ _ => trivial)); (case aO => exact (by (with_reducible repeat (first | apply Kd.R_alloc | apply Kd.R_drewN | apply Kd.R_drew)); exact HO174.out)); (case aS => exact (below_size (by repeat (first | (with_reducible first | exact HB.out | apply below_alloc | apply pw_below_drewN | apply below_drew1 | refine below_set ?_ GE169.out) | exact HB.out)))); (case aL => have := LMc9.out; omega); intro v176 w20 ho hb hg hat; rw [← Ny175.out] at ho; have n0_ := Aside0.mk (blk_grown (g := gb169) (o := .cells #[.int .i64 ((rd_T36 l0 x4_1).f0), .int .i64 ((rd_T36 l0 x4_1).f1), .string ((rd_T36 l0 x4_1).f2.f0), .string ((rd_T36 l0 x4_1).f2.f1), .string ((rd_T36 l0 x4_1).f2.f2), .string ((rd_T36 l0 x4_1).f2.f3), .string ((rd_T36 l0 x4_1).f2.f4), .string ((rd_T36 l0 x4_1).f2.f5), .string ((rd_T36 l0 x4_1).f3), .string ((rd_T36 l0 x4_1).f4), .string ((rd_T36 l0 x4_1).f5), .string ((rd_T36 l0 x4_1).f6), .slice A168_12 ((rd_T36 l0 x4_1).f7).length c168_12] 36 (0, 0)) (by (with_reducible repeat (first | refine blk_drewN ?_ _ | refine blk_drew ?_ | refine blk_alloc ?_ _)); exact BK169.out) hg (Kd.R_ne HO174.out BK169.out (by decide))); have n1_ := Aside0.mk (hb); have n2_ := Aside0.mk (ho); clear BK169; clear HB; clear HO174; have BK169 := n0_; have HB := n1_; have HO177 := n2_; clear n0_ n1_ n2_; clear ho hb hg hat))
    go_loopg [3, 7] k1 (fun kq v3 v7 w' => ∃ (x3_2 : ByteArray) (x7_2 : Int), v3 = .string x3_2 ∧ v7 = .int .i64 x7_2 ∧ Aside0 (exequaturlaw24_text.l1 kq l0 x3_2 x4_1 y175 x7_2 = some r) ∧ Aside0 (kq ≤ k1) ∧ Aside0 (Kd.R Kd.string 9 w' w.heap.size (fun _ => True) v176 y175) ∧ Aside0 (w'.heap[gb169]? = some (.cells #[.int .i64 ((rd_T36 l0 x4_1).f0), .int .i64 ((rd_T36 l0 x4_1).f1), .string ((rd_T36 l0 x4_1).f2.f0), .string ((rd_T36 l0 x4_1).f2.f1), .string ((rd_T36 l0 x4_1).f2.f2), .string ((rd_T36 l0 x4_1).f2.f3), .string ((rd_T36 l0 x4_1).f2.f4), .string ((rd_T36 l0 x4_1).f2.f5), .string ((rd_T36 l0 x4_1).f3), .string ((rd_T36 l0 x4_1).f4), .string ((rd_T36 l0 x4_1).f5), .string ((rd_T36 l0 x4_1).f6), (.slice A168_12 ((rd_T36 l0 x4_1).f7).length c168_12)] 36 (0, 0))) ∧ Aside0 (Below w.heap.size w w'))
    case atStart => exact ⟨(((x3_1 ++ t170) ++ (⟨#[32]⟩ : ByteArray)) ++ t171), (0), (by first | rfl | (simp; done) | (simp [*]; done) | (refine congrArg Value.bool ?_; rw [Bool.eq_iff_iff]; simp; done)), (by first | rfl | (simp; done) | (simp [*]; done) | (refine congrArg Value.bool ?_; rw [Bool.eq_iff_iff]; simp; done)), H', ⟨Nat.le_refl _⟩, ⟨by (with_reducible repeat (first | apply Kd.R_alloc | apply Kd.R_drewN | apply Kd.R_drew)); exact HO177.out⟩, ⟨by (with_reducible repeat (first | refine blk_drewN ?_ _ | refine blk_drew ?_ | refine blk_alloc ?_ _)); exact BK169.out⟩, ⟨by repeat (first | (with_reducible first | exact HB.out | apply below_alloc | apply pw_below_drewN | apply below_drew1 | refine below_set ?_ GE169.out) | exact HB.out)⟩⟩
    case round =>
     clear H'
     try clear c1; try clear p1; try clear q1; try clear hx1; try clear c2; try clear c2b0; try clear p2; try clear c3; try clear c3b0; try clear c5; try clear c5b0; try clear c5b1; try clear c5b2; try clear c6; try clear c6b0; try clear c6b1; try clear c6b2; try clear c8; try clear c8b0; try clear c8b1; try clear c8b2; try clear c9; try clear c12; try clear c16; try clear p16; try clear q16; try clear hx16; try clear c19; try clear hcz11_0; try clear hcz11_1; try clear hcz11_10; try clear hcz11_11; try clear hcz11_12; try clear hcz11_2; try clear hcz11_3; try clear hcz11_4; try clear hcz11_5; try clear hcz11_6; try clear hcz11_7; try clear hcz11_8; try clear hcz11_9; try clear hcz16_0; try clear hcz16_1; try clear hcz16_10; try clear hcz16_11; try clear hcz16_12; try clear hcz16_2; try clear hcz16_3; try clear hcz16_4; try clear hcz16_5; try clear hcz16_6; try clear hcz16_7; try clear hcz16_8; try clear hcz16_9; try clear hcz19_0; try clear hcz19_1; try clear hcz19_10; try clear hcz19_11; try clear hcz19_12; try clear hcz19_2; try clear hcz19_3; try clear hcz19_4; try clear hcz19_5; try clear hcz19_6; try clear hcz19_7; try clear hcz19_8; try clear hcz19_9; try clear hfz11_0; try clear hfz11_1; try clear hfz11_10; try clear hfz11_11; try clear hfz11_12; try clear hfz11_2; try clear hfz11_3; try clear hfz11_4; try clear hfz11_5; try clear hfz11_6; try clear hfz11_7; try clear hfz11_8; try clear hfz11_9; try clear hfz16_0; try clear hfz16_1; try clear hfz16_10; try clear hfz16_11; try clear hfz16_12; try clear hfz16_2; try clear hfz16_3; try clear hfz16_4; try clear hfz16_5; try clear hfz16_6; try clear hfz16_7; try clear hfz16_8; try clear hfz16_9; try clear hfz19_0; try clear hfz19_1; try clear hfz19_10; try clear hfz19_11; try clear hfz19_12; try clear hfz19_2; try clear hfz19_3; try clear hfz19_4; try clear hfz19_5; try clear hfz19_6; try clear hfz19_7; try clear hfz19_8; try clear hfz19_9; try clear hx168_0; try clear hx168_1; try clear hx168_10; try clear hx168_11; try clear hx168_12; try clear hx168_2; try clear hx168_3; try clear hx168_4; try clear hx168_5; try clear hx168_6; try clear hx168_7; try clear hx168_8; try clear hx168_9; try clear p168; try clear q168
     obtain ⟨x3_2, x7_2, rfl, rfl, HA, HK2, HO_6, BK169, HB⟩ := hrel
     cases gk with
     | zero => exact absurd HA.out (by simp [exequaturlaw24_text.l1])
     | succ k2 =>
      have H := HA.out
      clear HA
      simp only [exequaturlaw24_text.l1] at H
      by_cases c21 : x7_2 < (y175.length : Int)
      ·rw [if_pos c21] at H
       have c21b0 : decide (x7_2 < (y175.length : Int)) = true := decide_eq_true c21
       clear c21
       by_cases c22 : x3_2.size + 2 ≤ 9223372036854775807
       rotate_left
       ·rw [if_neg c22] at H; exact absurd H (by simp)
       rw [if_pos c22] at H
       have c22b0 := eq_true c22
       have c22b1 : decide (x3_2.size + 2 ≤ 9223372036854775807) = true := decide_eq_true c22
       try have c22b2 : (9223372036854775807 < x3_2.size + 2) = False := eq_false (Nat.not_lt.2 c22)
       try have c22b3 : (9223372036854775807 < x3_2.size + 2) = False := eq_false (Nat.not_lt.2 (by have h_ := c22; simp only [ByteArray.size_append] at h_; exact h_))
       by_cases c23 : 0 ≤ x7_2
       rotate_left
       ·rw [if_neg c23] at H; exact absurd H (by simp)
       rw [if_pos c23] at H
       have c23b0 : decide (0 ≤ x7_2) = true := decide_eq_true c23
       clear c23
       replace H := Option.bind_eq_some_iff.mp H
       obtain ⟨t179, A240, H⟩ := H
       replace H : (if (x3_2 ++ (⟨#[32, 120]⟩ : ByteArray)).size + t179.size ≤ 9223372036854775807 then (exequaturlaw24_text.l1 k2 l0 ((x3_2 ++ (⟨#[32, 120]⟩ : ByteArray)) ++ t179) x4_1 y175 (wrap64 (x7_2 + 1))) else (none)) = some r := H
       have A24 := Aside0.mk A240
       clear A240
       by_cases c25 : (x3_2 ++ (⟨#[32, 120]⟩ : ByteArray)).size + t179.size ≤ 9223372036854775807
       rotate_left
       ·rw [if_neg c25] at H; exact absurd H (by simp)
       rw [if_pos c25] at H
       have c25b0 := eq_true c25
       have c25b1 : decide ((x3_2 ++ (⟨#[32, 120]⟩ : ByteArray)).size + t179.size ≤ 9223372036854775807) = true := decide_eq_true c25
       try have c25b2 : (9223372036854775807 < (x3_2 ++ (⟨#[32, 120]⟩ : ByteArray)).size + t179.size) = False := eq_false (Nat.not_lt.2 c25)
       try have c25b3 : (9223372036854775807 < x3_2.size + 2 + t179.size) = False := eq_false (Nat.not_lt.2 (by have h_ := c25; simp only [ByteArray.size_append] at h_; exact h_))
       have H' := Aside0.mk H
       clear H
       obtain ⟨Ao26, co26, eo26⟩ := Kd.R_slice HO_6.out
       subst eo26
       have p178 : 0 ≤ (x7_2 : Int) := of_decide_eq_true (by first | (with_reducible assumption) | assumption)
       have q178 : x7_2 < (y175.length : Int) := of_decide_eq_true (by first | (with_reducible assumption) | assumption)
       obtain ⟨ad178, e178, hx178_0⟩ := Kd.at_string (Kd.R_reads' HO_6.out).2.2 x7_2 p178 q178
       cases e178
       replace p178 := eq_true p178
       replace q178 := eq_true q178
       go_wp2_with (first | ((with_reducible refine gate_callee (f := 20) rfl ?_); refine goesL_ (some 70) rfl rfl Tryd.func20 (by kernel_rfl) rfl #[.string (rdOf ByteArray.empty y175 x7_2)] rfl (by (try simp only [List.map_toArray, List.map_cons, List.map_nil]); first | done | rfl | (simp only [List.length_drop, List.length_take]; rfl)) ?_; (with_reducible refine (exequaturref01_B64.calls k2 (rdOf ByteArray.empty y175 x7_2) t179 _ A24.out).mono ?_); rintro e w27 ⟨rfl, hb⟩; refine ⟨_, rfl, ?_⟩; have n0_ := Aside0.mk (Kd.R_below (by (with_reducible repeat (first | apply Kd.R_alloc | apply Kd.R_drewN | apply Kd.R_drew)); exact HO_6.out) hb); have n1_ := Aside0.mk (blk_belowB BK169.out (by (with_reducible repeat (first | refine blk_drewN ?_ _ | refine blk_drew ?_ | refine blk_alloc ?_ _)); exact BK169.out) hb); have n2_ := Aside0.mk (below_step (by repeat (first | (with_reducible first | exact HB.out | apply below_alloc | apply pw_below_drewN | apply below_drew1 | refine below_set ?_ GE169.out) | exact HB.out)) hb); clear HO_6; clear BK169; clear HB; have HO_6 := n0_; have BK169 := n1_; have HB := n2_; clear n0_ n1_ n2_; (try clear hb); (try clear hb2); (try clear hk); (try clear hi)))
       go_roundg k2
       case measure => have := HK1.out; have := HK2.out; omega
       case rel => exact ⟨((x3_2 ++ (⟨#[32, 120]⟩ : ByteArray)) ++ t179), (wrap64 (x7_2 + 1)), (by first | rfl | (simp; done) | (simp [*]; done) | (refine congrArg Value.bool ?_; rw [Bool.eq_iff_iff]; simp; done)), (by first | rfl | (simp; done) | (simp [*]; done) | (refine congrArg Value.bool ?_; rw [Bool.eq_iff_iff]; simp; done)), H', ⟨by have := HK1.out; have := HK2.out; omega⟩, ⟨by (with_reducible repeat (first | apply Kd.R_alloc | apply Kd.R_drewN | apply Kd.R_drew)); exact HO_6.out⟩, ⟨by (with_reducible repeat (first | refine blk_drewN ?_ _ | refine blk_drew ?_ | refine blk_alloc ?_ _)); exact BK169.out⟩, ⟨by repeat (first | (with_reducible first | exact HB.out | apply below_alloc | apply pw_below_drewN | apply below_drew1 | refine below_set ?_ GE169.out) | exact HB.out)⟩⟩
      ·rw [if_neg c21] at H
       have c21b0 : decide (x7_2 < (y175.length : Int)) = false := decide_eq_false c21
       clear c21
       by_cases c28 : x3_2.size + 1 ≤ 9223372036854775807
       rotate_left
       ·rw [if_neg c28] at H; exact absurd H (by simp)
       rw [if_pos c28] at H
       have c28b0 := eq_true c28
       have c28b1 : decide (x3_2.size + 1 ≤ 9223372036854775807) = true := decide_eq_true c28
       try have c28b2 : (9223372036854775807 < x3_2.size + 1) = False := eq_false (Nat.not_lt.2 c28)
       try have c28b3 : (9223372036854775807 < x3_2.size + 1) = False := eq_false (Nat.not_lt.2 (by have h_ := c28; simp only [ByteArray.size_append] at h_; exact h_))
       have H' := Aside0.mk H
       clear H
       obtain ⟨Ao29, co29, eo29⟩ := Kd.R_slice HO_6.out
       subst eo29
       go_wp2
       go_roundg k2
       case measure => have := HK1.out; have := HK2.out; omega
       case rel => exact ⟨(x3_2 ++ (⟨#[10]⟩ : ByteArray)), (wrap64 (x4_1 + 1)), (by first | rfl | (simp; done) | (simp [*]; done) | (refine congrArg Value.bool ?_; rw [Bool.eq_iff_iff]; simp; done)), (by first | rfl | (simp; done) | (simp [*]; done) | (refine congrArg Value.bool ?_; rw [Bool.eq_iff_iff]; simp; done)), H', ⟨by have := HK1.out; have := HK2.out; omega⟩, ⟨by repeat (first | (with_reducible first | exact HB.out | apply below_alloc | apply pw_below_drewN | apply below_drew1 | refine below_set ?_ GE169.out) | exact HB.out)⟩⟩
   ·rw [if_neg c2] at H
    have c2b0 : decide (x4_1 < (l0.length : Int)) = false := decide_eq_false c2
    clear c2
    obtain rfl := Option.some.inj H
    go_wp2
    go_ret
    first | (exact ⟨by first | rfl | (simp [errW_none, errW_some] <;> rfl) | (simp [*, errW_none, errW_some] <;> rfl), by repeat (first | (with_reducible first | exact HB.out | apply below_alloc | apply pw_below_drewN | apply below_drew1) | exact HB.out)⟩) | (focus (exfalso; simp_all; done))
    all_goals (first | (exfalso; simp_all <;> omega) | (go_ret; exact ⟨by first | rfl | (simp [errW_none, errW_some] <;> rfl) | (simp [*, errW_none, errW_some] <;> rfl), by repeat (first | (with_reducible first | exact HB.out | apply below_alloc | apply pw_below_drewN | apply below_drew1) | exact HB.out)⟩))

/-! ### exequaturlaw24_same: function 13 -/
def exequaturlaw24_same.f (k : Nat) (l0 : List (S36)) (l1 : List (S36)) : Option (Bool) := if (l0.length : Int) = (l1.length : Int) then ((exequaturlaw24_text.f k l0).bind fun t180 => ((exequaturlaw24_text.f k l1).bind fun t181 => (some (t180.toList == t181.toList)))) else (some false)
theorem exequaturlaw24_same.mono : ∀ a0 a1 k, LeO (exequaturlaw24_same.f k a0 a1) (exequaturlaw24_same.f (k + 1) a0 a1) := by
  intro a0 a1 k
  unfold exequaturlaw24_same.f
  repeat' first
      | (with_reducible exact exequaturlaw24_text.mono _ _)
      | (with_reducible exact LeO.refl _)
      | (with_reducible exact LeO.none _)
      | (with_reducible refine LeO.ite ?_ ?_)
      | (with_reducible refine LeO.bind ?_ (fun _ => ?_))
      | exact exequaturlaw24_text.mono _ _
      | exact LeO.none _
      | refine LeO.ite ?_ ?_
      | refine LeO.bind ?_ (fun _ => ?_)
set_option maxHeartbeats 8000000 in
set_option maxRecDepth 100000 in
theorem exequaturlaw24_same.calls (k : Nat) (A0 : Option Addr) (c0 : Nat) (l0 : List (S36)) (A1 : Option Addr) (c1 : Nat) (l1 : List (S36)) (r : Bool) (w : World) (hr0 : Kd.C k36 w A0 l0.length l0) (hc0 : l0.length ≤ c0) (hr1 : Kd.C k36 w A1 l1.length l1) (hc1 : l1.length ≤ c1) (h : exequaturlaw24_same.f k l0 l1 = some r) :
  Calls Tryd.prog 13 #[.slice A0 l0.length c0, .slice A1 l1.length c1] w fun e w' => e = .returned (.bool r) ∧ Below w.heap.size w w' := by
 have HR0 := Aside0.mk hr0
 have HC0 := Aside0.mk hc0
 clear hr0 hc0
 have HR1 := Aside0.mk hr1
 have HC1 := Aside0.mk hc1
 clear hr1 hc1
 have HB := Aside0.mk (Below.refl w.heap.size w)
 have H : (if (l0.length : Int) = (l1.length : Int) then ((exequaturlaw24_text.f k l0).bind fun t180 => ((exequaturlaw24_text.f k l1).bind fun t181 => (some (t180.toList == t181.toList)))) else (some false)) = some r := h
 clear h
 by_cases c3 : (l0.length : Int) = (l1.length : Int)
 ·rw [if_pos c3] at H
  have c3b0 : ((l0.length : Int) == (l1.length : Int)) = true := beq_iff_eq.mpr c3
  have c3b1 : ((l0.length : Int) != (l1.length : Int)) = false := bne_eq_false_iff_eq.mpr c3
  have c3b2 : (l0.length == l1.length) = true := by first | simpa using c3 | (simp at c3 ⊢; omega)
  clear c3
  replace H := Option.bind_eq_some_iff.mp H
  obtain ⟨t180, A40, H⟩ := H
  replace H : ((exequaturlaw24_text.f k l1).bind fun t181 => (some (t180.toList == t181.toList))) = some r := H
  have A4 := Aside0.mk A40
  clear A40
  replace H := Option.bind_eq_some_iff.mp H
  obtain ⟨t181, A50, H⟩ := H
  replace H : (some (t180.toList == t181.toList)) = some r := H
  have A5 := Aside0.mk A50
  clear A50
  obtain rfl := Option.some.inj H
  go_enter Tryd.func13, Tryd.ntmps13
  go_wp2_with (first | (go_at_call 12; (with_reducible refine (exequaturlaw24_text.calls k _ _ l0 t180 _ ?side1 ?side2 A4.out).mono ?_); (case side1 => repeat (first | exact HR0.out | (with_reducible refine Kd.C_alloc ?_ _) | (with_reducible refine Kd.C_drewN ?_ _) | (with_reducible refine Kd.C_drew ?_))); (case side2 => exact HC0.out); rintro e w6 ⟨rfl, hb⟩; have n0_ := Aside0.mk (below_step (by repeat (first | (with_reducible first | exact HB.out | apply below_alloc | apply pw_below_drewN | apply below_drew1) | exact HB.out)) hb); clear HB; have HB := n0_; clear n0_; (try clear hb); (try clear hb2); (try clear hk); (try clear hi)) | (go_at_call 12; (with_reducible refine (exequaturlaw24_text.calls k _ _ l1 t181 _ ?side1 ?side2 A5.out).mono ?_); (case side1 => repeat (first | exact (Kd.C_below HR1.out HB.out) | (with_reducible refine Kd.C_alloc ?_ _) | (with_reducible refine Kd.C_drewN ?_ _) | (with_reducible refine Kd.C_drew ?_))); (case side2 => exact HC1.out); rintro e w7 ⟨rfl, hb⟩; have n0_ := Aside0.mk (below_step (by repeat (first | (with_reducible first | exact HB.out | apply below_alloc | apply pw_below_drewN | apply below_drew1) | exact HB.out)) hb); clear HB; have HB := n0_; clear n0_; (try clear hb); (try clear hb2); (try clear hk); (try clear hi)))
  go_ret
  first | (exact ⟨by first | rfl | (simp [errW_none, errW_some] <;> rfl) | (simp [*, errW_none, errW_some] <;> rfl), by repeat (first | (with_reducible first | exact HB.out | apply below_alloc | apply pw_below_drewN | apply below_drew1) | exact HB.out)⟩) | (focus (exfalso; simp_all; done))
  all_goals (first | (exfalso; simp_all <;> omega) | (go_ret; exact ⟨by first | rfl | (simp [errW_none, errW_some] <;> rfl) | (simp [*, errW_none, errW_some] <;> rfl), by repeat (first | (with_reducible first | exact HB.out | apply below_alloc | apply pw_below_drewN | apply below_drew1) | exact HB.out)⟩))
 ·rw [if_neg c3] at H
  have c3b0 : ((l0.length : Int) == (l1.length : Int)) = false := beq_eq_false_iff_ne.mpr c3
  have c3b1 : ((l0.length : Int) != (l1.length : Int)) = true := bne_iff_ne.mpr c3
  have c3b2 : (l0.length == l1.length) = false := by first | simpa using c3 | (simp at c3 ⊢; omega)
  obtain rfl := Option.some.inj H
  go_enter Tryd.func13, Tryd.ntmps13
  go_wp2
  go_ret
  first | (exact ⟨by first | rfl | (simp [errW_none, errW_some] <;> rfl) | (simp [*, errW_none, errW_some] <;> rfl), by repeat (first | (with_reducible first | exact HB.out | apply below_alloc | apply pw_below_drewN | apply below_drew1) | exact HB.out)⟩) | (focus (exfalso; simp_all; done))
  all_goals (first | (exfalso; simp_all <;> omega) | (go_ret; exact ⟨by first | rfl | (simp [errW_none, errW_some] <;> rfl) | (simp [*, errW_none, errW_some] <;> rfl), by repeat (first | (with_reducible first | exact HB.out | apply below_alloc | apply pw_below_drewN | apply below_drew1) | exact HB.out)⟩))

/-! ### exequaturlaw24_ScriptBack: function 3 -/
def exequaturlaw24_ScriptBack.f (k : Nat) (l0 : List (S36)) : Option (Bool) := (exequaturlaw24_small.f l0).bind fun t182 => (if t182 = true then ((script_Print.f l0).bind fun t184 => ((script_Parse.f k t184).bind fun bt185 => ((exequaturlaw24_answers.f k).bind fun t190 => (if t190 = true then ((exequaturlaw24_text.f k l0).bind fun t191 => (if t184.toList = t191.toList then (if bt185.2.2 = 0 then (if bt185.2.1 = 0 then ((exequaturlaw24_same.f k bt185.1 l0).bind fun t192 => (some t192)) else (some false)) else (some false)) else (some false))) else (some false))))) else ((exequaturlaw24_answers.f k).bind fun t183 => (some t183)))
theorem exequaturlaw24_ScriptBack.mono : ∀ a0 k, LeO (exequaturlaw24_ScriptBack.f k a0) (exequaturlaw24_ScriptBack.f (k + 1) a0) := by
  intro a0 k
  unfold exequaturlaw24_ScriptBack.f
  repeat' first
      | (with_reducible exact exequaturlaw24_answers.mono _)
      | (with_reducible exact exequaturlaw24_same.mono _ _ _)
      | (with_reducible exact exequaturlaw24_text.mono _ _)
      | (with_reducible exact script_Parse.mono _ _)
      | (with_reducible exact LeO.refl _)
      | (with_reducible exact LeO.none _)
      | (with_reducible refine LeO.ite ?_ ?_)
      | (with_reducible refine LeO.bind ?_ (fun _ => ?_))
      | exact exequaturlaw24_answers.mono _
      | exact exequaturlaw24_same.mono _ _ _
      | exact exequaturlaw24_text.mono _ _
      | exact script_Parse.mono _ _
      | exact LeO.none _
      | refine LeO.ite ?_ ?_
      | refine LeO.bind ?_ (fun _ => ?_)
set_option maxHeartbeats 8000000 in
set_option maxRecDepth 100000 in
theorem exequaturlaw24_ScriptBack.calls (k : Nat) (A0 : Option Addr) (c0 : Nat) (l0 : List (S36)) (r : Bool) (w : World) (hr0 : Kd.C k36 w A0 l0.length l0) (hc0 : l0.length ≤ c0) (h : exequaturlaw24_ScriptBack.f k l0 = some r) (hG : GOK w := by first | assumption | exact hG | exact GOK.drewN _ hG | exact GOK.below hG (by repeat (first | (with_reducible first | exact HB.out | apply below_alloc | apply pw_below_drewN | apply below_drew1 | refine below_set ?_ (Aside0.out (by assumption))) | exact HB.out))) :
  Calls Tryd.prog 3 #[.slice A0 l0.length c0] w fun e w' => e = .returned (.bool r) ∧ Below w.heap.size w w' := by
 have HR0 := Aside0.mk hr0
 have HC0 := Aside0.mk hc0
 clear hr0 hc0
 have HB := Aside0.mk (Below.refl w.heap.size w)
 have H : ((exequaturlaw24_small.f l0).bind fun t182 => (if t182 = true then ((script_Print.f l0).bind fun t184 => ((script_Parse.f k t184).bind fun bt185 => ((exequaturlaw24_answers.f k).bind fun t190 => (if t190 = true then ((exequaturlaw24_text.f k l0).bind fun t191 => (if t184.toList = t191.toList then (if bt185.2.2 = 0 then (if bt185.2.1 = 0 then ((exequaturlaw24_same.f k bt185.1 l0).bind fun t192 => (some t192)) else (some false)) else (some false)) else (some false))) else (some false))))) else ((exequaturlaw24_answers.f k).bind fun t183 => (some t183)))) = some r := h
 clear h
 replace H := Option.bind_eq_some_iff.mp H
 obtain ⟨t182, A20, H⟩ := H
 replace H : (if t182 = true then ((script_Print.f l0).bind fun t184 => ((script_Parse.f k t184).bind fun bt185 => ((exequaturlaw24_answers.f k).bind fun t190 => (if t190 = true then ((exequaturlaw24_text.f k l0).bind fun t191 => (if t184.toList = t191.toList then (if bt185.2.2 = 0 then (if bt185.2.1 = 0 then ((exequaturlaw24_same.f k bt185.1 l0).bind fun t192 => (some t192)) else (some false)) else (some false)) else (some false))) else (some false))))) else ((exequaturlaw24_answers.f k).bind fun t183 => (some t183))) = some r := H
 have A2 := Aside0.mk A20
 clear A20
 by_cases c3 : t182 = true
 ·subst c3
  have H1 : ((script_Print.f l0).bind fun t184 => ((script_Parse.f k t184).bind fun bt185 => ((exequaturlaw24_answers.f k).bind fun t190 => (if t190 = true then ((exequaturlaw24_text.f k l0).bind fun t191 => (if t184.toList = t191.toList then (if bt185.2.2 = 0 then (if bt185.2.1 = 0 then ((exequaturlaw24_same.f k bt185.1 l0).bind fun t192 => (some t192)) else (some false)) else (some false)) else (some false))) else (some false))))) = some r := by rw [if_pos rfl] at H; exact H
  clear H
  have H := H1
  clear H1
  replace H := Option.bind_eq_some_iff.mp H
  obtain ⟨t184, A40, H⟩ := H
  replace H : ((script_Parse.f k t184).bind fun bt185 => ((exequaturlaw24_answers.f k).bind fun t190 => (if t190 = true then ((exequaturlaw24_text.f k l0).bind fun t191 => (if t184.toList = t191.toList then (if bt185.2.2 = 0 then (if bt185.2.1 = 0 then ((exequaturlaw24_same.f k bt185.1 l0).bind fun t192 => (some t192)) else (some false)) else (some false)) else (some false))) else (some false)))) = some r := H
  have A4 := Aside0.mk A40
  clear A40
  replace H := Option.bind_eq_some_iff.mp H
  obtain ⟨⟨t185, t188, t189⟩, A50, H⟩ := H
  replace H : ((exequaturlaw24_answers.f k).bind fun t190 => (if t190 = true then ((exequaturlaw24_text.f k l0).bind fun t191 => (if t184.toList = t191.toList then (if t189 = 0 then (if t188 = 0 then ((exequaturlaw24_same.f k t185 l0).bind fun t192 => (some t192)) else (some false)) else (some false)) else (some false))) else (some false))) = some r := H
  have A5 := Aside0.mk A50
  clear A50
  replace H := Option.bind_eq_some_iff.mp H
  obtain ⟨t190, A60, H⟩ := H
  replace H : (if t190 = true then ((exequaturlaw24_text.f k l0).bind fun t191 => (if t184.toList = t191.toList then (if t189 = 0 then (if t188 = 0 then ((exequaturlaw24_same.f k t185 l0).bind fun t192 => (some t192)) else (some false)) else (some false)) else (some false))) else (some false)) = some r := H
  have A6 := Aside0.mk A60
  clear A60
  by_cases c7 : t190 = true
  ·subst c7
   have H1 : ((exequaturlaw24_text.f k l0).bind fun t191 => (if t184.toList = t191.toList then (if t189 = 0 then (if t188 = 0 then ((exequaturlaw24_same.f k t185 l0).bind fun t192 => (some t192)) else (some false)) else (some false)) else (some false))) = some r := by rw [if_pos rfl] at H; exact H
   clear H
   have H := H1
   clear H1
   replace H := Option.bind_eq_some_iff.mp H
   obtain ⟨t191, A80, H⟩ := H
   replace H : (if t184.toList = t191.toList then (if t189 = 0 then (if t188 = 0 then ((exequaturlaw24_same.f k t185 l0).bind fun t192 => (some t192)) else (some false)) else (some false)) else (some false)) = some r := H
   have A8 := Aside0.mk A80
   clear A80
   by_cases c9 : t184.toList = t191.toList
   ·rw [if_pos c9] at H
    have c9b0 : (t184.toList == t191.toList) = true := beq_iff_eq.mpr c9
    have c9b1 : (t184.toList != t191.toList) = false := bne_eq_false_iff_eq.mpr c9
    clear c9
    by_cases c10 : t189 = 0
    ·rw [if_pos c10] at H
     have c10b0 : (t189 == 0) = true := beq_iff_eq.mpr c10
     have c10b1 : (t189 != 0) = false := bne_eq_false_iff_eq.mpr c10
     clear c10
     by_cases c11 : t188 = 0
     ·rw [if_pos c11] at H
      have c11b0 : (t188 == 0) = true := beq_iff_eq.mpr c11
      have c11b1 : (t188 != 0) = false := bne_eq_false_iff_eq.mpr c11
      clear c11
      replace H := Option.bind_eq_some_iff.mp H
      obtain ⟨t192, A120, H⟩ := H
      replace H : (some t192) = some r := H
      have A12 := Aside0.mk A120
      clear A120
      obtain rfl := Option.some.inj H
      go_enter Tryd.func3, Tryd.ntmps3
      go_wp2_with (first | ((with_reducible refine gate_callee (f := 8) rfl ?_); refine goesL_ (some 8) rfl rfl Tryd.func8 (by kernel_rfl) rfl #[.slice A0 l0.length c0] rfl (by (try simp only [List.map_toArray, List.map_cons, List.map_nil]); first | done | rfl | (simp only [List.length_drop, List.length_take]; rfl)) ?_; (with_reducible refine (exequaturlaw24_small.calls _ _ l0 true _ ?side1 ?side2 A2.out).mono ?_); (case side1 => repeat (first | exact HR0.out | (with_reducible refine Kd.C_alloc ?_ _) | (with_reducible refine Kd.C_drewN ?_ _) | (with_reducible refine Kd.C_drew ?_))); (case side2 => exact HC0.out); rintro e w13 ⟨rfl, hb⟩; refine ⟨_, rfl, ?_⟩; have n0_ := Aside0.mk (below_step (by repeat (first | (with_reducible first | exact HB.out | apply below_alloc | apply pw_below_drewN | apply below_drew1) | exact HB.out)) hb); clear HB; have HB := n0_; clear n0_; (try clear hb); (try clear hb2); (try clear hk); (try clear hi)) | ((with_reducible refine gate_callee (f := 10) rfl ?_); refine goesL_ (some 12) rfl rfl Tryd.func10 (by kernel_rfl) rfl #[.slice A0 l0.length c0] rfl (by (try simp only [List.map_toArray, List.map_cons, List.map_nil]); first | done | rfl | (simp only [List.length_drop, List.length_take]; rfl)) ?_; (with_reducible refine (script_Print.calls _ _ l0 t184 _ ?side1 ?side2 A4.out (hG := GOK.below hG (by repeat (first | (with_reducible first | exact HB.out | apply below_alloc | apply pw_below_drewN | apply below_drew1) | exact HB.out)))).mono ?_); (case side1 => repeat (first | exact (Kd.C_below HR0.out HB.out) | (with_reducible refine Kd.C_alloc ?_ _) | (with_reducible refine Kd.C_drewN ?_ _) | (with_reducible refine Kd.C_drew ?_))); (case side2 => exact HC0.out); rintro e w14 ⟨rfl, hb⟩; refine ⟨_, rfl, ?_⟩; have n0_ := Aside0.mk (below_step (by repeat (first | (with_reducible first | exact HB.out | apply below_alloc | apply pw_below_drewN | apply below_drew1) | exact HB.out)) hb); clear HB; have HB := n0_; clear n0_; (try clear hb); (try clear hb2); (try clear hk); (try clear hi)) | ((with_reducible refine gate_callee (f := 11) rfl ?_); refine goesL_ (some 15) rfl rfl Tryd.func11 (by kernel_rfl) rfl #[.string t184] rfl (by (try simp only [List.map_toArray, List.map_cons, List.map_nil]); first | done | rfl | (simp only [List.length_drop, List.length_take]; rfl)) ?_; (with_reducible refine (script_Parse.calls k t184 t185 t188 t189 _ A5.out (hG := GOK.below hG (by repeat (first | (with_reducible first | exact HB.out | apply below_alloc | apply pw_below_drewN | apply below_drew1) | exact HB.out)))).mono ?_); rintro e w15 ⟨v186, rfl, ho0, hb⟩; refine ⟨_, rfl, ?_⟩; have n0_ := Aside0.mk (Kd.N_lower (Kd.N_mono (ok' := fun k_ => True) ho0 (fun k_ hk_ => trivial)) (below_size (by repeat (first | (with_reducible first | exact HB.out | apply below_alloc | apply pw_below_drewN | apply below_drew1) | exact HB.out)))); have n1_ := Aside0.mk (below_step (by repeat (first | (with_reducible first | exact HB.out | apply below_alloc | apply pw_below_drewN | apply below_drew1) | exact HB.out)) hb); clear HB; have HO187 := n0_; have HB := n1_; clear n0_ n1_; (try clear hb); (try clear hb2); (try clear hk); (try clear hi); (try clear ho0)) | ((with_reducible refine gate_callee (f := 9) rfl ?_); refine goesL_ (some 19) rfl rfl Tryd.func9 (by kernel_rfl) rfl #[] rfl (by (try simp only [List.map_toArray, List.map_cons, List.map_nil]); first | done | rfl | (simp only [List.length_drop, List.length_take]; rfl)) ?_; (with_reducible refine (exequaturlaw24_answers.calls k  true _ A6.out (hG := GOK.below hG (by repeat (first | (with_reducible first | exact HB.out | apply below_alloc | apply pw_below_drewN | apply below_drew1) | exact HB.out)))).mono ?_); rintro e w16 ⟨rfl, hb⟩; refine ⟨_, rfl, ?_⟩; have n0_ := Aside0.mk (Kd.N_below (by (with_reducible repeat (first | apply Kd.N_alloc | apply Kd.N_drewN | apply Kd.N_drew)); exact HO187.out) hb); have n1_ := Aside0.mk (below_step (by repeat (first | (with_reducible first | exact HB.out | apply below_alloc | apply pw_below_drewN | apply below_drew1) | exact HB.out)) hb); clear HO187; clear HB; have HO187 := n0_; have HB := n1_; clear n0_ n1_; (try clear hb); (try clear hb2); (try clear hk); (try clear hi)) | (go_at_call 12; (with_reducible refine (exequaturlaw24_text.calls k _ _ l0 t191 _ ?side1 ?side2 A8.out).mono ?_); (case side1 => repeat (first | exact (Kd.C_below HR0.out HB.out) | (with_reducible refine Kd.C_alloc ?_ _) | (with_reducible refine Kd.C_drewN ?_ _) | (with_reducible refine Kd.C_drew ?_))); (case side2 => exact HC0.out); rintro e w17 ⟨rfl, hb⟩; have n0_ := Aside0.mk (Kd.N_below (by (with_reducible repeat (first | apply Kd.N_alloc | apply Kd.N_drewN | apply Kd.N_drew)); exact HO187.out) hb); have n1_ := Aside0.mk (below_step (by repeat (first | (with_reducible first | exact HB.out | apply below_alloc | apply pw_below_drewN | apply below_drew1) | exact HB.out)) hb); clear HO187; clear HB; have HO187 := n0_; have HB := n1_; clear n0_ n1_; (try clear hb); (try clear hb2); (try clear hk); (try clear hi); obtain ⟨Ao18, co18, eo18⟩ := Kd.N_slice HO187.out; subst eo18) | (go_at_call 13; (with_reducible refine (exequaturlaw24_same.calls k _ _ t185 _ _ l0 t192 _ ?side1 ?side2 ?side3 ?side4 A12.out).mono ?_); (case side1 => repeat (first | exact (Kd.N_reads' HO187.out).2.2 | (with_reducible refine Kd.C_alloc ?_ _) | (with_reducible refine Kd.C_drewN ?_ _) | (with_reducible refine Kd.C_drew ?_))); (case side2 => exact (Kd.N_reads' HO187.out).2.1); (case side3 => repeat (first | exact (Kd.C_below HR0.out HB.out) | (with_reducible refine Kd.C_alloc ?_ _) | (with_reducible refine Kd.C_drewN ?_ _) | (with_reducible refine Kd.C_drew ?_))); (case side4 => exact HC0.out); rintro e w19 ⟨rfl, hb⟩; have n0_ := Aside0.mk (Kd.N_below (by (with_reducible repeat (first | apply Kd.N_alloc | apply Kd.N_drewN | apply Kd.N_drew)); exact HO187.out) hb); have n1_ := Aside0.mk (below_step (by repeat (first | (with_reducible first | exact HB.out | apply below_alloc | apply pw_below_drewN | apply below_drew1) | exact HB.out)) hb); clear HO187; clear HB; have HO187 := n0_; have HB := n1_; clear n0_ n1_; (try clear hb); (try clear hb2); (try clear hk); (try clear hi)))
      go_ret
      first | (exact ⟨by first | rfl | (simp [errW_none, errW_some] <;> rfl) | (simp [*, errW_none, errW_some] <;> rfl), by repeat (first | (with_reducible first | exact HB.out | apply below_alloc | apply pw_below_drewN | apply below_drew1) | exact HB.out)⟩) | (focus (exfalso; simp_all; done))
      all_goals (first | (exfalso; simp_all <;> omega) | (go_ret; exact ⟨by first | rfl | (simp [errW_none, errW_some] <;> rfl) | (simp [*, errW_none, errW_some] <;> rfl), by repeat (first | (with_reducible first | exact HB.out | apply below_alloc | apply pw_below_drewN | apply below_drew1) | exact HB.out)⟩))
     ·rw [if_neg c11] at H
      have c11b0 : (t188 == 0) = false := beq_eq_false_iff_ne.mpr c11
      have c11b1 : (t188 != 0) = true := bne_iff_ne.mpr c11
      obtain rfl := Option.some.inj H
      go_enter Tryd.func3, Tryd.ntmps3
      go_wp2_with (first | ((with_reducible refine gate_callee (f := 8) rfl ?_); refine goesL_ (some 8) rfl rfl Tryd.func8 (by kernel_rfl) rfl #[.slice A0 l0.length c0] rfl (by (try simp only [List.map_toArray, List.map_cons, List.map_nil]); first | done | rfl | (simp only [List.length_drop, List.length_take]; rfl)) ?_; (with_reducible refine (exequaturlaw24_small.calls _ _ l0 true _ ?side1 ?side2 A2.out).mono ?_); (case side1 => repeat (first | exact HR0.out | (with_reducible refine Kd.C_alloc ?_ _) | (with_reducible refine Kd.C_drewN ?_ _) | (with_reducible refine Kd.C_drew ?_))); (case side2 => exact HC0.out); rintro e w20 ⟨rfl, hb⟩; refine ⟨_, rfl, ?_⟩; have n0_ := Aside0.mk (below_step (by repeat (first | (with_reducible first | exact HB.out | apply below_alloc | apply pw_below_drewN | apply below_drew1) | exact HB.out)) hb); clear HB; have HB := n0_; clear n0_; (try clear hb); (try clear hb2); (try clear hk); (try clear hi)) | ((with_reducible refine gate_callee (f := 10) rfl ?_); refine goesL_ (some 12) rfl rfl Tryd.func10 (by kernel_rfl) rfl #[.slice A0 l0.length c0] rfl (by (try simp only [List.map_toArray, List.map_cons, List.map_nil]); first | done | rfl | (simp only [List.length_drop, List.length_take]; rfl)) ?_; (with_reducible refine (script_Print.calls _ _ l0 t184 _ ?side1 ?side2 A4.out (hG := GOK.below hG (by repeat (first | (with_reducible first | exact HB.out | apply below_alloc | apply pw_below_drewN | apply below_drew1) | exact HB.out)))).mono ?_); (case side1 => repeat (first | exact (Kd.C_below HR0.out HB.out) | (with_reducible refine Kd.C_alloc ?_ _) | (with_reducible refine Kd.C_drewN ?_ _) | (with_reducible refine Kd.C_drew ?_))); (case side2 => exact HC0.out); rintro e w21 ⟨rfl, hb⟩; refine ⟨_, rfl, ?_⟩; have n0_ := Aside0.mk (below_step (by repeat (first | (with_reducible first | exact HB.out | apply below_alloc | apply pw_below_drewN | apply below_drew1) | exact HB.out)) hb); clear HB; have HB := n0_; clear n0_; (try clear hb); (try clear hb2); (try clear hk); (try clear hi)) | ((with_reducible refine gate_callee (f := 11) rfl ?_); refine goesL_ (some 15) rfl rfl Tryd.func11 (by kernel_rfl) rfl #[.string t184] rfl (by (try simp only [List.map_toArray, List.map_cons, List.map_nil]); first | done | rfl | (simp only [List.length_drop, List.length_take]; rfl)) ?_; (with_reducible refine (script_Parse.calls k t184 t185 t188 t189 _ A5.out (hG := GOK.below hG (by repeat (first | (with_reducible first | exact HB.out | apply below_alloc | apply pw_below_drewN | apply below_drew1) | exact HB.out)))).mono ?_); rintro e w22 ⟨v186, rfl, ho0, hb⟩; refine ⟨_, rfl, ?_⟩; have n0_ := Aside0.mk (Kd.N_lower (Kd.N_mono (ok' := fun k_ => True) ho0 (fun k_ hk_ => trivial)) (below_size (by repeat (first | (with_reducible first | exact HB.out | apply below_alloc | apply pw_below_drewN | apply below_drew1) | exact HB.out)))); have n1_ := Aside0.mk (below_step (by repeat (first | (with_reducible first | exact HB.out | apply below_alloc | apply pw_below_drewN | apply below_drew1) | exact HB.out)) hb); clear HB; have HO187 := n0_; have HB := n1_; clear n0_ n1_; (try clear hb); (try clear hb2); (try clear hk); (try clear hi); (try clear ho0)) | ((with_reducible refine gate_callee (f := 9) rfl ?_); refine goesL_ (some 19) rfl rfl Tryd.func9 (by kernel_rfl) rfl #[] rfl (by (try simp only [List.map_toArray, List.map_cons, List.map_nil]); first | done | rfl | (simp only [List.length_drop, List.length_take]; rfl)) ?_; (with_reducible refine (exequaturlaw24_answers.calls k  true _ A6.out (hG := GOK.below hG (by repeat (first | (with_reducible first | exact HB.out | apply below_alloc | apply pw_below_drewN | apply below_drew1) | exact HB.out)))).mono ?_); rintro e w23 ⟨rfl, hb⟩; refine ⟨_, rfl, ?_⟩; have n0_ := Aside0.mk (Kd.N_below (by (with_reducible repeat (first | apply Kd.N_alloc | apply Kd.N_drewN | apply Kd.N_drew)); exact HO187.out) hb); have n1_ := Aside0.mk (below_step (by repeat (first | (with_reducible first | exact HB.out | apply below_alloc | apply pw_below_drewN | apply below_drew1) | exact HB.out)) hb); clear HO187; clear HB; have HO187 := n0_; have HB := n1_; clear n0_ n1_; (try clear hb); (try clear hb2); (try clear hk); (try clear hi)) | (go_at_call 12; (with_reducible refine (exequaturlaw24_text.calls k _ _ l0 t191 _ ?side1 ?side2 A8.out).mono ?_); (case side1 => repeat (first | exact (Kd.C_below HR0.out HB.out) | (with_reducible refine Kd.C_alloc ?_ _) | (with_reducible refine Kd.C_drewN ?_ _) | (with_reducible refine Kd.C_drew ?_))); (case side2 => exact HC0.out); rintro e w24 ⟨rfl, hb⟩; have n0_ := Aside0.mk (Kd.N_below (by (with_reducible repeat (first | apply Kd.N_alloc | apply Kd.N_drewN | apply Kd.N_drew)); exact HO187.out) hb); have n1_ := Aside0.mk (below_step (by repeat (first | (with_reducible first | exact HB.out | apply below_alloc | apply pw_below_drewN | apply below_drew1) | exact HB.out)) hb); clear HO187; clear HB; have HO187 := n0_; have HB := n1_; clear n0_ n1_; (try clear hb); (try clear hb2); (try clear hk); (try clear hi)))
      go_ret
      first | (exact ⟨by first | rfl | (simp [errW_none, errW_some] <;> rfl) | (simp [*, errW_none, errW_some] <;> rfl), by repeat (first | (with_reducible first | exact HB.out | apply below_alloc | apply pw_below_drewN | apply below_drew1) | exact HB.out)⟩) | (focus (exfalso; simp_all; done))
      all_goals (first | (exfalso; simp_all <;> omega) | (go_ret; exact ⟨by first | rfl | (simp [errW_none, errW_some] <;> rfl) | (simp [*, errW_none, errW_some] <;> rfl), by repeat (first | (with_reducible first | exact HB.out | apply below_alloc | apply pw_below_drewN | apply below_drew1) | exact HB.out)⟩))
    ·rw [if_neg c10] at H
     have c10b0 : (t189 == 0) = false := beq_eq_false_iff_ne.mpr c10
     have c10b1 : (t189 != 0) = true := bne_iff_ne.mpr c10
     obtain rfl := Option.some.inj H
     go_enter Tryd.func3, Tryd.ntmps3
     go_wp2_with (first | ((with_reducible refine gate_callee (f := 8) rfl ?_); refine goesL_ (some 8) rfl rfl Tryd.func8 (by kernel_rfl) rfl #[.slice A0 l0.length c0] rfl (by (try simp only [List.map_toArray, List.map_cons, List.map_nil]); first | done | rfl | (simp only [List.length_drop, List.length_take]; rfl)) ?_; (with_reducible refine (exequaturlaw24_small.calls _ _ l0 true _ ?side1 ?side2 A2.out).mono ?_); (case side1 => repeat (first | exact HR0.out | (with_reducible refine Kd.C_alloc ?_ _) | (with_reducible refine Kd.C_drewN ?_ _) | (with_reducible refine Kd.C_drew ?_))); (case side2 => exact HC0.out); rintro e w25 ⟨rfl, hb⟩; refine ⟨_, rfl, ?_⟩; have n0_ := Aside0.mk (below_step (by repeat (first | (with_reducible first | exact HB.out | apply below_alloc | apply pw_below_drewN | apply below_drew1) | exact HB.out)) hb); clear HB; have HB := n0_; clear n0_; (try clear hb); (try clear hb2); (try clear hk); (try clear hi)) | ((with_reducible refine gate_callee (f := 10) rfl ?_); refine goesL_ (some 12) rfl rfl Tryd.func10 (by kernel_rfl) rfl #[.slice A0 l0.length c0] rfl (by (try simp only [List.map_toArray, List.map_cons, List.map_nil]); first | done | rfl | (simp only [List.length_drop, List.length_take]; rfl)) ?_; (with_reducible refine (script_Print.calls _ _ l0 t184 _ ?side1 ?side2 A4.out (hG := GOK.below hG (by repeat (first | (with_reducible first | exact HB.out | apply below_alloc | apply pw_below_drewN | apply below_drew1) | exact HB.out)))).mono ?_); (case side1 => repeat (first | exact (Kd.C_below HR0.out HB.out) | (with_reducible refine Kd.C_alloc ?_ _) | (with_reducible refine Kd.C_drewN ?_ _) | (with_reducible refine Kd.C_drew ?_))); (case side2 => exact HC0.out); rintro e w26 ⟨rfl, hb⟩; refine ⟨_, rfl, ?_⟩; have n0_ := Aside0.mk (below_step (by repeat (first | (with_reducible first | exact HB.out | apply below_alloc | apply pw_below_drewN | apply below_drew1) | exact HB.out)) hb); clear HB; have HB := n0_; clear n0_; (try clear hb); (try clear hb2); (try clear hk); (try clear hi)) | ((with_reducible refine gate_callee (f := 11) rfl ?_); refine goesL_ (some 15) rfl rfl Tryd.func11 (by kernel_rfl) rfl #[.string t184] rfl (by (try simp only [List.map_toArray, List.map_cons, List.map_nil]); first | done | rfl | (simp only [List.length_drop, List.length_take]; rfl)) ?_; (with_reducible refine (script_Parse.calls k t184 t185 t188 t189 _ A5.out (hG := GOK.below hG (by repeat (first | (with_reducible first | exact HB.out | apply below_alloc | apply pw_below_drewN | apply below_drew1) | exact HB.out)))).mono ?_); rintro e w27 ⟨v186, rfl, ho0, hb⟩; refine ⟨_, rfl, ?_⟩; have n0_ := Aside0.mk (Kd.N_lower (Kd.N_mono (ok' := fun k_ => True) ho0 (fun k_ hk_ => trivial)) (below_size (by repeat (first | (with_reducible first | exact HB.out | apply below_alloc | apply pw_below_drewN | apply below_drew1) | exact HB.out)))); have n1_ := Aside0.mk (below_step (by repeat (first | (with_reducible first | exact HB.out | apply below_alloc | apply pw_below_drewN | apply below_drew1) | exact HB.out)) hb); clear HB; have HO187 := n0_; have HB := n1_; clear n0_ n1_; (try clear hb); (try clear hb2); (try clear hk); (try clear hi); (try clear ho0)) | ((with_reducible refine gate_callee (f := 9) rfl ?_); refine goesL_ (some 19) rfl rfl Tryd.func9 (by kernel_rfl) rfl #[] rfl (by (try simp only [List.map_toArray, List.map_cons, List.map_nil]); first | done | rfl | (simp only [List.length_drop, List.length_take]; rfl)) ?_; (with_reducible refine (exequaturlaw24_answers.calls k  true _ A6.out (hG := GOK.below hG (by repeat (first | (with_reducible first | exact HB.out | apply below_alloc | apply pw_below_drewN | apply below_drew1) | exact HB.out)))).mono ?_); rintro e w28 ⟨rfl, hb⟩; refine ⟨_, rfl, ?_⟩; have n0_ := Aside0.mk (Kd.N_below (by (with_reducible repeat (first | apply Kd.N_alloc | apply Kd.N_drewN | apply Kd.N_drew)); exact HO187.out) hb); have n1_ := Aside0.mk (below_step (by repeat (first | (with_reducible first | exact HB.out | apply below_alloc | apply pw_below_drewN | apply below_drew1) | exact HB.out)) hb); clear HO187; clear HB; have HO187 := n0_; have HB := n1_; clear n0_ n1_; (try clear hb); (try clear hb2); (try clear hk); (try clear hi)) | (go_at_call 12; (with_reducible refine (exequaturlaw24_text.calls k _ _ l0 t191 _ ?side1 ?side2 A8.out).mono ?_); (case side1 => repeat (first | exact (Kd.C_below HR0.out HB.out) | (with_reducible refine Kd.C_alloc ?_ _) | (with_reducible refine Kd.C_drewN ?_ _) | (with_reducible refine Kd.C_drew ?_))); (case side2 => exact HC0.out); rintro e w29 ⟨rfl, hb⟩; have n0_ := Aside0.mk (Kd.N_below (by (with_reducible repeat (first | apply Kd.N_alloc | apply Kd.N_drewN | apply Kd.N_drew)); exact HO187.out) hb); have n1_ := Aside0.mk (below_step (by repeat (first | (with_reducible first | exact HB.out | apply below_alloc | apply pw_below_drewN | apply below_drew1) | exact HB.out)) hb); clear HO187; clear HB; have HO187 := n0_; have HB := n1_; clear n0_ n1_; (try clear hb); (try clear hb2); (try clear hk); (try clear hi)))
     go_ret
     first | (exact ⟨by first | rfl | (simp [errW_none, errW_some] <;> rfl) | (simp [*, errW_none, errW_some] <;> rfl), by repeat (first | (with_reducible first | exact HB.out | apply below_alloc | apply pw_below_drewN | apply below_drew1) | exact HB.out)⟩) | (focus (exfalso; simp_all; done))
     all_goals (first | (exfalso; simp_all <;> omega) | (go_ret; exact ⟨by first | rfl | (simp [errW_none, errW_some] <;> rfl) | (simp [*, errW_none, errW_some] <;> rfl), by repeat (first | (with_reducible first | exact HB.out | apply below_alloc | apply pw_below_drewN | apply below_drew1) | exact HB.out)⟩))
   ·rw [if_neg c9] at H
    have c9b0 : (t184.toList == t191.toList) = false := beq_eq_false_iff_ne.mpr c9
    have c9b1 : (t184.toList != t191.toList) = true := bne_iff_ne.mpr c9
    obtain rfl := Option.some.inj H
    go_enter Tryd.func3, Tryd.ntmps3
    go_wp2_with (first | ((with_reducible refine gate_callee (f := 8) rfl ?_); refine goesL_ (some 8) rfl rfl Tryd.func8 (by kernel_rfl) rfl #[.slice A0 l0.length c0] rfl (by (try simp only [List.map_toArray, List.map_cons, List.map_nil]); first | done | rfl | (simp only [List.length_drop, List.length_take]; rfl)) ?_; (with_reducible refine (exequaturlaw24_small.calls _ _ l0 true _ ?side1 ?side2 A2.out).mono ?_); (case side1 => repeat (first | exact HR0.out | (with_reducible refine Kd.C_alloc ?_ _) | (with_reducible refine Kd.C_drewN ?_ _) | (with_reducible refine Kd.C_drew ?_))); (case side2 => exact HC0.out); rintro e w30 ⟨rfl, hb⟩; refine ⟨_, rfl, ?_⟩; have n0_ := Aside0.mk (below_step (by repeat (first | (with_reducible first | exact HB.out | apply below_alloc | apply pw_below_drewN | apply below_drew1) | exact HB.out)) hb); clear HB; have HB := n0_; clear n0_; (try clear hb); (try clear hb2); (try clear hk); (try clear hi)) | ((with_reducible refine gate_callee (f := 10) rfl ?_); refine goesL_ (some 12) rfl rfl Tryd.func10 (by kernel_rfl) rfl #[.slice A0 l0.length c0] rfl (by (try simp only [List.map_toArray, List.map_cons, List.map_nil]); first | done | rfl | (simp only [List.length_drop, List.length_take]; rfl)) ?_; (with_reducible refine (script_Print.calls _ _ l0 t184 _ ?side1 ?side2 A4.out (hG := GOK.below hG (by repeat (first | (with_reducible first | exact HB.out | apply below_alloc | apply pw_below_drewN | apply below_drew1) | exact HB.out)))).mono ?_); (case side1 => repeat (first | exact (Kd.C_below HR0.out HB.out) | (with_reducible refine Kd.C_alloc ?_ _) | (with_reducible refine Kd.C_drewN ?_ _) | (with_reducible refine Kd.C_drew ?_))); (case side2 => exact HC0.out); rintro e w31 ⟨rfl, hb⟩; refine ⟨_, rfl, ?_⟩; have n0_ := Aside0.mk (below_step (by repeat (first | (with_reducible first | exact HB.out | apply below_alloc | apply pw_below_drewN | apply below_drew1) | exact HB.out)) hb); clear HB; have HB := n0_; clear n0_; (try clear hb); (try clear hb2); (try clear hk); (try clear hi)) | ((with_reducible refine gate_callee (f := 11) rfl ?_); refine goesL_ (some 15) rfl rfl Tryd.func11 (by kernel_rfl) rfl #[.string t184] rfl (by (try simp only [List.map_toArray, List.map_cons, List.map_nil]); first | done | rfl | (simp only [List.length_drop, List.length_take]; rfl)) ?_; (with_reducible refine (script_Parse.calls k t184 t185 t188 t189 _ A5.out (hG := GOK.below hG (by repeat (first | (with_reducible first | exact HB.out | apply below_alloc | apply pw_below_drewN | apply below_drew1) | exact HB.out)))).mono ?_); rintro e w32 ⟨v186, rfl, ho0, hb⟩; refine ⟨_, rfl, ?_⟩; have n0_ := Aside0.mk (Kd.N_lower (Kd.N_mono (ok' := fun k_ => True) ho0 (fun k_ hk_ => trivial)) (below_size (by repeat (first | (with_reducible first | exact HB.out | apply below_alloc | apply pw_below_drewN | apply below_drew1) | exact HB.out)))); have n1_ := Aside0.mk (below_step (by repeat (first | (with_reducible first | exact HB.out | apply below_alloc | apply pw_below_drewN | apply below_drew1) | exact HB.out)) hb); clear HB; have HO187 := n0_; have HB := n1_; clear n0_ n1_; (try clear hb); (try clear hb2); (try clear hk); (try clear hi); (try clear ho0)) | ((with_reducible refine gate_callee (f := 9) rfl ?_); refine goesL_ (some 19) rfl rfl Tryd.func9 (by kernel_rfl) rfl #[] rfl (by (try simp only [List.map_toArray, List.map_cons, List.map_nil]); first | done | rfl | (simp only [List.length_drop, List.length_take]; rfl)) ?_; (with_reducible refine (exequaturlaw24_answers.calls k  true _ A6.out (hG := GOK.below hG (by repeat (first | (with_reducible first | exact HB.out | apply below_alloc | apply pw_below_drewN | apply below_drew1) | exact HB.out)))).mono ?_); rintro e w33 ⟨rfl, hb⟩; refine ⟨_, rfl, ?_⟩; have n0_ := Aside0.mk (Kd.N_below (by (with_reducible repeat (first | apply Kd.N_alloc | apply Kd.N_drewN | apply Kd.N_drew)); exact HO187.out) hb); have n1_ := Aside0.mk (below_step (by repeat (first | (with_reducible first | exact HB.out | apply below_alloc | apply pw_below_drewN | apply below_drew1) | exact HB.out)) hb); clear HO187; clear HB; have HO187 := n0_; have HB := n1_; clear n0_ n1_; (try clear hb); (try clear hb2); (try clear hk); (try clear hi)) | (go_at_call 12; (with_reducible refine (exequaturlaw24_text.calls k _ _ l0 t191 _ ?side1 ?side2 A8.out).mono ?_); (case side1 => repeat (first | exact (Kd.C_below HR0.out HB.out) | (with_reducible refine Kd.C_alloc ?_ _) | (with_reducible refine Kd.C_drewN ?_ _) | (with_reducible refine Kd.C_drew ?_))); (case side2 => exact HC0.out); rintro e w34 ⟨rfl, hb⟩; have n0_ := Aside0.mk (Kd.N_below (by (with_reducible repeat (first | apply Kd.N_alloc | apply Kd.N_drewN | apply Kd.N_drew)); exact HO187.out) hb); have n1_ := Aside0.mk (below_step (by repeat (first | (with_reducible first | exact HB.out | apply below_alloc | apply pw_below_drewN | apply below_drew1) | exact HB.out)) hb); clear HO187; clear HB; have HO187 := n0_; have HB := n1_; clear n0_ n1_; (try clear hb); (try clear hb2); (try clear hk); (try clear hi)))
    go_ret
    first | (exact ⟨by first | rfl | (simp [errW_none, errW_some] <;> rfl) | (simp [*, errW_none, errW_some] <;> rfl), by repeat (first | (with_reducible first | exact HB.out | apply below_alloc | apply pw_below_drewN | apply below_drew1) | exact HB.out)⟩) | (focus (exfalso; simp_all; done))
    all_goals (first | (exfalso; simp_all <;> omega) | (go_ret; exact ⟨by first | rfl | (simp [errW_none, errW_some] <;> rfl) | (simp [*, errW_none, errW_some] <;> rfl), by repeat (first | (with_reducible first | exact HB.out | apply below_alloc | apply pw_below_drewN | apply below_drew1) | exact HB.out)⟩))
  ·replace c7 := Bool.eq_false_iff.mpr c7
   subst c7
   have H1 : (some false) = some r := by rw [if_neg (show ¬ (false = true) by decide)] at H; exact H
   clear H
   have H := H1
   clear H1
   obtain rfl := Option.some.inj H
   go_enter Tryd.func3, Tryd.ntmps3
   go_wp2_with (first | ((with_reducible refine gate_callee (f := 8) rfl ?_); refine goesL_ (some 8) rfl rfl Tryd.func8 (by kernel_rfl) rfl #[.slice A0 l0.length c0] rfl (by (try simp only [List.map_toArray, List.map_cons, List.map_nil]); first | done | rfl | (simp only [List.length_drop, List.length_take]; rfl)) ?_; (with_reducible refine (exequaturlaw24_small.calls _ _ l0 true _ ?side1 ?side2 A2.out).mono ?_); (case side1 => repeat (first | exact HR0.out | (with_reducible refine Kd.C_alloc ?_ _) | (with_reducible refine Kd.C_drewN ?_ _) | (with_reducible refine Kd.C_drew ?_))); (case side2 => exact HC0.out); rintro e w35 ⟨rfl, hb⟩; refine ⟨_, rfl, ?_⟩; have n0_ := Aside0.mk (below_step (by repeat (first | (with_reducible first | exact HB.out | apply below_alloc | apply pw_below_drewN | apply below_drew1) | exact HB.out)) hb); clear HB; have HB := n0_; clear n0_; (try clear hb); (try clear hb2); (try clear hk); (try clear hi)) | ((with_reducible refine gate_callee (f := 10) rfl ?_); refine goesL_ (some 12) rfl rfl Tryd.func10 (by kernel_rfl) rfl #[.slice A0 l0.length c0] rfl (by (try simp only [List.map_toArray, List.map_cons, List.map_nil]); first | done | rfl | (simp only [List.length_drop, List.length_take]; rfl)) ?_; (with_reducible refine (script_Print.calls _ _ l0 t184 _ ?side1 ?side2 A4.out (hG := GOK.below hG (by repeat (first | (with_reducible first | exact HB.out | apply below_alloc | apply pw_below_drewN | apply below_drew1) | exact HB.out)))).mono ?_); (case side1 => repeat (first | exact (Kd.C_below HR0.out HB.out) | (with_reducible refine Kd.C_alloc ?_ _) | (with_reducible refine Kd.C_drewN ?_ _) | (with_reducible refine Kd.C_drew ?_))); (case side2 => exact HC0.out); rintro e w36 ⟨rfl, hb⟩; refine ⟨_, rfl, ?_⟩; have n0_ := Aside0.mk (below_step (by repeat (first | (with_reducible first | exact HB.out | apply below_alloc | apply pw_below_drewN | apply below_drew1) | exact HB.out)) hb); clear HB; have HB := n0_; clear n0_; (try clear hb); (try clear hb2); (try clear hk); (try clear hi)) | ((with_reducible refine gate_callee (f := 11) rfl ?_); refine goesL_ (some 15) rfl rfl Tryd.func11 (by kernel_rfl) rfl #[.string t184] rfl (by (try simp only [List.map_toArray, List.map_cons, List.map_nil]); first | done | rfl | (simp only [List.length_drop, List.length_take]; rfl)) ?_; (with_reducible refine (script_Parse.calls k t184 t185 t188 t189 _ A5.out (hG := GOK.below hG (by repeat (first | (with_reducible first | exact HB.out | apply below_alloc | apply pw_below_drewN | apply below_drew1) | exact HB.out)))).mono ?_); rintro e w37 ⟨v186, rfl, ho0, hb⟩; refine ⟨_, rfl, ?_⟩; have n0_ := Aside0.mk (Kd.N_lower (Kd.N_mono (ok' := fun k_ => True) ho0 (fun k_ hk_ => trivial)) (below_size (by repeat (first | (with_reducible first | exact HB.out | apply below_alloc | apply pw_below_drewN | apply below_drew1) | exact HB.out)))); have n1_ := Aside0.mk (below_step (by repeat (first | (with_reducible first | exact HB.out | apply below_alloc | apply pw_below_drewN | apply below_drew1) | exact HB.out)) hb); clear HB; have HO187 := n0_; have HB := n1_; clear n0_ n1_; (try clear hb); (try clear hb2); (try clear hk); (try clear hi); (try clear ho0)) | ((with_reducible refine gate_callee (f := 9) rfl ?_); refine goesL_ (some 19) rfl rfl Tryd.func9 (by kernel_rfl) rfl #[] rfl (by (try simp only [List.map_toArray, List.map_cons, List.map_nil]); first | done | rfl | (simp only [List.length_drop, List.length_take]; rfl)) ?_; (with_reducible refine (exequaturlaw24_answers.calls k  false _ A6.out (hG := GOK.below hG (by repeat (first | (with_reducible first | exact HB.out | apply below_alloc | apply pw_below_drewN | apply below_drew1) | exact HB.out)))).mono ?_); rintro e w38 ⟨rfl, hb⟩; refine ⟨_, rfl, ?_⟩; have n0_ := Aside0.mk (Kd.N_below (by (with_reducible repeat (first | apply Kd.N_alloc | apply Kd.N_drewN | apply Kd.N_drew)); exact HO187.out) hb); have n1_ := Aside0.mk (below_step (by repeat (first | (with_reducible first | exact HB.out | apply below_alloc | apply pw_below_drewN | apply below_drew1) | exact HB.out)) hb); clear HO187; clear HB; have HO187 := n0_; have HB := n1_; clear n0_ n1_; (try clear hb); (try clear hb2); (try clear hk); (try clear hi)))
   go_ret
   first | (exact ⟨by first | rfl | (simp [errW_none, errW_some] <;> rfl) | (simp [*, errW_none, errW_some] <;> rfl), by repeat (first | (with_reducible first | exact HB.out | apply below_alloc | apply pw_below_drewN | apply below_drew1) | exact HB.out)⟩) | (focus (exfalso; simp_all; done))
   all_goals (first | (exfalso; simp_all <;> omega) | (go_ret; exact ⟨by first | rfl | (simp [errW_none, errW_some] <;> rfl) | (simp [*, errW_none, errW_some] <;> rfl), by repeat (first | (with_reducible first | exact HB.out | apply below_alloc | apply pw_below_drewN | apply below_drew1) | exact HB.out)⟩))
 ·replace c3 := Bool.eq_false_iff.mpr c3
  subst c3
  have H1 : ((exequaturlaw24_answers.f k).bind fun t183 => (some t183)) = some r := by rw [if_neg (show ¬ (false = true) by decide)] at H; exact H
  clear H
  have H := H1
  clear H1
  replace H := Option.bind_eq_some_iff.mp H
  obtain ⟨t183, A390, H⟩ := H
  replace H : (some t183) = some r := H
  have A39 := Aside0.mk A390
  clear A390
  obtain rfl := Option.some.inj H
  go_enter Tryd.func3, Tryd.ntmps3
  go_wp2_with (first | ((with_reducible refine gate_callee (f := 8) rfl ?_); refine goesL_ (some 8) rfl rfl Tryd.func8 (by kernel_rfl) rfl #[.slice A0 l0.length c0] rfl (by (try simp only [List.map_toArray, List.map_cons, List.map_nil]); first | done | rfl | (simp only [List.length_drop, List.length_take]; rfl)) ?_; (with_reducible refine (exequaturlaw24_small.calls _ _ l0 false _ ?side1 ?side2 A2.out).mono ?_); (case side1 => repeat (first | exact HR0.out | (with_reducible refine Kd.C_alloc ?_ _) | (with_reducible refine Kd.C_drewN ?_ _) | (with_reducible refine Kd.C_drew ?_))); (case side2 => exact HC0.out); rintro e w40 ⟨rfl, hb⟩; refine ⟨_, rfl, ?_⟩; have n0_ := Aside0.mk (below_step (by repeat (first | (with_reducible first | exact HB.out | apply below_alloc | apply pw_below_drewN | apply below_drew1) | exact HB.out)) hb); clear HB; have HB := n0_; clear n0_; (try clear hb); (try clear hb2); (try clear hk); (try clear hi)) | ((with_reducible refine gate_callee (f := 9) rfl ?_); refine goesL_ (some 10) rfl rfl Tryd.func9 (by kernel_rfl) rfl #[] rfl (by (try simp only [List.map_toArray, List.map_cons, List.map_nil]); first | done | rfl | (simp only [List.length_drop, List.length_take]; rfl)) ?_; (with_reducible refine (exequaturlaw24_answers.calls k  t183 _ A39.out (hG := GOK.below hG (by repeat (first | (with_reducible first | exact HB.out | apply below_alloc | apply pw_below_drewN | apply below_drew1) | exact HB.out)))).mono ?_); rintro e w41 ⟨rfl, hb⟩; refine ⟨_, rfl, ?_⟩; have n0_ := Aside0.mk (below_step (by repeat (first | (with_reducible first | exact HB.out | apply below_alloc | apply pw_below_drewN | apply below_drew1) | exact HB.out)) hb); clear HB; have HB := n0_; clear n0_; (try clear hb); (try clear hb2); (try clear hk); (try clear hi)))
  go_ret
  first | (exact ⟨by first | rfl | (simp [errW_none, errW_some] <;> rfl) | (simp [*, errW_none, errW_some] <;> rfl), by repeat (first | (with_reducible first | exact HB.out | apply below_alloc | apply pw_below_drewN | apply below_drew1) | exact HB.out)⟩) | (focus (exfalso; simp_all; done))
  all_goals (first | (exfalso; simp_all <;> omega) | (go_ret; exact ⟨by first | rfl | (simp [errW_none, errW_some] <;> rfl) | (simp [*, errW_none, errW_some] <;> rfl), by repeat (first | (with_reducible first | exact HB.out | apply below_alloc | apply pw_below_drewN | apply below_drew1) | exact HB.out)⟩))

end Go.Proofs.YtjfajkdamechiaaDoor.X
