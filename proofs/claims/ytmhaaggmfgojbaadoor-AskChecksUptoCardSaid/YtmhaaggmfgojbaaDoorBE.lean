import Derived.Test.YtmhaaggmfgojbaaDoorX0
import Derived.Test.YtmhaaggmfgojbaaDoorBC
import Derived.Test.YtmhaaggmfgojbaaDoorBG
import Derived.Test.YtmhaaggmfgojbaaDoorBD
/-! X10 -/
-- Lean text made by xprint.py (ours) out of the seat's translation. Lean checks it.
namespace Go.Proofs.YtmhaaggmfgojbaaDoor.X
open Go.RowKit Go.Proofs.YtmhaaggmfgojbaaDoorW.PrintWords Go.Proofs.YtmhaaggmfgojbaaDoorW.PrintLast Go.Proofs.YtmhaaggmfgojbaaDoorW.PrintMore
attribute [local go_sem] max2_int min2_int max_two min_two max_three min_three max_four min_four   -- for this text's walks alone
set_option linter.unusedVariables false
set_option linter.unusedSimpArgs false

/-! ### exequaturref01_hex: function 51 -/
mutual
def exequaturref01_hex.j0 : Nat → Int → Bool → Option (Int)
  | 0, _, _ => none
  | k + 1, x0, x3 => if x3 = true then (some ((x0 - 48) % 256)) else (if x0 ≥ 97 then (exequaturref01_hex.j1 k x0 (decide (x0 ≤ 102))) else (exequaturref01_hex.j1 k x0 false))
def exequaturref01_hex.j1 : Nat → Int → Bool → Option (Int)
  | 0, _, _ => none
  | k + 1, x0, x13 => if x13 = true then (some (((x0 - 97) % 256) + 10)) else (if x0 ≥ 65 then (if x0 ≤ 70 then (some (((x0 - 65) % 256) + 10)) else (some (-1))) else (some (-1)))
end
def exequaturref01_hex.f (k : Nat) (a0 : Int) : Option (Int) := if a0 ≥ 48 then (exequaturref01_hex.j0 k a0 (decide (a0 ≤ 57))) else (exequaturref01_hex.j0 k a0 false)
theorem exequaturref01_hex.mono_l : ∀ k, (∀ y0 y1, LeO (exequaturref01_hex.j0 k y0 y1) (exequaturref01_hex.j0 (k + 1) y0 y1)) ∧ (∀ y0 y1, LeO (exequaturref01_hex.j1 k y0 y1) (exequaturref01_hex.j1 (k + 1) y0 y1))
  | 0 => ⟨fun _ _ r h => by simp [exequaturref01_hex.j0] at h, fun _ _ r h => by simp [exequaturref01_hex.j1] at h⟩
  | k + 1 => by
    obtain ⟨ih0, ih1⟩ := exequaturref01_hex.mono_l k
    refine ⟨?_, ?_⟩
    · intro y0 y1
      unfold exequaturref01_hex.j0
      repeat' first
      | (with_reducible exact ih0 _ _)
      | (with_reducible exact ih1 _ _)
      | (with_reducible exact LeO.refl _)
      | (with_reducible exact LeO.none _)
      | (with_reducible refine LeO.ite ?_ ?_)
      | (with_reducible refine LeO.bind ?_ (fun _ => ?_))
      | exact ih0 _ _
      | exact ih1 _ _
      | exact LeO.none _
      | refine LeO.ite ?_ ?_
      | refine LeO.bind ?_ (fun _ => ?_)
    · intro y0 y1
      unfold exequaturref01_hex.j1
      repeat' first
      | (with_reducible exact ih0 _ _)
      | (with_reducible exact ih1 _ _)
      | (with_reducible exact LeO.refl _)
      | (with_reducible exact LeO.none _)
      | (with_reducible refine LeO.ite ?_ ?_)
      | (with_reducible refine LeO.bind ?_ (fun _ => ?_))
      | exact ih0 _ _
      | exact ih1 _ _
      | exact LeO.none _
      | refine LeO.ite ?_ ?_
      | refine LeO.bind ?_ (fun _ => ?_)
theorem exequaturref01_hex.mono : ∀ a0 k, LeO (exequaturref01_hex.f k a0) (exequaturref01_hex.f (k + 1) a0) := by
  intro a0 k
  obtain ⟨ih0, ih1⟩ := exequaturref01_hex.mono_l k
  unfold exequaturref01_hex.f
  repeat' first
      | (with_reducible exact ih0 _ _)
      | (with_reducible exact ih1 _ _)
      | (with_reducible exact LeO.refl _)
      | (with_reducible exact LeO.none _)
      | (with_reducible refine LeO.ite ?_ ?_)
      | (with_reducible refine LeO.bind ?_ (fun _ => ?_))
      | exact ih0 _ _
      | exact ih1 _ _
      | exact LeO.none _
      | refine LeO.ite ?_ ?_
      | refine LeO.bind ?_ (fun _ => ?_)
set_option maxHeartbeats 8000000 in
set_option maxRecDepth 100000 in
theorem exequaturref01_hex.calls (k : Nat) (a0 : Int) (r : Int) (w : World) (h : exequaturref01_hex.f k a0 = some r) :
  Calls Tryd.prog 51 #[.int .u8 a0] w fun e w' => e = .returned (.int .i64 r) ∧ Drawn0 w w' := by
 have H : (if a0 ≥ 48 then (exequaturref01_hex.j0 k a0 (decide (a0 ≤ 57))) else (exequaturref01_hex.j0 k a0 false)) = some r := h
 clear h
 have HC2 := Aside0.mk H
 clear H
 go_enter Tryd.func51, Tryd.ntmps51
 go_upto_region 1 with (fail)
 go_cut [3] (fun v3 wc => ∃ (kq : Nat) (x3_1 : Bool), v3 = .bool x3_1 ∧ Aside0 (exequaturref01_hex.j0 kq a0 x3_1 = some r) ∧ Aside0 (kq ≤ k) ∧ Drawn0 w wc)
 case first =>
  have H := HC2.out
  clear HC2
  by_cases c3 : a0 ≥ 48
  ·rw [if_pos c3] at H
   have c3b0 : decide (48 ≤ a0) = true := decide_eq_true c3
   clear c3
   (first | rw [c3b0] | (simp only [i64_w, i32_w]; rw [c3b0]) | skip)
   have H' := Aside0.mk H
   clear H
   go_wp2
   go_meet
   case rel => exact ⟨_, (decide (a0 ≤ 57)), (by first | rfl | (simp; done) | (simp [*]; done) | (refine congrArg Value.bool ?_; rw [Bool.eq_iff_iff]; simp; done)), H', ⟨by first | omega | exact Nat.le_refl _⟩, by repeat (first | exact Drawn0.refl _ | apply Drawn0.step)⟩
  ·rw [if_neg c3] at H
   have c3b0 : decide (48 ≤ a0) = false := decide_eq_false c3
   clear c3
   (first | rw [c3b0] | (simp only [i64_w, i32_w]; rw [c3b0]) | skip)
   have H' := Aside0.mk H
   clear H
   go_wp2
   go_meet
   case rel => exact ⟨_, (false), (by first | rfl | (simp; done) | (simp [*]; done) | (refine congrArg Value.bool ?_; rw [Bool.eq_iff_iff]; simp; done)), H', ⟨by first | omega | exact Nat.le_refl _⟩, by repeat (first | exact Drawn0.refl _ | apply Drawn0.step)⟩
 case rest =>
  clear HC2; try clear p2; try clear c3; try clear c3b0
  obtain ⟨kq, x3_1, rfl, HA, HJ1, ⟨mc1, rfl⟩⟩ := hcut
  cases kq with
  | zero => exact absurd HA.out (by simp [exequaturref01_hex.j0])
  | succ kj1 =>
   have H := HA.out
   clear HA
   simp only [exequaturref01_hex.j0] at H
   by_cases c4 : x3_1 = true
   ·subst c4
    have H1 : (some ((a0 - 48) % 256)) = some r := by rw [if_pos rfl] at H; exact H
    clear H
    have H := H1
    clear H1
    obtain rfl := Option.some.inj H
    go_wp2
    go_ret
    exact ⟨by first | rfl | (simp; done) | (simp [*]; done) | (refine congrArg Value.bool ?_; rw [Bool.eq_iff_iff]; simp; done), by repeat (first | exact Drawn0.refl _ | apply Drawn0.step)⟩
   ·replace c4 := Bool.eq_false_iff.mpr c4
    subst c4
    have H1 : (if a0 ≥ 97 then (exequaturref01_hex.j1 kj1 a0 (decide (a0 ≤ 102))) else (exequaturref01_hex.j1 kj1 a0 false)) = some r := by rw [if_neg (show ¬ (false = true) by decide)] at H; exact H
    clear H
    have H := H1
    clear H1
    have HC5 := Aside0.mk H
    clear H
    go_upto_region 3 with (fail)
    go_cut [13] (fun v13 wc => ∃ (kq : Nat) (x13_4 : Bool), v13 = .bool x13_4 ∧ Aside0 (exequaturref01_hex.j1 kq a0 x13_4 = some r) ∧ Aside0 (kq ≤ kj1) ∧ Drawn0 w wc)
    case first =>
     have H := HC5.out
     clear HC5
     by_cases c6 : a0 ≥ 97
     ·rw [if_pos c6] at H
      have c6b0 : decide (97 ≤ a0) = true := decide_eq_true c6
      clear c6
      (first | rw [c6b0] | (simp only [i64_w, i32_w]; rw [c6b0]) | skip)
      have H' := Aside0.mk H
      clear H
      go_wp2
      go_meet
      case rel => exact ⟨_, (decide (a0 ≤ 102)), (by first | rfl | (simp; done) | (simp [*]; done) | (refine congrArg Value.bool ?_; rw [Bool.eq_iff_iff]; simp; done)), H', ⟨by have := HJ1.out; first | omega | exact Nat.le_refl _⟩, by repeat (first | exact Drawn0.refl _ | apply Drawn0.step)⟩
     ·rw [if_neg c6] at H
      have c6b0 : decide (97 ≤ a0) = false := decide_eq_false c6
      clear c6
      (first | rw [c6b0] | (simp only [i64_w, i32_w]; rw [c6b0]) | skip)
      have H' := Aside0.mk H
      clear H
      go_wp2
      go_meet
      case rel => exact ⟨_, (false), (by first | rfl | (simp; done) | (simp [*]; done) | (refine congrArg Value.bool ?_; rw [Bool.eq_iff_iff]; simp; done)), H', ⟨by have := HJ1.out; first | omega | exact Nat.le_refl _⟩, by repeat (first | exact Drawn0.refl _ | apply Drawn0.step)⟩
    case rest =>
     clear HC5; try clear c1; try clear p2; try clear c3; try clear c3b0; try clear c4; try clear c5; try clear c6; try clear c6b0; try clear p2
     obtain ⟨kq, x13_4, rfl, HA, HJ4, ⟨mc4, rfl⟩⟩ := hcut
     cases kq with
     | zero => exact absurd HA.out (by simp [exequaturref01_hex.j1])
     | succ kj4 =>
      have H := HA.out
      clear HA
      simp only [exequaturref01_hex.j1] at H
      by_cases c7 : x13_4 = true
      ·subst c7
       have H1 : (some (((a0 - 97) % 256) + 10)) = some r := by rw [if_pos rfl] at H; exact H
       clear H
       have H := H1
       clear H1
       obtain rfl := Option.some.inj H
       go_wp2
       go_ret
       exact ⟨by first | rfl | (simp; done) | (simp [*]; done) | (refine congrArg Value.bool ?_; rw [Bool.eq_iff_iff]; simp; done), by repeat (first | exact Drawn0.refl _ | apply Drawn0.step)⟩
      ·replace c7 := Bool.eq_false_iff.mpr c7
       subst c7
       have H1 : (if a0 ≥ 65 then (if a0 ≤ 70 then (some (((a0 - 65) % 256) + 10)) else (some (-1))) else (some (-1))) = some r := by rw [if_neg (show ¬ (false = true) by decide)] at H; exact H
       clear H
       have H := H1
       clear H1
       by_cases c8 : a0 ≥ 65
       ·rw [if_pos c8] at H
        have c8b0 : decide (65 ≤ a0) = true := decide_eq_true c8
        clear c8
        by_cases c9 : a0 ≤ 70
        ·rw [if_pos c9] at H
         have c9b0 : decide (a0 ≤ 70) = true := decide_eq_true c9
         clear c9
         obtain rfl := Option.some.inj H
         go_wp2
         go_ret
         exact ⟨by first | rfl | (simp; done) | (simp [*]; done) | (refine congrArg Value.bool ?_; rw [Bool.eq_iff_iff]; simp; done), by repeat (first | exact Drawn0.refl _ | apply Drawn0.step)⟩
        ·rw [if_neg c9] at H
         have c9b0 : decide (a0 ≤ 70) = false := decide_eq_false c9
         clear c9
         obtain rfl := Option.some.inj H
         go_wp2
         go_ret
         exact ⟨by first | rfl | (simp; done) | (simp [*]; done) | (refine congrArg Value.bool ?_; rw [Bool.eq_iff_iff]; simp; done), by repeat (first | exact Drawn0.refl _ | apply Drawn0.step)⟩
       ·rw [if_neg c8] at H
        have c8b0 : decide (65 ≤ a0) = false := decide_eq_false c8
        clear c8
        obtain rfl := Option.some.inj H
        go_wp2
        go_ret
        exact ⟨by first | rfl | (simp; done) | (simp [*]; done) | (refine congrArg Value.bool ?_; rw [Bool.eq_iff_iff]; simp; done), by repeat (first | exact Drawn0.refl _ | apply Drawn0.step)⟩

/-! ### exequaturref01_Unquote: function 42 -/
mutual
def exequaturref01_Unquote.l0 : Nat → ByteArray → List Int → Int → Option (ByteArray × Bool)
  | 0, _, _, _ => none
  | k + 1, x0, x4, x5 => if x5 < (x0.size : Int) then (if 0 ≤ x5 then (if (bt x0 x5) = 43 then (exequaturref01_Unquote.j1 k x0 x4 x5 32) else (exequaturref01_Unquote.j1 k x0 x4 x5 (bt x0 x5))) else (none)) else (some (strOfNums x4, true))
def exequaturref01_Unquote.j1 : Nat → ByteArray → List Int → Int → Int → Option (ByteArray × Bool)
  | 0, _, _, _, _ => none
  | k + 1, x0, x4, x5, x6 => if 0 ≤ x5 then (if x5 < (x0.size : Int) then (if (bt x0 x5) = 37 then (if (wrap64 (x5 + 2)) ≥ (x0.size : Int) then (exequaturref01_Unquote.j2 k x0 x4 x5 true) else (if 0 ≤ (wrap64 (x5 + 1)) then (if (wrap64 (x5 + 1)) < (x0.size : Int) then ((exequaturref01_hex.f k (bt x0 (wrap64 (x5 + 1)))).bind fun t146 => (if t146 < 0 then (exequaturref01_Unquote.j2 k x0 x4 x5 true) else (if 0 ≤ (wrap64 (x5 + 2)) then (if (wrap64 (x5 + 2)) < (x0.size : Int) then ((exequaturref01_hex.f k (bt x0 (wrap64 (x5 + 2)))).bind fun t147 => (exequaturref01_Unquote.j2 k x0 x4 x5 (decide (t147 < 0)))) else (none)) else (none)))) else (none)) else (none))) else (if x4.length < 140737488355328 then (exequaturref01_Unquote.l0 k x0 (x4 ++ [x6]) (wrap64 (x5 + 1))) else (none))) else (none)) else (none)
def exequaturref01_Unquote.j2 : Nat → ByteArray → List Int → Int → Bool → Option (ByteArray × Bool)
  | 0, _, _, _, _ => none
  | k + 1, x0, x4, x5, x42 => if x42 = true then (some ((⟨#[]⟩ : ByteArray), false)) else (if 0 ≤ (wrap64 (x5 + 1)) then (if (wrap64 (x5 + 1)) < (x0.size : Int) then ((exequaturref01_hex.f k (bt x0 (wrap64 (x5 + 1)))).bind fun t148 => (if 0 ≤ (wrap64 (x5 + 2)) then (if (wrap64 (x5 + 2)) < (x0.size : Int) then ((exequaturref01_hex.f k (bt x0 (wrap64 (x5 + 2)))).bind fun t149 => (if x4.length < 140737488355328 then (exequaturref01_Unquote.l0 k x0 (x4 ++ [(wrap64 ((wrap64 (16 * t148)) + t149)) % 256]) (wrap64 ((wrap64 (x5 + 2)) + 1))) else (none))) else (none)) else (none))) else (none)) else (none))
end
def exequaturref01_Unquote.f (k : Nat) (a0 : ByteArray) : Option (ByteArray × Bool) := exequaturref01_Unquote.l0 k a0 ([] : List Int) 0
theorem exequaturref01_Unquote.mono_l : ∀ k, (∀ y0 y1 y2, LeO (exequaturref01_Unquote.l0 k y0 y1 y2) (exequaturref01_Unquote.l0 (k + 1) y0 y1 y2)) ∧ (∀ y0 y1 y2 y3, LeO (exequaturref01_Unquote.j1 k y0 y1 y2 y3) (exequaturref01_Unquote.j1 (k + 1) y0 y1 y2 y3)) ∧ (∀ y0 y1 y2 y3, LeO (exequaturref01_Unquote.j2 k y0 y1 y2 y3) (exequaturref01_Unquote.j2 (k + 1) y0 y1 y2 y3))
  | 0 => ⟨fun _ _ _ r h => by simp [exequaturref01_Unquote.l0] at h, fun _ _ _ _ r h => by simp [exequaturref01_Unquote.j1] at h, fun _ _ _ _ r h => by simp [exequaturref01_Unquote.j2] at h⟩
  | k + 1 => by
    obtain ⟨ih0, ih1, ih2⟩ := exequaturref01_Unquote.mono_l k
    refine ⟨?_, ?_, ?_⟩
    · intro y0 y1 y2
      unfold exequaturref01_Unquote.l0
      repeat' first
      | (with_reducible exact ih0 _ _ _)
      | (with_reducible exact ih1 _ _ _ _)
      | (with_reducible exact ih2 _ _ _ _)
      | (with_reducible exact exequaturref01_hex.mono _ _)
      | (with_reducible exact LeO.refl _)
      | (with_reducible exact LeO.none _)
      | (with_reducible refine LeO.ite ?_ ?_)
      | (with_reducible refine LeO.bind ?_ (fun _ => ?_))
      | exact ih0 _ _ _
      | exact ih1 _ _ _ _
      | exact ih2 _ _ _ _
      | exact exequaturref01_hex.mono _ _
      | exact LeO.none _
      | refine LeO.ite ?_ ?_
      | refine LeO.bind ?_ (fun _ => ?_)
    · intro y0 y1 y2 y3
      unfold exequaturref01_Unquote.j1
      repeat' first
      | (with_reducible exact ih0 _ _ _)
      | (with_reducible exact ih1 _ _ _ _)
      | (with_reducible exact ih2 _ _ _ _)
      | (with_reducible exact exequaturref01_hex.mono _ _)
      | (with_reducible exact LeO.refl _)
      | (with_reducible exact LeO.none _)
      | (with_reducible refine LeO.ite ?_ ?_)
      | (with_reducible refine LeO.bind ?_ (fun _ => ?_))
      | exact ih0 _ _ _
      | exact ih1 _ _ _ _
      | exact ih2 _ _ _ _
      | exact exequaturref01_hex.mono _ _
      | exact LeO.none _
      | refine LeO.ite ?_ ?_
      | refine LeO.bind ?_ (fun _ => ?_)
    · intro y0 y1 y2 y3
      unfold exequaturref01_Unquote.j2
      repeat' first
      | (with_reducible exact ih0 _ _ _)
      | (with_reducible exact ih1 _ _ _ _)
      | (with_reducible exact ih2 _ _ _ _)
      | (with_reducible exact exequaturref01_hex.mono _ _)
      | (with_reducible exact LeO.refl _)
      | (with_reducible exact LeO.none _)
      | (with_reducible refine LeO.ite ?_ ?_)
      | (with_reducible refine LeO.bind ?_ (fun _ => ?_))
      | exact ih0 _ _ _
      | exact ih1 _ _ _ _
      | exact ih2 _ _ _ _
      | exact exequaturref01_hex.mono _ _
      | exact LeO.none _
      | refine LeO.ite ?_ ?_
      | refine LeO.bind ?_ (fun _ => ?_)
theorem exequaturref01_Unquote.mono : ∀ a0 k, LeO (exequaturref01_Unquote.f k a0) (exequaturref01_Unquote.f (k + 1) a0) := by
  intro a0 k
  obtain ⟨ih0, ih1, ih2⟩ := exequaturref01_Unquote.mono_l k
  unfold exequaturref01_Unquote.f
  repeat' first
      | (with_reducible exact ih0 _ _ _)
      | (with_reducible exact ih1 _ _ _ _)
      | (with_reducible exact ih2 _ _ _ _)
      | (with_reducible exact exequaturref01_hex.mono _ _)
      | (with_reducible exact LeO.refl _)
      | (with_reducible exact LeO.none _)
      | (with_reducible refine LeO.ite ?_ ?_)
      | (with_reducible refine LeO.bind ?_ (fun _ => ?_))
      | exact ih0 _ _ _
      | exact ih1 _ _ _ _
      | exact ih2 _ _ _ _
      | exact exequaturref01_hex.mono _ _
      | exact LeO.none _
      | refine LeO.ite ?_ ?_
      | refine LeO.bind ?_ (fun _ => ?_)
set_option maxHeartbeats 8000000 in
set_option maxRecDepth 100000 in
theorem exequaturref01_Unquote.calls (k : Nat) (a0 : ByteArray) (r1 : ByteArray) (r2 : Bool) (w : World) (h : exequaturref01_Unquote.f k a0 = some (r1, r2)) :
  Calls Tryd.prog 42 #[.string a0] w fun e w' => e = .returned (.tuple #[.string r1, .bool r2]) ∧ Below w.heap.size w w' := by
 have HB := Aside0.mk (Below.refl w.heap.size w)
 have H : (exequaturref01_Unquote.l0 k a0 ([] : List Int) 0) = some (r1, r2) := h
 clear h
 have H' := Aside0.mk H
 clear H
 go_enter Tryd.func42, Tryd.ntmps42
 go_wp2
 repeat (go_quiet (fail); try go_wp2)
 go_loopg [4, 5] k (fun kq v4 v5 w' => ∃ (x4_1 : List Int) (x5_1 : Int), v5 = .int .i64 x5_1 ∧ Aside0 (exequaturref01_Unquote.l0 kq a0 x4_1 x5_1 = some (r1, r2)) ∧ Aside0 (kq ≤ k) ∧ Aside0 (Kd.R (Kd.int .u8) 5 w' w.heap.size (fun _ => True) v4 x4_1) ∧ Aside0 (Below w.heap.size w w'))
 case atStart => exact ⟨(([] : List Int)), (0), (by first | rfl | (simp; done) | (simp [*]; done) | (refine congrArg Value.bool ?_; rw [Bool.eq_iff_iff]; simp; done)), H', ⟨Nat.le_refl _⟩, ⟨by first | exact Kd.R_nil _ _ _ _ _ | exact Kd.N_nil _ _ _ _ _ | exact Kd.V_nil _ _ _ _ _ | exact Kd.Q_nil _ _ _ _ _ | exact Kd.S_nil _ _ _ _ _⟩, ⟨by repeat (first | (with_reducible first | exact HB.out | apply below_alloc | apply pw_below_drewN | apply below_drew1) | exact HB.out)⟩⟩
 case round =>
  clear H'
  obtain ⟨x4_1, x5_1, rfl, HA, HK1, HO_4, HB⟩ := hrel
  cases gk with
  | zero => exact absurd HA.out (by simp [exequaturref01_Unquote.l0])
  | succ k1 =>
   have H := HA.out
   clear HA
   simp only [exequaturref01_Unquote.l0] at H
   by_cases c2 : x5_1 < (a0.size : Int)
   ·rw [if_pos c2] at H
    have c2b0 : decide (x5_1 < (a0.size : Int)) = true := decide_eq_true c2
    clear c2
    by_cases c3 : 0 ≤ x5_1
    rotate_left
    ·rw [if_neg c3] at H; exact absurd H (by simp)
    rw [if_pos c3] at H
    have c3b0 : decide (0 ≤ x5_1) = true := decide_eq_true c3
    clear c3
    have HC5 := Aside0.mk H
    clear H
    have p4 : 0 ≤ (x5_1 : Int) := of_decide_eq_true (by first | (with_reducible assumption) | assumption)
    have q4 : x5_1 < (a0.size : Int) := of_decide_eq_true (by first | (with_reducible assumption) | assumption)
    have hx4 := bt_at a0 x5_1
    replace p4 := eq_true p4
    replace q4 := eq_true q4
    go_upto_if 17 with (fail)
    repeat (go_quiet (fail); go_upto_if 17 with (fail))
    go_cut [6] (fun v6 wc => ∃ (kq : Nat) (x6_4 : Int), v6 = .int .u8 x6_4 ∧ Aside0 (exequaturref01_Unquote.j1 kq a0 x4_1 x5_1 x6_4 = some (r1, r2)) ∧ Aside0 (kq ≤ k1) ∧ Aside0 (Kd.R (Kd.int .u8) 5 wc w.heap.size (fun _ => True) u4 x4_1) ∧ Aside0 (Below w.heap.size w wc))
    case first =>
     have H := HC5.out
     clear HC5
     by_cases c6 : (bt a0 x5_1) = 43
     ·rw [if_pos c6] at H
      have c6b0 : ((bt a0 x5_1) == 43) = true := beq_iff_eq.mpr c6
      have c6b1 : ((bt a0 x5_1) != 43) = false := bne_eq_false_iff_eq.mpr c6
      clear c6
      (first | rw [c6b0] | (simp only [i64_w, i32_w]; rw [c6b0]) | skip)
      have H' := Aside0.mk H
      clear H
      go_wp2
      repeat (go_quiet (fail); try go_wp2)
      go_meet
      case rel => exact ⟨_, (32), (by first | rfl | (simp; done) | (simp [*]; done) | (refine congrArg Value.bool ?_; rw [Bool.eq_iff_iff]; simp; done)), H', ⟨by have := HK1.out; first | omega | exact Nat.le_refl _⟩, ⟨by (with_reducible repeat (first | apply Kd.R_alloc | apply Kd.R_drewN | apply Kd.R_drew)); exact HO_4.out⟩, ⟨by repeat (first | (with_reducible first | exact HB.out | apply below_alloc | apply pw_below_drewN | apply below_drew1) | exact HB.out)⟩⟩
     ·rw [if_neg c6] at H
      have c6b0 : ((bt a0 x5_1) == 43) = false := beq_eq_false_iff_ne.mpr c6
      have c6b1 : ((bt a0 x5_1) != 43) = true := bne_iff_ne.mpr c6
      (first | rw [c6b0] | (simp only [i64_w, i32_w]; rw [c6b0]) | skip)
      have H' := Aside0.mk H
      clear H
      go_wp2
      repeat (go_quiet (fail); try go_wp2)
      go_meet
      case rel => exact ⟨_, (bt a0 x5_1), (by first | rfl | (simp; done) | (simp [*]; done) | (refine congrArg Value.bool ?_; rw [Bool.eq_iff_iff]; simp; done)), H', ⟨by have := HK1.out; first | omega | exact Nat.le_refl _⟩, ⟨by (with_reducible repeat (first | apply Kd.R_alloc | apply Kd.R_drewN | apply Kd.R_drew)); exact HO_4.out⟩, ⟨by repeat (first | (with_reducible first | exact HB.out | apply below_alloc | apply pw_below_drewN | apply below_drew1) | exact HB.out)⟩⟩
    case rest =>
     clear HC5; try clear c2; try clear c2b0; try clear p2; try clear c3; try clear c3b0; try clear c4; try clear p4; try clear q4; try clear hx4; try clear c6; try clear c6b0; try clear c6b1; try clear p4; try clear q4
     obtain ⟨kq, x6_4, rfl, HA, HJ4, HO_4, HB⟩ := hcut
     cases kq with
     | zero => exact absurd HA.out (by simp [exequaturref01_Unquote.j1])
     | succ kj4 =>
      have H := HA.out
      clear HA
      simp only [exequaturref01_Unquote.j1] at H
      by_cases c7 : 0 ≤ x5_1
      rotate_left
      ·rw [if_neg c7] at H; exact absurd H (by simp)
      rw [if_pos c7] at H
      have c7b0 : decide (0 ≤ x5_1) = true := decide_eq_true c7
      clear c7
      by_cases c8 : x5_1 < (a0.size : Int)
      rotate_left
      ·rw [if_neg c8] at H; exact absurd H (by simp)
      rw [if_pos c8] at H
      have c8b0 : decide (x5_1 < (a0.size : Int)) = true := decide_eq_true c8
      clear c8
      by_cases c10 : (bt a0 x5_1) = 37
      ·rw [if_pos c10] at H
       have c10b0 : ((bt a0 x5_1) == 37) = true := beq_iff_eq.mpr c10
       have c10b1 : ((bt a0 x5_1) != 37) = false := bne_eq_false_iff_eq.mpr c10
       clear c10
       have HC11 := Aside0.mk H
       clear H
       have p9 : 0 ≤ (x5_1 : Int) := of_decide_eq_true (by first | (with_reducible assumption) | assumption)
       have q9 : x5_1 < (a0.size : Int) := of_decide_eq_true (by first | (with_reducible assumption) | assumption)
       have hx9 := bt_at a0 x5_1
       replace p9 := eq_true p9
       replace q9 := eq_true q9
       go_upto_region 9 with (fail)
       repeat (go_quiet (fail); go_upto_region 9 with (fail))
       go_cut [42] (fun v42 wc => ∃ (kq : Nat) (x42_10 : Bool), v42 = .bool x42_10 ∧ Aside0 (exequaturref01_Unquote.j2 kq a0 x4_1 x5_1 x42_10 = some (r1, r2)) ∧ Aside0 (kq ≤ kj4) ∧ Aside0 (Kd.R (Kd.int .u8) 5 wc w.heap.size (fun _ => True) u4 x4_1) ∧ Aside0 (Below w.heap.size w wc))
       case first =>
        have H := HC11.out
        clear HC11
        by_cases c12 : (wrap64 (x5_1 + 2)) ≥ (a0.size : Int)
        ·rw [if_pos c12] at H
         have c12b0 : decide ((a0.size : Int) ≤ (wrap64 (x5_1 + 2))) = true := decide_eq_true c12
         clear c12
         (first | rw [c12b0] | (simp only [i64_w, i32_w]; rw [c12b0]) | skip)
         have H' := Aside0.mk H
         clear H
         go_wp2
         repeat (go_quiet (fail); try go_wp2)
         go_meet
         case rel => exact ⟨_, (true), (by first | rfl | (simp; done) | (simp [*]; done) | (refine congrArg Value.bool ?_; rw [Bool.eq_iff_iff]; simp; done)), H', ⟨by have := HK1.out; have := HJ4.out; first | omega | exact Nat.le_refl _⟩, ⟨by (with_reducible repeat (first | apply Kd.R_alloc | apply Kd.R_drewN | apply Kd.R_drew)); exact HO_4.out⟩, ⟨by repeat (first | (with_reducible first | exact HB.out | apply below_alloc | apply pw_below_drewN | apply below_drew1) | exact HB.out)⟩⟩
        ·rw [if_neg c12] at H
         have c12b0 : decide ((a0.size : Int) ≤ (wrap64 (x5_1 + 2))) = false := decide_eq_false c12
         clear c12
         (first | rw [c12b0] | (simp only [i64_w, i32_w]; rw [c12b0]) | skip)
         obtain ⟨ji13, hji13⟩ : ∃ j_ : Int, (wrap64 (x5_1 + 1)) = j_ := ⟨_, rfl⟩
         replace H : (if 0 ≤ (ji13) then (if (ji13) < (a0.size : Int) then ((exequaturref01_hex.f kj4 (bt a0 (ji13))).bind fun t146 => (if t146 < 0 then (exequaturref01_Unquote.j2 kj4 a0 x4_1 x5_1 true) else (if 0 ≤ (wrap64 (x5_1 + 2)) then (if (wrap64 (x5_1 + 2)) < (a0.size : Int) then ((exequaturref01_hex.f kj4 (bt a0 (wrap64 (x5_1 + 2)))).bind fun t147 => (exequaturref01_Unquote.j2 kj4 a0 x4_1 x5_1 (decide (t147 < 0)))) else (none)) else (none)))) else (none)) else (none)) = some (r1, r2) := by first | (rw [hji13] at H; exact H) | (simp only [hji13] at H ⊢; exact H)
         have hji13w : (IntKind.i64.wrap (x5_1 + 1)) = ji13 := (i64_w _).trans hji13
         by_cases c14 : 0 ≤ (ji13)
         rotate_left
         ·rw [if_neg c14] at H; exact absurd H (by simp)
         rw [if_pos c14] at H
         have c14b0 : decide (0 ≤ (ji13)) = true := decide_eq_true c14
         clear c14
         by_cases c15 : (ji13) < (a0.size : Int)
         rotate_left
         ·rw [if_neg c15] at H; exact absurd H (by simp)
         rw [if_pos c15] at H
         have c15b0 : decide ((ji13) < (a0.size : Int)) = true := decide_eq_true c15
         clear c15
         replace H := Option.bind_eq_some_iff.mp H
         obtain ⟨t146, A170, H⟩ := H
         replace H : (if t146 < 0 then (exequaturref01_Unquote.j2 kj4 a0 x4_1 x5_1 true) else (if 0 ≤ (wrap64 (x5_1 + 2)) then (if (wrap64 (x5_1 + 2)) < (a0.size : Int) then ((exequaturref01_hex.f kj4 (bt a0 (wrap64 (x5_1 + 2)))).bind fun t147 => (exequaturref01_Unquote.j2 kj4 a0 x4_1 x5_1 (decide (t147 < 0)))) else (none)) else (none))) = some (r1, r2) := H
         have A17 := Aside0.mk A170
         clear A170
         by_cases c18 : t146 < 0
         ·rw [if_pos c18] at H
          have c18b0 : decide (t146 < 0) = true := decide_eq_true c18
          clear c18
          have H' := Aside0.mk H
          clear H
          have p16 : 0 ≤ ((ji13) : Int) := of_decide_eq_true (by first | (with_reducible assumption) | assumption)
          have q16 : (ji13) < (a0.size : Int) := of_decide_eq_true (by first | (with_reducible assumption) | assumption)
          have hx16 := bt_at a0 (ji13)
          replace p16 := eq_true p16
          replace q16 := eq_true q16
          go_wp2_with (first | (go_at_call 51; (with_reducible refine (exequaturref01_hex.calls kj4 (bt a0 (ji13)) t146 _ A17.out).mono ?_); rintro e w' ⟨rfl, ⟨nd, rfl⟩⟩; (try first | exact ⟨rfl, _, World.drewN_drewN _ _ _⟩ | exact ⟨rfl, _, Eq.trans (World.drewN_drewN _ _ _) (congrArg (World.drewN _) (Nat.add_assoc _ _ _))⟩)))
          repeat (go_quiet (first | (go_at_call 51; (with_reducible refine (exequaturref01_hex.calls kj4 (bt a0 (ji13)) t146 _ A17.out).mono ?_); rintro e w' ⟨rfl, ⟨nd, rfl⟩⟩; (try first | exact ⟨rfl, _, World.drewN_drewN _ _ _⟩ | exact ⟨rfl, _, Eq.trans (World.drewN_drewN _ _ _) (congrArg (World.drewN _) (Nat.add_assoc _ _ _))⟩))); try go_wp2_with (first | (go_at_call 51; (with_reducible refine (exequaturref01_hex.calls kj4 (bt a0 (ji13)) t146 _ A17.out).mono ?_); rintro e w' ⟨rfl, ⟨nd, rfl⟩⟩; (try first | exact ⟨rfl, _, World.drewN_drewN _ _ _⟩ | exact ⟨rfl, _, Eq.trans (World.drewN_drewN _ _ _) (congrArg (World.drewN _) (Nat.add_assoc _ _ _))⟩))))
          go_meet
          case rel => exact ⟨_, (true), (by first | rfl | (simp; done) | (simp [*]; done) | (refine congrArg Value.bool ?_; rw [Bool.eq_iff_iff]; simp; done)), H', ⟨by have := HK1.out; have := HJ4.out; first | omega | exact Nat.le_refl _⟩, ⟨by (with_reducible repeat (first | apply Kd.R_alloc | apply Kd.R_drewN | apply Kd.R_drew)); exact HO_4.out⟩, ⟨by repeat (first | (with_reducible first | exact HB.out | apply below_alloc | apply pw_below_drewN | apply below_drew1) | exact HB.out)⟩⟩
         ·rw [if_neg c18] at H
          have c18b0 : decide (t146 < 0) = false := decide_eq_false c18
          clear c18
          obtain ⟨ji19, hji19⟩ : ∃ j_ : Int, (wrap64 (x5_1 + 2)) = j_ := ⟨_, rfl⟩
          replace H : (if 0 ≤ (ji19) then (if (ji19) < (a0.size : Int) then ((exequaturref01_hex.f kj4 (bt a0 (ji19))).bind fun t147 => (exequaturref01_Unquote.j2 kj4 a0 x4_1 x5_1 (decide (t147 < 0)))) else (none)) else (none)) = some (r1, r2) := by first | (rw [hji19] at H; exact H) | (simp only [hji19] at H ⊢; exact H)
          (try rw [hji19] at c12b0)
          (try rw [hji19] at A17)
          have hji19w : (IntKind.i64.wrap (x5_1 + 2)) = ji19 := (i64_w _).trans hji19
          by_cases c20 : 0 ≤ (ji19)
          rotate_left
          ·rw [if_neg c20] at H; exact absurd H (by simp)
          rw [if_pos c20] at H
          have c20b0 : decide (0 ≤ (ji19)) = true := decide_eq_true c20
          clear c20
          by_cases c21 : (ji19) < (a0.size : Int)
          rotate_left
          ·rw [if_neg c21] at H; exact absurd H (by simp)
          rw [if_pos c21] at H
          have c21b0 : decide ((ji19) < (a0.size : Int)) = true := decide_eq_true c21
          clear c21
          replace H := Option.bind_eq_some_iff.mp H
          obtain ⟨t147, A230, H⟩ := H
          replace H : (exequaturref01_Unquote.j2 kj4 a0 x4_1 x5_1 (decide (t147 < 0))) = some (r1, r2) := H
          have A23 := Aside0.mk A230
          clear A230
          have H' := Aside0.mk H
          clear H
          have p16 : 0 ≤ ((ji13) : Int) := of_decide_eq_true (by first | (with_reducible assumption) | assumption)
          have q16 : (ji13) < (a0.size : Int) := of_decide_eq_true (by first | (with_reducible assumption) | assumption)
          have hx16 := bt_at a0 (ji13)
          replace p16 := eq_true p16
          replace q16 := eq_true q16
          go_wp2_with (first | (go_at_call 51; (with_reducible refine (exequaturref01_hex.calls kj4 (bt a0 (ji13)) t146 _ A17.out).mono ?_); rintro e w' ⟨rfl, ⟨nd, rfl⟩⟩; (try first | exact ⟨rfl, _, World.drewN_drewN _ _ _⟩ | exact ⟨rfl, _, Eq.trans (World.drewN_drewN _ _ _) (congrArg (World.drewN _) (Nat.add_assoc _ _ _))⟩); have p22 : 0 ≤ ((ji19) : Int) := of_decide_eq_true (by first | (with_reducible assumption) | assumption); have q22 : (ji19) < (a0.size : Int) := of_decide_eq_true (by first | (with_reducible assumption) | assumption); have hx22 := bt_at a0 (ji19); replace p22 := eq_true p22; replace q22 := eq_true q22) | (go_at_call 51; (with_reducible refine (exequaturref01_hex.calls kj4 (bt a0 (ji19)) t147 _ A23.out).mono ?_); rintro e w' ⟨rfl, ⟨nd, rfl⟩⟩; (try first | exact ⟨rfl, _, World.drewN_drewN _ _ _⟩ | exact ⟨rfl, _, Eq.trans (World.drewN_drewN _ _ _) (congrArg (World.drewN _) (Nat.add_assoc _ _ _))⟩)))
          repeat (go_quiet (first | (go_at_call 51; (with_reducible refine (exequaturref01_hex.calls kj4 (bt a0 (ji13)) t146 _ A17.out).mono ?_); rintro e w' ⟨rfl, ⟨nd, rfl⟩⟩; (try first | exact ⟨rfl, _, World.drewN_drewN _ _ _⟩ | exact ⟨rfl, _, Eq.trans (World.drewN_drewN _ _ _) (congrArg (World.drewN _) (Nat.add_assoc _ _ _))⟩); have p22 : 0 ≤ ((ji19) : Int) := of_decide_eq_true (by first | (with_reducible assumption) | assumption); have q22 : (ji19) < (a0.size : Int) := of_decide_eq_true (by first | (with_reducible assumption) | assumption); have hx22 := bt_at a0 (ji19); replace p22 := eq_true p22; replace q22 := eq_true q22) | (go_at_call 51; (with_reducible refine (exequaturref01_hex.calls kj4 (bt a0 (ji19)) t147 _ A23.out).mono ?_); rintro e w' ⟨rfl, ⟨nd, rfl⟩⟩; (try first | exact ⟨rfl, _, World.drewN_drewN _ _ _⟩ | exact ⟨rfl, _, Eq.trans (World.drewN_drewN _ _ _) (congrArg (World.drewN _) (Nat.add_assoc _ _ _))⟩))); try go_wp2_with (first | (go_at_call 51; (with_reducible refine (exequaturref01_hex.calls kj4 (bt a0 (ji13)) t146 _ A17.out).mono ?_); rintro e w' ⟨rfl, ⟨nd, rfl⟩⟩; (try first | exact ⟨rfl, _, World.drewN_drewN _ _ _⟩ | exact ⟨rfl, _, Eq.trans (World.drewN_drewN _ _ _) (congrArg (World.drewN _) (Nat.add_assoc _ _ _))⟩); have p22 : 0 ≤ ((ji19) : Int) := of_decide_eq_true (by first | (with_reducible assumption) | assumption); have q22 : (ji19) < (a0.size : Int) := of_decide_eq_true (by first | (with_reducible assumption) | assumption); have hx22 := bt_at a0 (ji19); replace p22 := eq_true p22; replace q22 := eq_true q22) | (go_at_call 51; (with_reducible refine (exequaturref01_hex.calls kj4 (bt a0 (ji19)) t147 _ A23.out).mono ?_); rintro e w' ⟨rfl, ⟨nd, rfl⟩⟩; (try first | exact ⟨rfl, _, World.drewN_drewN _ _ _⟩ | exact ⟨rfl, _, Eq.trans (World.drewN_drewN _ _ _) (congrArg (World.drewN _) (Nat.add_assoc _ _ _))⟩))))
          go_meet
          case rel => exact ⟨_, (decide (t147 < 0)), (by first | rfl | (simp; done) | (simp [*]; done) | (refine congrArg Value.bool ?_; rw [Bool.eq_iff_iff]; simp; done)), H', ⟨by have := HK1.out; have := HJ4.out; first | omega | exact Nat.le_refl _⟩, ⟨by (with_reducible repeat (first | apply Kd.R_alloc | apply Kd.R_drewN | apply Kd.R_drew)); exact HO_4.out⟩, ⟨by repeat (first | (with_reducible first | exact HB.out | apply below_alloc | apply pw_below_drewN | apply below_drew1) | exact HB.out)⟩⟩
       case rest =>
        clear HC11; try clear c1; try clear p1; try clear q1; try clear hx1; try clear c2; try clear c2b0; try clear p2; try clear q2; try clear hx2; try clear c3; try clear c3b0; try clear c4; try clear p4; try clear q4; try clear hx4; try clear c6; try clear c6b0; try clear c6b1; try clear p6; try clear c7; try clear c7b0; try clear c8; try clear c8b0; try clear p9; try clear q9; try clear hx9; try clear c10; try clear c10b0; try clear c10b1; try clear c12; try clear c12b0; try clear c14; try clear c14b0; try clear c15; try clear c15b0; try clear p16; try clear q16; try clear hx16; try clear c18; try clear c18b0; try clear c20; try clear c20b0; try clear c21; try clear c21b0; try clear p22; try clear q22; try clear hx22; try clear p16; try clear p2; try clear p22; try clear p4; try clear p9; try clear q16; try clear q22; try clear q4; try clear q9
        obtain ⟨kq, x42_10, rfl, HA, HJ10, HO_4, HB⟩ := hcut
        cases kq with
        | zero => exact absurd HA.out (by simp [exequaturref01_Unquote.j2])
        | succ kj10 =>
         have H := HA.out
         clear HA
         simp only [exequaturref01_Unquote.j2] at H
         by_cases c24 : x42_10 = true
         ·subst c24
          have H1 : (some ((⟨#[]⟩ : ByteArray), false)) = some (r1, r2) := by rw [if_pos rfl] at H; exact H
          clear H
          have H := H1
          clear H1
          simp only [Option.some.injEq, Prod.mk.injEq] at H
          obtain ⟨rfl, rfl⟩ := H
          go_wp2
          repeat (go_quiet (fail); try go_wp2)
          go_ret2
          first | (exact ⟨by first | rfl | (simp [errW_none, errW_some] <;> rfl) | (simp [*, errW_none, errW_some] <;> rfl), by repeat (first | (with_reducible first | exact HB.out | apply below_alloc | apply pw_below_drewN | apply below_drew1) | exact HB.out)⟩) | (focus (exfalso; simp_all; done))
          all_goals (first | (exfalso; simp_all <;> omega) | (go_ret; exact ⟨by first | rfl | (simp [errW_none, errW_some] <;> rfl) | (simp [*, errW_none, errW_some] <;> rfl), by repeat (first | (with_reducible first | exact HB.out | apply below_alloc | apply pw_below_drewN | apply below_drew1) | exact HB.out)⟩))
         ·replace c24 := Bool.eq_false_iff.mpr c24
          subst c24
          have H1 : (if 0 ≤ (wrap64 (x5_1 + 1)) then (if (wrap64 (x5_1 + 1)) < (a0.size : Int) then ((exequaturref01_hex.f kj10 (bt a0 (wrap64 (x5_1 + 1)))).bind fun t148 => (if 0 ≤ (wrap64 (x5_1 + 2)) then (if (wrap64 (x5_1 + 2)) < (a0.size : Int) then ((exequaturref01_hex.f kj10 (bt a0 (wrap64 (x5_1 + 2)))).bind fun t149 => (if x4_1.length < 140737488355328 then (exequaturref01_Unquote.l0 kj10 a0 (x4_1 ++ [(wrap64 ((wrap64 (16 * t148)) + t149)) % 256]) (wrap64 ((wrap64 (x5_1 + 2)) + 1))) else (none))) else (none)) else (none))) else (none)) else (none)) = some (r1, r2) := by rw [if_neg (show ¬ (false = true) by decide)] at H; exact H
          clear H
          have H := H1
          clear H1
          obtain ⟨ji25, hji25⟩ : ∃ j_ : Int, (wrap64 (x5_1 + 1)) = j_ := ⟨_, rfl⟩
          replace H : (if 0 ≤ (ji25) then (if (ji25) < (a0.size : Int) then ((exequaturref01_hex.f kj10 (bt a0 (ji25))).bind fun t148 => (if 0 ≤ (wrap64 (x5_1 + 2)) then (if (wrap64 (x5_1 + 2)) < (a0.size : Int) then ((exequaturref01_hex.f kj10 (bt a0 (wrap64 (x5_1 + 2)))).bind fun t149 => (if x4_1.length < 140737488355328 then (exequaturref01_Unquote.l0 kj10 a0 (x4_1 ++ [(wrap64 ((wrap64 (16 * t148)) + t149)) % 256]) (wrap64 ((wrap64 (x5_1 + 2)) + 1))) else (none))) else (none)) else (none))) else (none)) else (none)) = some (r1, r2) := by first | (rw [hji25] at H; exact H) | (simp only [hji25] at H ⊢; exact H)
          have hji25w : (IntKind.i64.wrap (x5_1 + 1)) = ji25 := (i64_w _).trans hji25
          by_cases c26 : 0 ≤ (ji25)
          rotate_left
          ·rw [if_neg c26] at H; exact absurd H (by simp)
          rw [if_pos c26] at H
          have c26b0 : decide (0 ≤ (ji25)) = true := decide_eq_true c26
          clear c26
          by_cases c27 : (ji25) < (a0.size : Int)
          rotate_left
          ·rw [if_neg c27] at H; exact absurd H (by simp)
          rw [if_pos c27] at H
          have c27b0 : decide ((ji25) < (a0.size : Int)) = true := decide_eq_true c27
          clear c27
          replace H := Option.bind_eq_some_iff.mp H
          obtain ⟨t148, A290, H⟩ := H
          replace H : (if 0 ≤ (wrap64 (x5_1 + 2)) then (if (wrap64 (x5_1 + 2)) < (a0.size : Int) then ((exequaturref01_hex.f kj10 (bt a0 (wrap64 (x5_1 + 2)))).bind fun t149 => (if x4_1.length < 140737488355328 then (exequaturref01_Unquote.l0 kj10 a0 (x4_1 ++ [(wrap64 ((wrap64 (16 * t148)) + t149)) % 256]) (wrap64 ((wrap64 (x5_1 + 2)) + 1))) else (none))) else (none)) else (none)) = some (r1, r2) := H
          have A29 := Aside0.mk A290
          clear A290
          obtain ⟨ji30, hji30⟩ : ∃ j_ : Int, (wrap64 (x5_1 + 2)) = j_ := ⟨_, rfl⟩
          replace H : (if 0 ≤ (ji30) then (if (ji30) < (a0.size : Int) then ((exequaturref01_hex.f kj10 (bt a0 (ji30))).bind fun t149 => (if x4_1.length < 140737488355328 then (exequaturref01_Unquote.l0 kj10 a0 (x4_1 ++ [(wrap64 ((wrap64 (16 * t148)) + t149)) % 256]) (wrap64 ((ji30) + 1))) else (none))) else (none)) else (none)) = some (r1, r2) := by first | (rw [hji30] at H; exact H) | (simp only [hji30] at H ⊢; exact H)
          (try rw [hji30] at A29)
          have hji30w : (IntKind.i64.wrap (x5_1 + 2)) = ji30 := (i64_w _).trans hji30
          by_cases c31 : 0 ≤ (ji30)
          rotate_left
          ·rw [if_neg c31] at H; exact absurd H (by simp)
          rw [if_pos c31] at H
          have c31b0 : decide (0 ≤ (ji30)) = true := decide_eq_true c31
          clear c31
          by_cases c32 : (ji30) < (a0.size : Int)
          rotate_left
          ·rw [if_neg c32] at H; exact absurd H (by simp)
          rw [if_pos c32] at H
          have c32b0 : decide ((ji30) < (a0.size : Int)) = true := decide_eq_true c32
          clear c32
          replace H := Option.bind_eq_some_iff.mp H
          obtain ⟨t149, A340, H⟩ := H
          replace H : (if x4_1.length < 140737488355328 then (exequaturref01_Unquote.l0 kj10 a0 (x4_1 ++ [(wrap64 ((wrap64 (16 * t148)) + t149)) % 256]) (wrap64 ((ji30) + 1))) else (none)) = some (r1, r2) := H
          have A34 := Aside0.mk A340
          clear A340
          by_cases c35 : x4_1.length < 140737488355328
          rotate_left
          ·rw [if_neg c35] at H; exact absurd H (by simp)
          rw [if_pos c35] at H
          have LMc35 := Aside0.mk c35
          clear c35
          obtain ⟨y150, hy150⟩ : ∃ y_ : List Int, y_ = (x4_1 ++ [(wrap64 ((wrap64 (16 * t148)) + t149)) % 256]) := ⟨_, rfl⟩
          replace H : (exequaturref01_Unquote.l0 kj10 a0 y150 (wrap64 ((ji30) + 1))) = some (r1, r2) := by first | (rw [hy150]; with_reducible exact H) | (have H2_ := (Option.bind_some _ _).symm.trans H; rw [hy150]; with_reducible exact H2_) | (have H2_ := (Option.bind_some _ _).symm.trans H; with_reducible exact H2_) | with_reducible exact H | (rw [hy150]; exact H) | exact H
          have Ny150 := Aside0.mk hy150
          clear hy150
          have H' := Aside0.mk H
          clear H
          have p28 : 0 ≤ ((ji25) : Int) := of_decide_eq_true (by first | (with_reducible assumption) | assumption)
          have q28 : (ji25) < (a0.size : Int) := of_decide_eq_true (by first | (with_reducible assumption) | assumption)
          have hx28 := bt_at a0 (ji25)
          replace p28 := eq_true p28
          replace q28 := eq_true q28
          go_wp2_with (first | (go_at_call 51; (with_reducible refine (exequaturref01_hex.calls kj10 (bt a0 (ji25)) t148 _ A29.out).mono ?_); rintro e w' ⟨rfl, ⟨nd, rfl⟩⟩; (try first | exact ⟨rfl, _, World.drewN_drewN _ _ _⟩ | exact ⟨rfl, _, Eq.trans (World.drewN_drewN _ _ _) (congrArg (World.drewN _) (Nat.add_assoc _ _ _))⟩); have p33 : 0 ≤ ((ji30) : Int) := of_decide_eq_true (by first | (with_reducible assumption) | assumption); have q33 : (ji30) < (a0.size : Int) := of_decide_eq_true (by first | (with_reducible assumption) | assumption); have hx33 := bt_at a0 (ji30); replace p33 := eq_true p33; replace q33 := eq_true q33) | (go_at_call 51; (with_reducible refine (exequaturref01_hex.calls kj10 (bt a0 (ji30)) t149 _ A34.out).mono ?_); rintro e w' ⟨rfl, ⟨nd, rfl⟩⟩; (try first | exact ⟨rfl, _, World.drewN_drewN _ _ _⟩ | exact ⟨rfl, _, Eq.trans (World.drewN_drewN _ _ _) (congrArg (World.drewN _) (Nat.add_assoc _ _ _))⟩)) | ((with_reducible refine gate_builtin (b := .append) (xs := #[.tmp 58, .tmp 60]) rfl ?_); at_builtin; refine Kd.R_append (Kd.int .u8) (w0 := w) w.heap.size rfl (.tmp 58) (.tmp 60) 61 5 (.int .u8 0) 1 rfl Tryd.underlying61 info5 rfl (by decide) (by omega) u4 x4_1 ((wrap64 ((wrap64 (16 * t148)) + t149)) % 256) [.int .u8 ((wrap64 ((wrap64 (16 * t148)) + t149)) % 256)] (fun _ => True) (fun _ => False) rfl rfl ?aP (fun _ hk => hk.elim) ?aF ?aO ?aB ?aS ?aL ?_; (case aP => exact rfl); (case aB => exact (by repeat (first | (with_reducible first | exact HB.out | apply below_alloc | apply pw_below_drewN | apply below_drew1) | exact HB.out))); (case aF => exact (fun _ _ => trivial)); (case aO => exact (by (with_reducible repeat (first | apply Kd.R_alloc | apply Kd.R_drewN | apply Kd.R_drew)); exact HO_4.out)); (case aS => exact (below_size (by repeat (first | (with_reducible first | exact HB.out | apply below_alloc | apply pw_below_drewN | apply below_drew1) | exact HB.out)))); (case aL => have := LMc35.out; omega); intro v151 w36 ho hb hg hat; rw [← Ny150.out] at ho; have n0_ := Aside0.mk (hb); have n1_ := Aside0.mk (ho); clear HB; clear HO_4; have HB := n0_; have HO152 := n1_; clear n0_ n1_; clear ho hb hg hat))
          repeat (go_quiet (first | (go_at_call 51; (with_reducible refine (exequaturref01_hex.calls kj10 (bt a0 (ji25)) t148 _ A29.out).mono ?_); rintro e w' ⟨rfl, ⟨nd, rfl⟩⟩; (try first | exact ⟨rfl, _, World.drewN_drewN _ _ _⟩ | exact ⟨rfl, _, Eq.trans (World.drewN_drewN _ _ _) (congrArg (World.drewN _) (Nat.add_assoc _ _ _))⟩); have p33 : 0 ≤ ((ji30) : Int) := of_decide_eq_true (by first | (with_reducible assumption) | assumption); have q33 : (ji30) < (a0.size : Int) := of_decide_eq_true (by first | (with_reducible assumption) | assumption); have hx33 := bt_at a0 (ji30); replace p33 := eq_true p33; replace q33 := eq_true q33) | (go_at_call 51; (with_reducible refine (exequaturref01_hex.calls kj10 (bt a0 (ji30)) t149 _ A34.out).mono ?_); rintro e w' ⟨rfl, ⟨nd, rfl⟩⟩; (try first | exact ⟨rfl, _, World.drewN_drewN _ _ _⟩ | exact ⟨rfl, _, Eq.trans (World.drewN_drewN _ _ _) (congrArg (World.drewN _) (Nat.add_assoc _ _ _))⟩)) | ((with_reducible refine gate_builtin (b := .append) (xs := #[.tmp 58, .tmp 60]) rfl ?_); at_builtin; refine Kd.R_append (Kd.int .u8) (w0 := w) w.heap.size rfl (.tmp 58) (.tmp 60) 61 5 (.int .u8 0) 1 rfl Tryd.underlying61 info5 rfl (by decide) (by omega) u4 x4_1 ((wrap64 ((wrap64 (16 * t148)) + t149)) % 256) [.int .u8 ((wrap64 ((wrap64 (16 * t148)) + t149)) % 256)] (fun _ => True) (fun _ => False) rfl rfl ?aP (fun _ hk => hk.elim) ?aF ?aO ?aB ?aS ?aL ?_; (case aP => exact rfl); (case aB => exact (by repeat (first | (with_reducible first | exact HB.out | apply below_alloc | apply pw_below_drewN | apply below_drew1) | exact HB.out))); (case aF => exact (fun _ _ => trivial)); (case aO => exact (by (with_reducible repeat (first | apply Kd.R_alloc | apply Kd.R_drewN | apply Kd.R_drew)); exact HO_4.out)); (case aS => exact (below_size (by repeat (first | (with_reducible first | exact HB.out | apply below_alloc | apply pw_below_drewN | apply below_drew1) | exact HB.out)))); (case aL => have := LMc35.out; omega); intro v151 w36 ho hb hg hat; rw [← Ny150.out] at ho; have n0_ := Aside0.mk (hb); have n1_ := Aside0.mk (ho); clear HB; clear HO_4; have HB := n0_; have HO152 := n1_; clear n0_ n1_; clear ho hb hg hat)); try go_wp2_with (first | (go_at_call 51; (with_reducible refine (exequaturref01_hex.calls kj10 (bt a0 (ji25)) t148 _ A29.out).mono ?_); rintro e w' ⟨rfl, ⟨nd, rfl⟩⟩; (try first | exact ⟨rfl, _, World.drewN_drewN _ _ _⟩ | exact ⟨rfl, _, Eq.trans (World.drewN_drewN _ _ _) (congrArg (World.drewN _) (Nat.add_assoc _ _ _))⟩); have p33 : 0 ≤ ((ji30) : Int) := of_decide_eq_true (by first | (with_reducible assumption) | assumption); have q33 : (ji30) < (a0.size : Int) := of_decide_eq_true (by first | (with_reducible assumption) | assumption); have hx33 := bt_at a0 (ji30); replace p33 := eq_true p33; replace q33 := eq_true q33) | (go_at_call 51; (with_reducible refine (exequaturref01_hex.calls kj10 (bt a0 (ji30)) t149 _ A34.out).mono ?_); rintro e w' ⟨rfl, ⟨nd, rfl⟩⟩; (try first | exact ⟨rfl, _, World.drewN_drewN _ _ _⟩ | exact ⟨rfl, _, Eq.trans (World.drewN_drewN _ _ _) (congrArg (World.drewN _) (Nat.add_assoc _ _ _))⟩)) | ((with_reducible refine gate_builtin (b := .append) (xs := #[.tmp 58, .tmp 60]) rfl ?_); at_builtin; refine Kd.R_append (Kd.int .u8) (w0 := w) w.heap.size rfl (.tmp 58) (.tmp 60) 61 5 (.int .u8 0) 1 rfl Tryd.underlying61 info5 rfl (by decide) (by omega) u4 x4_1 ((wrap64 ((wrap64 (16 * t148)) + t149)) % 256) [.int .u8 ((wrap64 ((wrap64 (16 * t148)) + t149)) % 256)] (fun _ => True) (fun _ => False) rfl rfl ?aP (fun _ hk => hk.elim) ?aF ?aO ?aB ?aS ?aL ?_; (case aP => exact rfl); (case aB => exact (by repeat (first | (with_reducible first | exact HB.out | apply below_alloc | apply pw_below_drewN | apply below_drew1) | exact HB.out))); (case aF => exact (fun _ _ => trivial)); (case aO => exact (by (with_reducible repeat (first | apply Kd.R_alloc | apply Kd.R_drewN | apply Kd.R_drew)); exact HO_4.out)); (case aS => exact (below_size (by repeat (first | (with_reducible first | exact HB.out | apply below_alloc | apply pw_below_drewN | apply below_drew1) | exact HB.out)))); (case aL => have := LMc35.out; omega); intro v151 w36 ho hb hg hat; rw [← Ny150.out] at ho; have n0_ := Aside0.mk (hb); have n1_ := Aside0.mk (ho); clear HB; clear HO_4; have HB := n0_; have HO152 := n1_; clear n0_ n1_; clear ho hb hg hat)))
          go_roundg kj10
          case measure => have := HK1.out; have := HJ4.out; have := HJ10.out; omega
          case rel => exact ⟨(y150), (wrap64 ((ji30) + 1)), (by first | rfl | (simp; done) | (simp only [← hji30] <;> (first | rfl | simp)) | (simp [*]; done)), H', ⟨by have := HK1.out; have := HJ4.out; have := HJ10.out; omega⟩, ⟨by (with_reducible repeat (first | apply Kd.R_alloc | apply Kd.R_drewN | apply Kd.R_drew)); exact HO152.out⟩, ⟨by repeat (first | (with_reducible first | exact HB.out | apply below_alloc | apply pw_below_drewN | apply below_drew1) | exact HB.out)⟩⟩
      ·rw [if_neg c10] at H
       have c10b0 : ((bt a0 x5_1) == 37) = false := beq_eq_false_iff_ne.mpr c10
       have c10b1 : ((bt a0 x5_1) != 37) = true := bne_iff_ne.mpr c10
       by_cases c37 : x4_1.length < 140737488355328
       rotate_left
       ·rw [if_neg c37] at H; exact absurd H (by simp)
       rw [if_pos c37] at H
       have LMc37 := Aside0.mk c37
       clear c37
       obtain ⟨y153, hy153⟩ : ∃ y_ : List Int, y_ = (x4_1 ++ [x6_4]) := ⟨_, rfl⟩
       replace H : (exequaturref01_Unquote.l0 kj4 a0 y153 (wrap64 (x5_1 + 1))) = some (r1, r2) := by first | (rw [hy153]; with_reducible exact H) | (have H2_ := (Option.bind_some _ _).symm.trans H; rw [hy153]; with_reducible exact H2_) | (have H2_ := (Option.bind_some _ _).symm.trans H; with_reducible exact H2_) | with_reducible exact H | (rw [hy153]; exact H) | exact H
       have Ny153 := Aside0.mk hy153
       clear hy153
       have H' := Aside0.mk H
       clear H
       have p9 : 0 ≤ (x5_1 : Int) := of_decide_eq_true (by first | (with_reducible assumption) | assumption)
       have q9 : x5_1 < (a0.size : Int) := of_decide_eq_true (by first | (with_reducible assumption) | assumption)
       have hx9 := bt_at a0 x5_1
       replace p9 := eq_true p9
       replace q9 := eq_true q9
       go_wp2_with (first | ((with_reducible refine gate_builtin (b := .append) (xs := #[.tmp 58, .tmp 60]) rfl ?_); at_builtin; refine Kd.R_append (Kd.int .u8) (w0 := w) w.heap.size rfl (.tmp 58) (.tmp 60) 61 5 (.int .u8 0) 1 rfl Tryd.underlying61 info5 rfl (by decide) (by omega) u4 x4_1 x6_4 [.int .u8 x6_4] (fun _ => True) (fun _ => False) rfl rfl ?aP (fun _ hk => hk.elim) ?aF ?aO ?aB ?aS ?aL ?_; (case aP => exact rfl); (case aB => exact (by repeat (first | (with_reducible first | exact HB.out | apply below_alloc | apply pw_below_drewN | apply below_drew1) | exact HB.out))); (case aF => exact (fun _ _ => trivial)); (case aO => exact (by (with_reducible repeat (first | apply Kd.R_alloc | apply Kd.R_drewN | apply Kd.R_drew)); exact HO_4.out)); (case aS => exact (below_size (by repeat (first | (with_reducible first | exact HB.out | apply below_alloc | apply pw_below_drewN | apply below_drew1) | exact HB.out)))); (case aL => have := LMc37.out; omega); intro v154 w38 ho hb hg hat; rw [← Ny153.out] at ho; have n0_ := Aside0.mk (hb); have n1_ := Aside0.mk (ho); clear HB; clear HO_4; have HB := n0_; have HO155 := n1_; clear n0_ n1_; clear ho hb hg hat))
       repeat (go_quiet (first | ((with_reducible refine gate_builtin (b := .append) (xs := #[.tmp 58, .tmp 60]) rfl ?_); at_builtin; refine Kd.R_append (Kd.int .u8) (w0 := w) w.heap.size rfl (.tmp 58) (.tmp 60) 61 5 (.int .u8 0) 1 rfl Tryd.underlying61 info5 rfl (by decide) (by omega) u4 x4_1 x6_4 [.int .u8 x6_4] (fun _ => True) (fun _ => False) rfl rfl ?aP (fun _ hk => hk.elim) ?aF ?aO ?aB ?aS ?aL ?_; (case aP => exact rfl); (case aB => exact (by repeat (first | (with_reducible first | exact HB.out | apply below_alloc | apply pw_below_drewN | apply below_drew1) | exact HB.out))); (case aF => exact (fun _ _ => trivial)); (case aO => exact (by (with_reducible repeat (first | apply Kd.R_alloc | apply Kd.R_drewN | apply Kd.R_drew)); exact HO_4.out)); (case aS => exact (below_size (by repeat (first | (with_reducible first | exact HB.out | apply below_alloc | apply pw_below_drewN | apply below_drew1) | exact HB.out)))); (case aL => have := LMc37.out; omega); intro v154 w38 ho hb hg hat; rw [← Ny153.out] at ho; have n0_ := Aside0.mk (hb); have n1_ := Aside0.mk (ho); clear HB; clear HO_4; have HB := n0_; have HO155 := n1_; clear n0_ n1_; clear ho hb hg hat)); try go_wp2_with (first | ((with_reducible refine gate_builtin (b := .append) (xs := #[.tmp 58, .tmp 60]) rfl ?_); at_builtin; refine Kd.R_append (Kd.int .u8) (w0 := w) w.heap.size rfl (.tmp 58) (.tmp 60) 61 5 (.int .u8 0) 1 rfl Tryd.underlying61 info5 rfl (by decide) (by omega) u4 x4_1 x6_4 [.int .u8 x6_4] (fun _ => True) (fun _ => False) rfl rfl ?aP (fun _ hk => hk.elim) ?aF ?aO ?aB ?aS ?aL ?_; (case aP => exact rfl); (case aB => exact (by repeat (first | (with_reducible first | exact HB.out | apply below_alloc | apply pw_below_drewN | apply below_drew1) | exact HB.out))); (case aF => exact (fun _ _ => trivial)); (case aO => exact (by (with_reducible repeat (first | apply Kd.R_alloc | apply Kd.R_drewN | apply Kd.R_drew)); exact HO_4.out)); (case aS => exact (below_size (by repeat (first | (with_reducible first | exact HB.out | apply below_alloc | apply pw_below_drewN | apply below_drew1) | exact HB.out)))); (case aL => have := LMc37.out; omega); intro v154 w38 ho hb hg hat; rw [← Ny153.out] at ho; have n0_ := Aside0.mk (hb); have n1_ := Aside0.mk (ho); clear HB; clear HO_4; have HB := n0_; have HO155 := n1_; clear n0_ n1_; clear ho hb hg hat)))
       go_roundg kj4
       case measure => have := HK1.out; have := HJ4.out; omega
       case rel => exact ⟨(y153), (wrap64 (x5_1 + 1)), (by first | rfl | (simp; done) | (simp [*]; done) | (refine congrArg Value.bool ?_; rw [Bool.eq_iff_iff]; simp; done)), H', ⟨by have := HK1.out; have := HJ4.out; omega⟩, ⟨by (with_reducible repeat (first | apply Kd.R_alloc | apply Kd.R_drewN | apply Kd.R_drew)); exact HO155.out⟩, ⟨by repeat (first | (with_reducible first | exact HB.out | apply below_alloc | apply pw_below_drewN | apply below_drew1) | exact HB.out)⟩⟩
   ·rw [if_neg c2] at H
    have c2b0 : decide (x5_1 < (a0.size : Int)) = false := decide_eq_false c2
    clear c2
    simp only [Option.some.injEq, Prod.mk.injEq] at H
    obtain ⟨rfl, rfl⟩ := H
    have hcv39 := own_string (P := Tryd.prog) Tryd.underlying61 Tryd.underlying5 Tryd.underlying9 (Kd.own_of_R HO_4.out)
    go_wp2
    repeat (go_quiet (fail); try go_wp2)
    go_ret2
    first | (exact ⟨by first | rfl | (simp [errW_none, errW_some] <;> rfl) | (simp [*, errW_none, errW_some] <;> rfl), by repeat (first | (with_reducible first | exact HB.out | apply below_alloc | apply pw_below_drewN | apply below_drew1) | exact HB.out)⟩) | (focus (exfalso; simp_all; done))
    all_goals (first | (exfalso; simp_all <;> omega) | (go_ret; exact ⟨by first | rfl | (simp [errW_none, errW_some] <;> rfl) | (simp [*, errW_none, errW_some] <;> rfl), by repeat (first | (with_reducible first | exact HB.out | apply below_alloc | apply pw_below_drewN | apply below_drew1) | exact HB.out)⟩))

end Go.Proofs.YtmhaaggmfgojbaaDoor.X

/-! HRefA -/
namespace Go.Proofs.YtmhaaggmfgojbaaDoor.X
open Go.RowKit Go.Proofs.YtmhaaggmfgojbaaDoorW.PrintWords Go.Proofs.YtmhaaggmfgojbaaDoor.Spec
set_option linter.unusedVariables false
set_option linter.unusedSimpArgs false

theorem pre_extract_any (s : ByteArray) (c : UInt8) : bl (s.extract 0 (pre c (bl s)).length) = pre c (bl s) := by
 by_cases hm : c ∈ bl s
 ·rw [← pre_extract s c hm, bl_ba]
 ·rw [pre_of_not_mem hm, bl_length]
  rw [show bl (s.extract 0 s.size) = (s.extract 0 s.size).data.toList from rfl, Lib.extract_eq]
  simp only [Nat.sub_zero, List.drop_zero]
  rw [Lib.size_eq]; exact List.take_length

/-! at -/
theorem at_from (s : ByteArray) (c : UInt8) (hs : s.size ≤ 4611686018427387904) : ∀ n i, i + n = (pre c (bl s)).length → Ev (fun k => exequaturref01_at.l0 k s (c.toNat : Int) (i : Int)) ((pre c (bl s)).length : Int) := by
 have hp := pre_length_le c (bl s)
 rw [bl_length] at hp
 intro n
 induction n with
 | zero =>
  intro i hi
  simp only [Nat.add_zero] at hi
  refine Ev.step (fun k => by rw [exequaturref01_at.l0]) ?_
  by_cases hlt : i < s.size
  ·refine Ev.if_pos (by omega) (Ev.if_pos (by omega) (Ev.if_pos ?_ ?_))
   ·rw [bt_get s i hlt, toNat_inj]
    have := pre_at (c := c) (l := bl s) (by rw [bl_length]; omega)
    simp only [hi]; exact this
   ·rw [hi]; exact Ev.some _
  ·refine Ev.if_neg (by omega) ?_
   exact (Ev.some _).uni (by omega)
 | succ n ih =>
  intro i hi
  refine Ev.step (fun k => by rw [exequaturref01_at.l0]) ?_
  refine Ev.if_pos (by omega) (Ev.if_pos (by omega) (Ev.if_neg ?_ ?_))
  ·rw [bt_get s i (by omega), toNat_inj]
   obtain ⟨_, h⟩ := pre_get (c := c) (l := bl s) (i := i) (by omega)
   exact h
  ·rw [w64 (by omega) (by omega)]
   exact ih (i + 1) (by omega)
theorem ref_at (s : ByteArray) (c : UInt8) (hs : s.size ≤ 4611686018427387904) : Ev (fun k => exequaturref01_at.f k s (c.toNat : Int)) ((pre c (bl s)).length : Int) :=
 at_from s c hs (pre c (bl s)).length 0 (by simp)

/-! Split -/
theorem split_from (c : UInt8) : ∀ n (s : ByteArray) (acc : List ByteArray), s.size ≤ n → n ≤ 4611686018427387904 → acc.length + n < 8796093022208 → Ev (fun k => exequaturref01_Split.l0 k s (c.toNat : Int) acc) (acc ++ spParts c s) := by
 intro n
 induction n with
 | zero =>
  intro s acc hs hn ha
  have hp := pre_length_le c (bl s)
  rw [bl_length] at hp
  refine Ev.step (fun k => by rw [exequaturref01_Split.l0]) ?_
  refine Ev.bind (ref_at s c (by omega)) ?_
  refine Ev.if_pos (by omega) (Ev.if_pos (by omega) (Ev.if_pos (by omega) ?_))
  refine Ev.bind (Ev.some _) (Ev.if_pos (by omega) ?_)
  have hm : c ∉ bl s := by rw [← pre_lt_iff, bl_length]; omega
  rw [spParts_miss c s hm]
  refine (Ev.some _).uni ?_
  congr 2
  apply bl_inj
  rw [show ((((pre c (bl s)).length : Nat) : Int)).toNat = (pre c (bl s)).length from by omega, pre_extract_any s c, pre_of_not_mem hm]
 | succ n ih =>
  intro s acc hs hn ha
  have hp := pre_length_le c (bl s)
  rw [bl_length] at hp
  refine Ev.step (fun k => by rw [exequaturref01_Split.l0]) ?_
  refine Ev.bind (ref_at s c (by omega)) ?_
  refine Ev.if_pos (by omega) (Ev.if_pos (by omega) (Ev.if_pos (by omega) ?_))
  refine Ev.bind (Ev.some _) ?_
  by_cases hm : c ∈ bl s
  ·have hlt := pre_lt_iff.2 hm
   rw [bl_length] at hlt
   refine Ev.if_neg (by omega) (Ev.if_pos ?_ (Ev.if_pos ?_ ?_))
   ·rw [w64 (by omega) (by omega)]; omega
   ·rw [w64 (by omega) (by omega)]; omega
   ·rw [w64 (by omega) (by omega), show ((((pre c (bl s)).length : Nat) : Int) + 1).toNat = (pre c (bl s)).length + 1 from by omega, show ((((pre c (bl s)).length : Nat) : Int)).toNat = (pre c (bl s)).length from by omega, spParts_hit c s hm]
    have hsz : (s.extract ((pre c (bl s)).length + 1) s.size).size ≤ n := by rw [ByteArray.size_extract]; omega
    refine (ih _ (acc ++ [s.extract 0 (pre c (bl s)).length]) hsz (by omega) (by simp; omega)).uni ?_
    simp
  ·refine Ev.if_pos ?_ ?_
   ·rw [pre_of_not_mem hm, bl_length]
   ·rw [spParts_miss c s hm]
    refine (Ev.some _).uni ?_
    congr 2
    apply bl_inj
    rw [show ((((pre c (bl s)).length : Nat) : Int)).toNat = (pre c (bl s)).length from by omega, pre_extract_any s c, pre_of_not_mem hm]
theorem ref_Split (s : ByteArray) (c : UInt8) (hs : s.size < 8796093022208) : Ev (fun k => exequaturref01_Split.f k s (c.toNat : Int)) (spParts c s) :=
 split_from c s.size s [] (Nat.le_refl _) (by omega) (by simpa using hs)

/-! hex -/
theorem hex_fin : ∀ n : Fin 256, exequaturref01_hex.f 3 (n.val : Int) = some (digv n.val.toUInt8) := by decide +kernel
theorem ref_hex (c : UInt8) : Ev (fun k => exequaturref01_hex.f k (c.toNat : Int)) (digv c) := by
 have h := hex_fin ⟨c.toNat, c.toNat_lt⟩
 simp only [back8] at h
 exact Ev.of_mono (g := fun k => exequaturref01_hex.f k (c.toNat : Int)) (fun k => exequaturref01_hex.mono _ k) (K := 3) h

/-! Unquote -/
def unqR (A : List UInt8) (r : Option (List UInt8)) : ByteArray × Bool := match r with | some l => (ba (A ++ l), true) | none => (⟨#[]⟩, false)
theorem unqR_cons (A : List UInt8) (c : UInt8) (r : Option (List UInt8)) : unqR A (r.map (c :: ·)) = unqR (A ++ [c]) r := by cases r <;> simp [unqR]
theorem hexbyte (x y : Int) (h0 : 0 ≤ x) (h1 : x < 16) (g0 : 0 ≤ y) (g1 : y < 16) : (wrap64 (wrap64 (16 * x) + y)) % 256 = (((16 * x.toNat + y.toNat).toUInt8.toNat : Nat) : Int) := by
 rw [w64 (n := 16 * x) (by omega) (by omega), w64 (by omega) (by omega)]
 have : (16 * x.toNat + y.toNat).toUInt8.toNat = 16 * x.toNat + y.toNat := by
  simp; omega
 rw [this]
 omega
theorem unq_j2_bad (s : ByteArray) (A : List Int) (i : Int) : Ev (fun k => exequaturref01_Unquote.j2 k s A i true) (⟨#[]⟩, false) := by
 refine Ev.step (fun k => by rw [exequaturref01_Unquote.j2]) (Ev.if_pos rfl (Ev.some _))
theorem unq_from (s : ByteArray) (hs : s.size ≤ 70368744177664) : ∀ n i (A : List UInt8), i + n = s.size → A.length ≤ i → Ev (fun k => exequaturref01_Unquote.l0 k s (nb A) (i : Int)) (unqR A (unquoteL ((bl s).drop i))) := by
 intro n
 induction n using Nat.strongRecOn with
 | ind n ih =>
 intro i A hi hA
 refine Ev.step (fun k => by rw [exequaturref01_Unquote.l0]) ?_
 by_cases hlt : i < s.size
 case neg =>
  refine Ev.if_neg (by omega) ?_
  rw [List.drop_of_length_le (by rw [bl_length]; omega), str_nb]
  exact (Ev.some _).uni (by simp [unqR, unquoteL])
 refine Ev.if_pos (by omega) (Ev.if_pos (by omega) ?_)
 have hb : i < (bl s).length := by rw [bl_length]; exact hlt
 obtain ⟨c, hc⟩ : ∃ c, (bl s)[i] = c := ⟨_, rfl⟩
 have hbt : bt s (i : Int) = (c.toNat : Int) := by rw [bt_get s i hlt, hc]
 rw [hbt, List.drop_eq_getElem_cons hb, hc]
 obtain ⟨d, hd⟩ : ∃ d : UInt8, d = if c = 43 then 32 else c := ⟨_, rfl⟩
 have key : Ev (fun k => exequaturref01_Unquote.j1 k s (nb A) (i : Int) (d.toNat : Int)) (unqR A (unquoteL (c :: (bl s).drop (i + 1)))) := by
  refine Ev.step (fun k => by rw [exequaturref01_Unquote.j1]) ?_
  refine Ev.if_pos (by omega) (Ev.if_pos (by omega) ?_)
  rw [hbt]
  by_cases h37 : c = 37
  ·subst h37
   refine Ev.if_pos rfl ?_
   rw [w64 (n := (i : Int) + 2) (by omega) (by omega), w64 (n := (i : Int) + 1) (by omega) (by omega)]
   by_cases hsh : i + 2 < s.size
   case neg =>
    refine Ev.if_pos (by omega) ((unq_j2_bad s _ _).uni ?_)
    rw [unq_short _ (by rw [List.length_drop, bl_length]; omega)]; rfl
   refine Ev.if_neg (by omega) (Ev.if_pos (by omega) (Ev.if_pos (by omega) ?_))
   have hb1 : i + 1 < (bl s).length := by rw [bl_length]; omega
   have hb2 : i + 2 < (bl s).length := by rw [bl_length]; omega
   obtain ⟨x, hx⟩ : ∃ x, (bl s)[i + 1] = x := ⟨_, rfl⟩
   obtain ⟨y, hy⟩ : ∃ y, (bl s)[i + 2] = y := ⟨_, rfl⟩
   have e1 : bt s ((i : Int) + 1) = (x.toNat : Int) := by
    rw [show (i : Int) + 1 = ((i + 1 : Nat) : Int) from by omega, bt_get s (i + 1) (by omega), hx]
   have e2 : bt s ((i : Int) + 2) = (y.toNat : Int) := by
    rw [show (i : Int) + 2 = ((i + 2 : Nat) : Int) from by omega, bt_get s (i + 2) (by omega), hy]
   rw [e1, e2, List.drop_eq_getElem_cons hb1, hx, show i + 1 + 1 = i + 2 from rfl, List.drop_eq_getElem_cons hb2, hy, show i + 2 + 1 = i + 3 from rfl]
   refine Ev.bind (ref_hex x) ?_
   by_cases hx0 : digv x < 0
   ·refine Ev.if_pos hx0 ((unq_j2_bad s _ _).uni ?_)
    rw [unq_bad _ _ _ (.inl hx0)]; rfl
   refine Ev.if_neg hx0 (Ev.if_pos (by omega) (Ev.if_pos (by omega) ?_))
   refine Ev.bind (ref_hex y) ?_
   by_cases hy0 : digv y < 0
   ·rw [decide_eq_true hy0]
    refine (unq_j2_bad s _ _).uni ?_
    rw [unq_bad _ _ _ (.inr hy0)]; rfl
   rw [decide_eq_false hy0]
   refine Ev.step (fun k => by rw [exequaturref01_Unquote.j2]) ?_
   refine Ev.if_neg (by simp) ?_
   rw [w64 (n := (i : Int) + 2) (by omega) (by omega), w64 (n := (i : Int) + 1) (by omega) (by omega)]
   refine Ev.if_pos (by omega) (Ev.if_pos (by omega) ?_)
   rw [e1, e2]
   refine Ev.bind (ref_hex x) (Ev.if_pos (by omega) (Ev.if_pos (by omega) (Ev.bind (ref_hex y) (Ev.if_pos (by rw [nb_length]; omega) ?_))))
   have hx1 := @digv_lt x
   have hy1 := @digv_lt y
   rw [hexbyte _ _ (by omega) hx1.1 (by omega) hy1.1, w64 (by omega) (by omega), unq_ok _ _ _ (by omega) (by omega), unqR_cons]
   have := ih (n - 3) (by omega) (i + 3) (A ++ [(16 * (digv x).toNat + (digv y).toNat).toUInt8]) (by omega) (by simp; omega)
   rw [nb_append] at this
   exact this
  ·refine Ev.if_neg (by rw [show (37 : Int) = ((37 : UInt8).toNat : Int) from rfl, toNat_inj]; exact h37) ?_
   refine Ev.if_pos (by rw [nb_length]; omega) ?_
   rw [w64 (by omega) (by omega), unq_plain c _ h37, ← hd, unqR_cons]
   have := ih (n - 1) (by omega) (i + 1) (A ++ [d]) (by omega) (by simp; omega)
   rw [nb_append] at this
   exact this
 by_cases h43 : c = 43
 ·subst h43
  refine Ev.if_pos rfl ?_
  rw [if_pos rfl] at hd
  subst hd
  exact key
 ·refine Ev.if_neg (by rw [show (43 : Int) = ((43 : UInt8).toNat : Int) from rfl, toNat_inj]; exact h43) ?_
  rw [if_neg h43] at hd
  subst hd
  exact key
theorem ref_Unquote (s : ByteArray) (hs : s.size ≤ 70368744177664) : Ev (fun k => exequaturref01_Unquote.f k s) (match unquoteL (bl s) with | some l => (ba l, true) | none => (⟨#[]⟩, false)) := by
 refine (unq_from s hs s.size 0 [] (by simp) (by simp)).uni ?_
 simp only [List.drop_zero]
 cases unquoteL (bl s) <;> rfl

end Go.Proofs.YtmhaaggmfgojbaaDoor.X

/-! X11 -/
-- Lean text made by xprint.py (ours) out of the seat's translation. Lean checks it.
namespace Go.Proofs.YtmhaaggmfgojbaaDoor.X
open Go.RowKit Go.Proofs.YtmhaaggmfgojbaaDoorW.PrintWords Go.Proofs.YtmhaaggmfgojbaaDoorW.PrintLast Go.Proofs.YtmhaaggmfgojbaaDoorW.PrintMore
attribute [local go_sem] max2_int min2_int max_two min_two max_three min_three max_four min_four   -- for this text's walks alone
set_option linter.unusedVariables false
set_option linter.unusedSimpArgs false

/-! ### exequaturref01_Form: function 23 -/
mutual
def exequaturref01_Form.l0 : Nat → List (S39) → List ByteArray → Int → Option ((List (S39)) × Int)
  | 0, _, _, _ => none
  | k + 1, x4, x5, x6 => if x6 < (x5.length : Int) then (if 0 ≤ x6 then (if (rdOf ByteArray.empty x5 x6).toList = ([] : List UInt8) then (exequaturref01_Form.l0 k x4 x5 (wrap64 (x6 + 1))) else ((exequaturref01_at.f k (rdOf ByteArray.empty x5 x6) 61).bind fun t161 => (if t161 < ((rdOf ByteArray.empty x5 x6).size : Int) then (if 0 ≤ (wrap64 (t161 + 1)) then (if (wrap64 (t161 + 1)) ≤ ((rdOf ByteArray.empty x5 x6).size : Int) then (exequaturref01_Form.j1 k x4 x5 x6 t161 ((rdOf ByteArray.empty x5 x6).extract ((wrap64 (t161 + 1)) : Int).toNat (rdOf ByteArray.empty x5 x6).size)) else (none)) else (none)) else (exequaturref01_Form.j1 k x4 x5 x6 t161 (⟨#[]⟩ : ByteArray))))) else (none)) else (if (x4.length : Int) > 64 then (some (([] : List (S39)), 3)) else (some (x4, 0)))
def exequaturref01_Form.j1 : Nat → List (S39) → List ByteArray → Int → Int → ByteArray → Option ((List (S39)) × Int)
  | 0, _, _, _, _, _ => none
  | k + 1, x4, x5, x6, x7, x8 => if 0 ≤ x6 then (if x6 < (x5.length : Int) then (if 0 ≤ x7 then (if x7 ≤ ((rdOf ByteArray.empty x5 x6).size : Int) then ((exequaturref01_Unquote.f k ((rdOf ByteArray.empty x5 x6).extract 0 (x7 : Int).toNat)).bind fun bt165 => ((exequaturref01_Unquote.f k x8).bind fun bt167 => (if bt165.2 = true then (if bt167.2 = true then (if x4.length < 4398046511104 then (exequaturref01_Form.l0 k (x4 ++ [(⟨bt165.1, bt167.1⟩ : S39)]) x5 (wrap64 (x6 + 1))) else (none)) else (some (([] : List (S39)), 2))) else (some (([] : List (S39)), 2))))) else (none)) else (none)) else (none)) else (none)
end
def exequaturref01_Form.f (k : Nat) (a0 : ByteArray) : Option ((List (S39)) × Int) := if (a0.size : Int) > 4096 then (some (([] : List (S39)), 3)) else ((exequaturref01_Split.f k a0 38).bind fun t156 => (exequaturref01_Form.l0 k ([] : List (S39)) t156 0))
theorem exequaturref01_Form.mono_l : ∀ k, (∀ y0 y1 y2, LeO (exequaturref01_Form.l0 k y0 y1 y2) (exequaturref01_Form.l0 (k + 1) y0 y1 y2)) ∧ (∀ y0 y1 y2 y3 y4, LeO (exequaturref01_Form.j1 k y0 y1 y2 y3 y4) (exequaturref01_Form.j1 (k + 1) y0 y1 y2 y3 y4))
  | 0 => ⟨fun _ _ _ r h => by simp [exequaturref01_Form.l0] at h, fun _ _ _ _ _ r h => by simp [exequaturref01_Form.j1] at h⟩
  | k + 1 => by
    obtain ⟨ih0, ih1⟩ := exequaturref01_Form.mono_l k
    refine ⟨?_, ?_⟩
    · intro y0 y1 y2
      unfold exequaturref01_Form.l0
      repeat' first
      | (with_reducible exact ih0 _ _ _)
      | (with_reducible exact ih1 _ _ _ _ _)
      | (with_reducible exact exequaturref01_Split.mono _ _ _)
      | (with_reducible exact exequaturref01_Unquote.mono _ _)
      | (with_reducible exact exequaturref01_at.mono _ _ _)
      | (with_reducible exact LeO.refl _)
      | (with_reducible exact LeO.none _)
      | (with_reducible refine LeO.ite ?_ ?_)
      | (with_reducible refine LeO.bind ?_ (fun _ => ?_))
      | exact ih0 _ _ _
      | exact ih1 _ _ _ _ _
      | exact exequaturref01_Split.mono _ _ _
      | exact exequaturref01_Unquote.mono _ _
      | exact exequaturref01_at.mono _ _ _
      | exact LeO.none _
      | refine LeO.ite ?_ ?_
      | refine LeO.bind ?_ (fun _ => ?_)
    · intro y0 y1 y2 y3 y4
      unfold exequaturref01_Form.j1
      repeat' first
      | (with_reducible exact ih0 _ _ _)
      | (with_reducible exact ih1 _ _ _ _ _)
      | (with_reducible exact exequaturref01_Split.mono _ _ _)
      | (with_reducible exact exequaturref01_Unquote.mono _ _)
      | (with_reducible exact exequaturref01_at.mono _ _ _)
      | (with_reducible exact LeO.refl _)
      | (with_reducible exact LeO.none _)
      | (with_reducible refine LeO.ite ?_ ?_)
      | (with_reducible refine LeO.bind ?_ (fun _ => ?_))
      | exact ih0 _ _ _
      | exact ih1 _ _ _ _ _
      | exact exequaturref01_Split.mono _ _ _
      | exact exequaturref01_Unquote.mono _ _
      | exact exequaturref01_at.mono _ _ _
      | exact LeO.none _
      | refine LeO.ite ?_ ?_
      | refine LeO.bind ?_ (fun _ => ?_)
theorem exequaturref01_Form.mono : ∀ a0 k, LeO (exequaturref01_Form.f k a0) (exequaturref01_Form.f (k + 1) a0) := by
  intro a0 k
  obtain ⟨ih0, ih1⟩ := exequaturref01_Form.mono_l k
  unfold exequaturref01_Form.f
  repeat' first
      | (with_reducible exact ih0 _ _ _)
      | (with_reducible exact ih1 _ _ _ _ _)
      | (with_reducible exact exequaturref01_Split.mono _ _ _)
      | (with_reducible exact exequaturref01_Unquote.mono _ _)
      | (with_reducible exact exequaturref01_at.mono _ _ _)
      | (with_reducible exact LeO.refl _)
      | (with_reducible exact LeO.none _)
      | (with_reducible refine LeO.ite ?_ ?_)
      | (with_reducible refine LeO.bind ?_ (fun _ => ?_))
      | exact ih0 _ _ _
      | exact ih1 _ _ _ _ _
      | exact exequaturref01_Split.mono _ _ _
      | exact exequaturref01_Unquote.mono _ _
      | exact exequaturref01_at.mono _ _ _
      | exact LeO.none _
      | refine LeO.ite ?_ ?_
      | refine LeO.bind ?_ (fun _ => ?_)
set_option maxHeartbeats 8000000 in
set_option maxRecDepth 100000 in
theorem exequaturref01_Form.calls (k : Nat) (a0 : ByteArray) (r1 : List (S39)) (r2 : Int) (w : World) (h : exequaturref01_Form.f k a0 = some (r1, r2)) :
  Calls Tryd.prog 23 #[.string a0] w fun e w' => ∃ v0_ : Value, e = .returned (.tuple #[v0_, .int .i64 r2]) ∧ Kd.R k39 39 w' w.heap.size (fun _ => True) v0_ r1 ∧ Below w.heap.size w w' := by
 have hu39 := Tryd.underlying39
 have HB := Aside0.mk (Below.refl w.heap.size w)
 have H : (if (a0.size : Int) > 4096 then (some (([] : List (S39)), 3)) else ((exequaturref01_Split.f k a0 38).bind fun t156 => (exequaturref01_Form.l0 k ([] : List (S39)) t156 0))) = some (r1, r2) := h
 clear h
 by_cases c2 : (a0.size : Int) > 4096
 ·rw [if_pos c2] at H
  have c2b0 : decide (4096 < (a0.size : Int)) = true := decide_eq_true c2
  have c2b1 : decide (4096 < a0.size) = true := decide_eq_true (by omega)
  clear c2
  simp only [Option.some.injEq, Prod.mk.injEq] at H
  obtain ⟨rfl, rfl⟩ := H
  go_enter Tryd.func23, Tryd.ntmps23
  go_wp2
  go_ret2
  first | (exact ⟨_, by first | rfl | (simp [errW_none, errW_some] <;> rfl) | (simp [*, errW_none, errW_some] <;> rfl), by first | exact Kd.R_nil _ _ _ _ _ | exact Kd.N_nil _ _ _ _ _ | exact Kd.V_nil _ _ _ _ _ | exact Kd.Q_nil _ _ _ _ _ | exact Kd.S_nil _ _ _ _ _, by repeat (first | (with_reducible first | exact HB.out | apply below_alloc | apply pw_below_drewN | apply below_drew1) | exact HB.out)⟩) | (focus (exfalso; simp_all; done))
  all_goals (first | (exfalso; simp_all <;> omega) | (go_ret; exact ⟨_, by first | rfl | (simp [errW_none, errW_some] <;> rfl) | (simp [*, errW_none, errW_some] <;> rfl), by first | exact Kd.R_nil _ _ _ _ _ | exact Kd.N_nil _ _ _ _ _ | exact Kd.V_nil _ _ _ _ _ | exact Kd.Q_nil _ _ _ _ _ | exact Kd.S_nil _ _ _ _ _, by repeat (first | (with_reducible first | exact HB.out | apply below_alloc | apply pw_below_drewN | apply below_drew1) | exact HB.out)⟩))
 ·rw [if_neg c2] at H
  have c2b0 : decide (4096 < (a0.size : Int)) = false := decide_eq_false c2
  have c2b1 : decide (4096 < a0.size) = false := decide_eq_false (by omega)
  clear c2
  replace H := Option.bind_eq_some_iff.mp H
  obtain ⟨t156, A30, H⟩ := H
  replace H : (exequaturref01_Form.l0 k ([] : List (S39)) t156 0) = some (r1, r2) := H
  have A3 := Aside0.mk A30
  clear A30
  have H' := Aside0.mk H
  clear H
  go_enter Tryd.func23, Tryd.ntmps23
  go_wp2_with (first | ((with_reducible refine gate_callee (f := 25) rfl ?_); refine goesL_ (some 17) rfl rfl Tryd.func25 (by kernel_rfl) rfl #[.string a0, .int .u8 38] rfl (by (try simp only [List.map_toArray, List.map_cons, List.map_nil]); first | done | rfl | (simp only [List.length_drop, List.length_take]; rfl)) ?_; (with_reducible refine (exequaturref01_Split.calls k a0 38 t156 _ A3.out).mono ?_); rintro e w4 ⟨v157, rfl, ho0, hb⟩; refine ⟨_, rfl, ?_⟩; have n0_ := Aside0.mk (Kd.R_lower ho0 (below_size (by repeat (first | (with_reducible first | exact HB.out | apply below_alloc | apply pw_below_drewN | apply below_drew1) | exact HB.out)))); have n1_ := Aside0.mk (below_step (by repeat (first | (with_reducible first | exact HB.out | apply below_alloc | apply pw_below_drewN | apply below_drew1) | exact HB.out)) hb); clear HB; have HO158 := n0_; have HB := n1_; clear n0_ n1_; (try clear hb); (try clear hb2); (try clear hk); (try clear hi); (try clear ho0)))
  go_loopg [4, 6] k (fun kq v4 v6 w' => ∃ (x4_1 : List (S39)) (x6_1 : Int), v6 = .int .i64 x6_1 ∧ Aside0 (exequaturref01_Form.l0 kq x4_1 t156 x6_1 = some (r1, r2)) ∧ Aside0 (kq ≤ k) ∧ Aside0 (Kd.R k39 39 w' w.heap.size (fun _ => True) v4 x4_1) ∧ Aside0 (Kd.R Kd.string 9 w' w.heap.size (fun _ => True) v157 t156) ∧ Aside0 (Below w.heap.size w w'))
  case atStart => exact ⟨(([] : List (S39))), (0), (by first | rfl | (simp; done) | (simp [*]; done) | (refine congrArg Value.bool ?_; rw [Bool.eq_iff_iff]; simp; done)), H', ⟨Nat.le_refl _⟩, ⟨by first | exact Kd.R_nil _ _ _ _ _ | exact Kd.N_nil _ _ _ _ _ | exact Kd.V_nil _ _ _ _ _ | exact Kd.Q_nil _ _ _ _ _ | exact Kd.S_nil _ _ _ _ _⟩, ⟨by (with_reducible repeat (first | apply Kd.R_alloc | apply Kd.R_drewN | apply Kd.R_drew)); exact HO158.out⟩, ⟨by repeat (first | (with_reducible first | exact HB.out | apply below_alloc | apply pw_below_drewN | apply below_drew1) | exact HB.out)⟩⟩
  case round =>
   clear H'
   try clear c2; try clear c2b0; try clear c2b1; try clear p2
   obtain ⟨x4_1, x6_1, rfl, HA, HK1, HO_4, HO_5, HB⟩ := hrel
   cases gk with
   | zero => exact absurd HA.out (by simp [exequaturref01_Form.l0])
   | succ k1 =>
    have H := HA.out
    clear HA
    simp only [exequaturref01_Form.l0] at H
    by_cases c5 : x6_1 < (t156.length : Int)
    ·rw [if_pos c5] at H
     have c5b0 : decide (x6_1 < (t156.length : Int)) = true := decide_eq_true c5
     clear c5
     by_cases c6 : 0 ≤ x6_1
     rotate_left
     ·rw [if_neg c6] at H; exact absurd H (by simp)
     rw [if_pos c6] at H
     have c6b0 : decide (0 ≤ x6_1) = true := decide_eq_true c6
     clear c6
     by_cases c7 : (rdOf ByteArray.empty t156 x6_1).toList = ([] : List UInt8)
     ·rw [if_pos c7] at H
      have c7b0 : ((rdOf ByteArray.empty t156 x6_1).toList == ([] : List UInt8)) = true := beq_iff_eq.mpr c7
      have c7b1 : ((rdOf ByteArray.empty t156 x6_1).toList != ([] : List UInt8)) = false := bne_eq_false_iff_eq.mpr c7
      clear c7
      have H' := Aside0.mk H
      clear H
      obtain ⟨Ao8, co8, eo8⟩ := Kd.R_slice HO_5.out
      subst eo8
      have p159 : 0 ≤ (x6_1 : Int) := of_decide_eq_true (by first | (with_reducible assumption) | assumption)
      have q159 : x6_1 < (t156.length : Int) := of_decide_eq_true (by first | (with_reducible assumption) | assumption)
      obtain ⟨ad159, e159, hx159_0⟩ := Kd.at_string (Kd.R_reads' HO_5.out).2.2 x6_1 p159 q159
      cases e159
      replace p159 := eq_true p159
      replace q159 := eq_true q159
      go_wp2
      go_roundg k1
      case measure => have := HK1.out; omega
      case rel => exact ⟨(x4_1), (wrap64 (x6_1 + 1)), (by first | rfl | (simp; done) | (simp [*]; done) | (refine congrArg Value.bool ?_; rw [Bool.eq_iff_iff]; simp; done)), H', ⟨by have := HK1.out; omega⟩, ⟨by (with_reducible repeat (first | apply Kd.R_alloc | apply Kd.R_drewN | apply Kd.R_drew)); exact HO_4.out⟩, ⟨by (with_reducible repeat (first | apply Kd.R_alloc | apply Kd.R_drewN | apply Kd.R_drew)); exact HO_5.out⟩, ⟨by repeat (first | (with_reducible first | exact HB.out | apply below_alloc | apply pw_below_drewN | apply below_drew1) | exact HB.out)⟩⟩
     ·rw [if_neg c7] at H
      have c7b0 : ((rdOf ByteArray.empty t156 x6_1).toList == ([] : List UInt8)) = false := beq_eq_false_iff_ne.mpr c7
      have c7b1 : ((rdOf ByteArray.empty t156 x6_1).toList != ([] : List UInt8)) = true := bne_iff_ne.mpr c7
      replace H := Option.bind_eq_some_iff.mp H
      obtain ⟨t161, A90, H⟩ := H
      replace H : (if t161 < ((rdOf ByteArray.empty t156 x6_1).size : Int) then (if 0 ≤ (wrap64 (t161 + 1)) then (if (wrap64 (t161 + 1)) ≤ ((rdOf ByteArray.empty t156 x6_1).size : Int) then (exequaturref01_Form.j1 k1 x4_1 t156 x6_1 t161 ((rdOf ByteArray.empty t156 x6_1).extract ((wrap64 (t161 + 1)) : Int).toNat (rdOf ByteArray.empty t156 x6_1).size)) else (none)) else (none)) else (exequaturref01_Form.j1 k1 x4_1 t156 x6_1 t161 (⟨#[]⟩ : ByteArray))) = some (r1, r2) := H
      have A9 := Aside0.mk A90
      clear A90
      have HC10 := Aside0.mk H
      clear H
      obtain ⟨Ao11, co11, eo11⟩ := Kd.R_slice HO_5.out
      subst eo11
      have p159 : 0 ≤ (x6_1 : Int) := of_decide_eq_true (by first | (with_reducible assumption) | assumption)
      have q159 : x6_1 < (t156.length : Int) := of_decide_eq_true (by first | (with_reducible assumption) | assumption)
      obtain ⟨ad159, e159, hx159_0⟩ := Kd.at_string (Kd.R_reads' HO_5.out).2.2 x6_1 p159 q159
      cases e159
      replace p159 := eq_true p159
      replace q159 := eq_true q159
      have p160 : 0 ≤ (x6_1 : Int) := of_decide_eq_true (by first | (with_reducible assumption) | assumption)
      have q160 : x6_1 < (t156.length : Int) := of_decide_eq_true (by first | (with_reducible assumption) | assumption)
      obtain ⟨ad160, e160, hx160_0⟩ := Kd.at_string (Kd.R_reads' HO_5.out).2.2 x6_1 p160 q160
      obtain rfl : ad159 = ad160 := (by injection e160)
      replace p160 := eq_true p160
      replace q160 := eq_true q160
      go_upto_if 40 with (first | ((with_reducible refine gate_callee (f := 41) rfl ?_); refine goesL_ (some 33) rfl rfl Tryd.func41 (by kernel_rfl) rfl #[.string (rdOf ByteArray.empty t156 x6_1), .int .u8 61] rfl (by (try simp only [List.map_toArray, List.map_cons, List.map_nil]); first | done | rfl | (simp only [List.length_drop, List.length_take]; rfl)) ?_; (with_reducible refine (exequaturref01_at.calls k1 (rdOf ByteArray.empty t156 x6_1) 61 t161 _ A9.out).mono ?_); rintro e w' ⟨rfl, ⟨nd, rfl⟩⟩; refine ⟨_, rfl, ?_⟩; have p162 : 0 ≤ (x6_1 : Int) := of_decide_eq_true (by first | (with_reducible assumption) | assumption); have q162 : x6_1 < (t156.length : Int) := of_decide_eq_true (by first | (with_reducible assumption) | assumption); obtain ⟨ad162, e162, hx162_0⟩ := Kd.at_string (Kd.R_reads' HO_5.out).2.2 x6_1 p162 q162; obtain rfl : ad159 = ad162 := (by injection e162); replace p162 := eq_true p162; replace q162 := eq_true q162))
      (try simp only [Act.put, List.setIfInBounds_toArray, List.set_cons_zero, List.set_cons_succ])
      go_cut [8] (fun v8 wc => ∃ (kq : Nat) (x8_9 : ByteArray), v8 = .string x8_9 ∧ Aside0 (exequaturref01_Form.j1 kq x4_1 t156 x6_1 t161 x8_9 = some (r1, r2)) ∧ Aside0 (kq ≤ k1) ∧ Aside0 (Kd.R k39 39 wc w.heap.size (fun _ => True) u4 x4_1) ∧ Aside0 (Kd.R Kd.string 9 wc w.heap.size (fun _ => True) (.slice (some ad159) t156.length co11) t156) ∧ Aside0 (Below w.heap.size w wc))
      case first =>
       have H := HC10.out
       clear HC10
       by_cases c12 : t161 < ((rdOf ByteArray.empty t156 x6_1).size : Int)
       ·rw [if_pos c12] at H
        have c12b0 : decide (t161 < ((rdOf ByteArray.empty t156 x6_1).size : Int)) = true := decide_eq_true c12
        clear c12
        (first | rw [c12b0] | (simp only [i64_w, i32_w]; rw [c12b0]) | skip)
        obtain ⟨ji13, hji13⟩ : ∃ j_ : Int, (wrap64 (t161 + 1)) = j_ := ⟨_, rfl⟩
        replace H : (if 0 ≤ (ji13) then (if (ji13) ≤ ((rdOf ByteArray.empty t156 x6_1).size : Int) then (exequaturref01_Form.j1 k1 x4_1 t156 x6_1 t161 ((rdOf ByteArray.empty t156 x6_1).extract ((ji13) : Int).toNat (rdOf ByteArray.empty t156 x6_1).size)) else (none)) else (none)) = some (r1, r2) := by first | (rw [hji13] at H; exact H) | (simp only [hji13] at H ⊢; exact H)
        have hji13w : (IntKind.i64.wrap (t161 + 1)) = ji13 := (i64_w _).trans hji13
        by_cases c14 : 0 ≤ (ji13)
        rotate_left
        ·rw [if_neg c14] at H; exact absurd H (by simp)
        rw [if_pos c14] at H
        have c14b0 := eq_true c14
        have c14b1 : decide (0 ≤ (ji13)) = true := decide_eq_true c14
        clear c14
        by_cases c15 : (ji13) ≤ ((rdOf ByteArray.empty t156 x6_1).size : Int)
        rotate_left
        ·rw [if_neg c15] at H; exact absurd H (by simp)
        rw [if_pos c15] at H
        have c15b0 := eq_true c15
        have c15b1 : decide ((ji13) ≤ ((rdOf ByteArray.empty t156 x6_1).size : Int)) = true := decide_eq_true c15
        clear c15
        have H' := Aside0.mk H
        clear H
        have p163 : 0 ≤ (x6_1 : Int) := of_decide_eq_true (by first | (with_reducible assumption) | assumption)
        have q163 : x6_1 < (t156.length : Int) := of_decide_eq_true (by first | (with_reducible assumption) | assumption)
        obtain ⟨ad163, e163, hx163_0⟩ := Kd.at_string (Kd.R_reads' HO_5.out).2.2 x6_1 p163 q163
        obtain rfl : ad159 = ad163 := (by injection e163)
        replace p163 := eq_true p163
        replace q163 := eq_true q163
        go_wp2
        go_meet
        case rel => exact ⟨_, ((rdOf ByteArray.empty t156 x6_1).extract ((ji13) : Int).toNat (rdOf ByteArray.empty t156 x6_1).size), (by first | rfl | (simp; done) | (simp only [← hji13] <;> (first | rfl | simp)) | (simp [*]; done)), H', ⟨by have := HK1.out; first | omega | exact Nat.le_refl _⟩, ⟨by (with_reducible repeat (first | apply Kd.R_alloc | apply Kd.R_drewN | apply Kd.R_drew)); exact HO_4.out⟩, ⟨by (with_reducible repeat (first | apply Kd.R_alloc | apply Kd.R_drewN | apply Kd.R_drew)); exact HO_5.out⟩, ⟨by repeat (first | (with_reducible first | exact HB.out | apply below_alloc | apply pw_below_drewN | apply below_drew1) | exact HB.out)⟩⟩
       ·rw [if_neg c12] at H
        have c12b0 : decide (t161 < ((rdOf ByteArray.empty t156 x6_1).size : Int)) = false := decide_eq_false c12
        clear c12
        (first | rw [c12b0] | (simp only [i64_w, i32_w]; rw [c12b0]) | skip)
        have H' := Aside0.mk H
        clear H
        go_wp2
        go_meet
        case rel => exact ⟨_, ((⟨#[]⟩ : ByteArray)), (by first | rfl | (simp; done) | (simp [*]; done) | (refine congrArg Value.bool ?_; rw [Bool.eq_iff_iff]; simp; done)), H', ⟨by have := HK1.out; first | omega | exact Nat.le_refl _⟩, ⟨by (with_reducible repeat (first | apply Kd.R_alloc | apply Kd.R_drewN | apply Kd.R_drew)); exact HO_4.out⟩, ⟨by (with_reducible repeat (first | apply Kd.R_alloc | apply Kd.R_drewN | apply Kd.R_drew)); exact HO_5.out⟩, ⟨by repeat (first | (with_reducible first | exact HB.out | apply below_alloc | apply pw_below_drewN | apply below_drew1) | exact HB.out)⟩⟩
      case rest =>
       clear HC10; try clear c1; try clear p1; try clear q1; try clear hx1; try clear c2; try clear c2b0; try clear c2b1; try clear p2; try clear c4; try clear c5; try clear c5b0; try clear c6; try clear c6b0; try clear p6; try clear c7; try clear c7b0; try clear c7b1; try clear c12; try clear c12b0; try clear c14; try clear c14b0; try clear c14b1; try clear c15; try clear c15b0; try clear c15b1; try clear p15; try clear q15; try clear hx15; try clear hx159_0; try clear hx160_0; try clear hx162_0; try clear hx163_0; try clear p159; try clear p160; try clear p162; try clear p163; try clear p2; try clear q159; try clear q160; try clear q162; try clear q163
       obtain ⟨kq, x8_9, rfl, HA, HJ9, HO_4, HO_5, HB⟩ := hcut
       cases kq with
       | zero => exact absurd HA.out (by simp [exequaturref01_Form.j1])
       | succ kj9 =>
        have H := HA.out
        clear HA
        simp only [exequaturref01_Form.j1] at H
        by_cases c16 : 0 ≤ x6_1
        rotate_left
        ·rw [if_neg c16] at H; exact absurd H (by simp)
        rw [if_pos c16] at H
        have c16b0 : decide (0 ≤ x6_1) = true := decide_eq_true c16
        clear c16
        by_cases c17 : x6_1 < (t156.length : Int)
        rotate_left
        ·rw [if_neg c17] at H; exact absurd H (by simp)
        rw [if_pos c17] at H
        have c17b0 : decide (x6_1 < (t156.length : Int)) = true := decide_eq_true c17
        clear c17
        by_cases c18 : 0 ≤ t161
        rotate_left
        ·rw [if_neg c18] at H; exact absurd H (by simp)
        rw [if_pos c18] at H
        have c18b0 := eq_true c18
        have c18b1 : decide (0 ≤ t161) = true := decide_eq_true c18
        clear c18
        by_cases c19 : t161 ≤ ((rdOf ByteArray.empty t156 x6_1).size : Int)
        rotate_left
        ·rw [if_neg c19] at H; exact absurd H (by simp)
        rw [if_pos c19] at H
        have c19b0 := eq_true c19
        have c19b1 : decide (t161 ≤ ((rdOf ByteArray.empty t156 x6_1).size : Int)) = true := decide_eq_true c19
        clear c19
        replace H := Option.bind_eq_some_iff.mp H
        obtain ⟨⟨t165, t166⟩, A200, H⟩ := H
        replace H : ((exequaturref01_Unquote.f kj9 x8_9).bind fun bt167 => (if t166 = true then (if bt167.2 = true then (if x4_1.length < 4398046511104 then (exequaturref01_Form.l0 kj9 (x4_1 ++ [(⟨t165, bt167.1⟩ : S39)]) t156 (wrap64 (x6_1 + 1))) else (none)) else (some (([] : List (S39)), 2))) else (some (([] : List (S39)), 2)))) = some (r1, r2) := H
        have A20 := Aside0.mk A200
        clear A200
        replace H := Option.bind_eq_some_iff.mp H
        obtain ⟨⟨t167, t168⟩, A210, H⟩ := H
        replace H : (if t166 = true then (if t168 = true then (if x4_1.length < 4398046511104 then (exequaturref01_Form.l0 kj9 (x4_1 ++ [(⟨t165, t167⟩ : S39)]) t156 (wrap64 (x6_1 + 1))) else (none)) else (some (([] : List (S39)), 2))) else (some (([] : List (S39)), 2))) = some (r1, r2) := H
        have A21 := Aside0.mk A210
        clear A210
        by_cases c22 : t166 = true
        ·subst c22
         have H1 : (if t168 = true then (if x4_1.length < 4398046511104 then (exequaturref01_Form.l0 kj9 (x4_1 ++ [(⟨t165, t167⟩ : S39)]) t156 (wrap64 (x6_1 + 1))) else (none)) else (some (([] : List (S39)), 2))) = some (r1, r2) := by rw [if_pos rfl] at H; exact H
         clear H
         have H := H1
         clear H1
         by_cases c23 : t168 = true
         ·subst c23
          have H1 : (if x4_1.length < 4398046511104 then (exequaturref01_Form.l0 kj9 (x4_1 ++ [(⟨t165, t167⟩ : S39)]) t156 (wrap64 (x6_1 + 1))) else (none)) = some (r1, r2) := by rw [if_pos rfl] at H; exact H
          clear H
          have H := H1
          clear H1
          by_cases c24 : x4_1.length < 4398046511104
          rotate_left
          ·rw [if_neg c24] at H; exact absurd H (by simp)
          rw [if_pos c24] at H
          have LMc24 := Aside0.mk c24
          clear c24
          obtain ⟨y169, hy169⟩ : ∃ y_ : List (S39), y_ = (x4_1 ++ [(⟨t165, t167⟩ : S39)]) := ⟨_, rfl⟩
          replace H : (exequaturref01_Form.l0 kj9 y169 t156 (wrap64 (x6_1 + 1))) = some (r1, r2) := by first | (rw [hy169]; with_reducible exact H) | (have H2_ := (Option.bind_some _ _).symm.trans H; rw [hy169]; with_reducible exact H2_) | (have H2_ := (Option.bind_some _ _).symm.trans H; with_reducible exact H2_) | with_reducible exact H | (rw [hy169]; exact H) | exact H
          have Ny169 := Aside0.mk hy169
          clear hy169
          have H' := Aside0.mk H
          clear H
          have p164 : 0 ≤ (x6_1 : Int) := of_decide_eq_true (by first | (with_reducible assumption) | assumption)
          have q164 : x6_1 < (t156.length : Int) := of_decide_eq_true (by first | (with_reducible assumption) | assumption)
          obtain ⟨ad164, e164, hx164_0⟩ := Kd.at_string (Kd.R_reads' HO_5.out).2.2 x6_1 p164 q164
          obtain rfl : ad159 = ad164 := (by injection e164)
          replace p164 := eq_true p164
          replace q164 := eq_true q164
          go_wp2_with (first | ((with_reducible refine gate_callee (f := 42) rfl ?_); refine goesL_ (some 55) rfl rfl Tryd.func42 (by kernel_rfl) rfl #[.string ((rdOf ByteArray.empty t156 x6_1).extract 0 (t161 : Int).toNat)] rfl (by (try simp only [List.map_toArray, List.map_cons, List.map_nil]); first | done | rfl | (simp only [List.length_drop, List.length_take]; rfl)) ?_; (with_reducible refine (exequaturref01_Unquote.calls kj9 ((rdOf ByteArray.empty t156 x6_1).extract 0 (t161 : Int).toNat) t165 true _ A20.out).mono ?_); rintro e w25 ⟨rfl, hb⟩; refine ⟨_, rfl, ?_⟩; have n0_ := Aside0.mk (Kd.R_below (by (with_reducible repeat (first | apply Kd.R_alloc | apply Kd.R_drewN | apply Kd.R_drew)); exact HO_4.out) hb); have n1_ := Aside0.mk (Kd.R_below (by (with_reducible repeat (first | apply Kd.R_alloc | apply Kd.R_drewN | apply Kd.R_drew)); exact HO_5.out) hb); have n2_ := Aside0.mk (below_step (by repeat (first | (with_reducible first | exact HB.out | apply below_alloc | apply pw_below_drewN | apply below_drew1) | exact HB.out)) hb); clear HO_4; clear HO_5; clear HB; have HO_4 := n0_; have HO_5 := n1_; have HB := n2_; clear n0_ n1_ n2_; (try clear hb); (try clear hb2); (try clear hk); (try clear hi)) | ((with_reducible refine gate_callee (f := 42) rfl ?_); refine goesL_ (some 60) rfl rfl Tryd.func42 (by kernel_rfl) rfl #[.string x8_9] rfl (by (try simp only [List.map_toArray, List.map_cons, List.map_nil]); first | done | rfl | (simp only [List.length_drop, List.length_take]; rfl)) ?_; (with_reducible refine (exequaturref01_Unquote.calls kj9 x8_9 t167 true _ A21.out).mono ?_); rintro e w26 ⟨rfl, hb⟩; refine ⟨_, rfl, ?_⟩; have n0_ := Aside0.mk (Kd.R_below (by (with_reducible repeat (first | apply Kd.R_alloc | apply Kd.R_drewN | apply Kd.R_drew)); exact HO_4.out) hb); have n1_ := Aside0.mk (Kd.R_below (by (with_reducible repeat (first | apply Kd.R_alloc | apply Kd.R_drewN | apply Kd.R_drew)); exact HO_5.out) hb); have n2_ := Aside0.mk (below_step (by repeat (first | (with_reducible first | exact HB.out | apply below_alloc | apply pw_below_drewN | apply below_drew1) | exact HB.out)) hb); clear HO_4; clear HO_5; clear HB; have HO_4 := n0_; have HO_5 := n1_; have HB := n2_; clear n0_ n1_ n2_; (try clear hb); (try clear hb2); (try clear hk); (try clear hi)) | ((with_reducible refine gate_builtin (b := .append) (xs := #[.tmp 69, .tmp 73]) rfl ?_); at_builtin; refine Kd.R_append k39 (w0 := w) w.heap.size rfl (.tmp 69) (.tmp 73) 37 39 (.agg #[(.string ⟨#[]⟩), (.string ⟨#[]⟩)]) 32 rfl Tryd.underlying37 info39 rfl (by decide) (by omega) u4 x4_1 (⟨t165, t167⟩ : S39) [.string t165, .string t167] (fun _ => True) (fun _ => False) rfl rfl ?aP (fun _ hk => hk.elim) ?aF ?aO ?aB ?aS ?aL ?_; (case aP => exact k39_mkM _ _ _ (⟨t165, t167⟩ : S39)); (case aB => exact (by repeat (first | (with_reducible first | exact HB.out | apply below_alloc | apply pw_below_drewN | apply below_drew1) | exact HB.out))); (case aF => exact (fun _ _ => trivial)); (case aO => exact (by (with_reducible repeat (first | apply Kd.R_alloc | apply Kd.R_drewN | apply Kd.R_drew)); exact HO_4.out)); (case aS => exact (below_size (by repeat (first | (with_reducible first | exact HB.out | apply below_alloc | apply pw_below_drewN | apply below_drew1) | exact HB.out)))); (case aL => have := LMc24.out; omega); intro v170 w27 ho hb hg hat; rw [← Ny169.out] at ho; have n0_ := Aside0.mk (Kd.R_over' (by (with_reducible repeat (first | apply Kd.R_alloc | apply Kd.R_drewN | apply Kd.R_drew)); exact HO_5.out) (Kd.R_typed (by (with_reducible repeat (first | apply Kd.R_alloc | apply Kd.R_drewN | apply Kd.R_drew)); exact HO_4.out)) (by decide) hg); have n1_ := Aside0.mk (hb); have n2_ := Aside0.mk (ho); clear HO_5; clear HB; clear HO_4; have HO_5 := n0_; have HB := n1_; have HO171 := n2_; clear n0_ n1_ n2_; clear ho hb hg hat))
          go_roundg kj9
          case measure => have := HK1.out; have := HJ9.out; omega
          case rel => exact ⟨(y169), (wrap64 (x6_1 + 1)), (by first | rfl | (simp; done) | (simp [*]; done) | (refine congrArg Value.bool ?_; rw [Bool.eq_iff_iff]; simp; done)), H', ⟨by have := HK1.out; have := HJ9.out; omega⟩, ⟨by (with_reducible repeat (first | apply Kd.R_alloc | apply Kd.R_drewN | apply Kd.R_drew)); exact HO171.out⟩, ⟨by (with_reducible repeat (first | apply Kd.R_alloc | apply Kd.R_drewN | apply Kd.R_drew)); exact HO_5.out⟩, ⟨by repeat (first | (with_reducible first | exact HB.out | apply below_alloc | apply pw_below_drewN | apply below_drew1) | exact HB.out)⟩⟩
         ·replace c23 := Bool.eq_false_iff.mpr c23
          subst c23
          have H1 : (some (([] : List (S39)), 2)) = some (r1, r2) := by rw [if_neg (show ¬ (false = true) by decide)] at H; exact H
          clear H
          have H := H1
          clear H1
          simp only [Option.some.injEq, Prod.mk.injEq] at H
          obtain ⟨rfl, rfl⟩ := H
          have p164 : 0 ≤ (x6_1 : Int) := of_decide_eq_true (by first | (with_reducible assumption) | assumption)
          have q164 : x6_1 < (t156.length : Int) := of_decide_eq_true (by first | (with_reducible assumption) | assumption)
          obtain ⟨ad164, e164, hx164_0⟩ := Kd.at_string (Kd.R_reads' HO_5.out).2.2 x6_1 p164 q164
          obtain rfl : ad159 = ad164 := (by injection e164)
          replace p164 := eq_true p164
          replace q164 := eq_true q164
          go_wp2_with (first | ((with_reducible refine gate_callee (f := 42) rfl ?_); refine goesL_ (some 55) rfl rfl Tryd.func42 (by kernel_rfl) rfl #[.string ((rdOf ByteArray.empty t156 x6_1).extract 0 (t161 : Int).toNat)] rfl (by (try simp only [List.map_toArray, List.map_cons, List.map_nil]); first | done | rfl | (simp only [List.length_drop, List.length_take]; rfl)) ?_; (with_reducible refine (exequaturref01_Unquote.calls kj9 ((rdOf ByteArray.empty t156 x6_1).extract 0 (t161 : Int).toNat) t165 true _ A20.out).mono ?_); rintro e w28 ⟨rfl, hb⟩; refine ⟨_, rfl, ?_⟩; have n0_ := Aside0.mk (Kd.R_below (by (with_reducible repeat (first | apply Kd.R_alloc | apply Kd.R_drewN | apply Kd.R_drew)); exact HO_4.out) hb); have n1_ := Aside0.mk (Kd.R_below (by (with_reducible repeat (first | apply Kd.R_alloc | apply Kd.R_drewN | apply Kd.R_drew)); exact HO_5.out) hb); have n2_ := Aside0.mk (below_step (by repeat (first | (with_reducible first | exact HB.out | apply below_alloc | apply pw_below_drewN | apply below_drew1) | exact HB.out)) hb); clear HO_4; clear HO_5; clear HB; have HO_4 := n0_; have HO_5 := n1_; have HB := n2_; clear n0_ n1_ n2_; (try clear hb); (try clear hb2); (try clear hk); (try clear hi)) | ((with_reducible refine gate_callee (f := 42) rfl ?_); refine goesL_ (some 60) rfl rfl Tryd.func42 (by kernel_rfl) rfl #[.string x8_9] rfl (by (try simp only [List.map_toArray, List.map_cons, List.map_nil]); first | done | rfl | (simp only [List.length_drop, List.length_take]; rfl)) ?_; (with_reducible refine (exequaturref01_Unquote.calls kj9 x8_9 t167 false _ A21.out).mono ?_); rintro e w29 ⟨rfl, hb⟩; refine ⟨_, rfl, ?_⟩; have n0_ := Aside0.mk (Kd.R_below (by (with_reducible repeat (first | apply Kd.R_alloc | apply Kd.R_drewN | apply Kd.R_drew)); exact HO_4.out) hb); have n1_ := Aside0.mk (Kd.R_below (by (with_reducible repeat (first | apply Kd.R_alloc | apply Kd.R_drewN | apply Kd.R_drew)); exact HO_5.out) hb); have n2_ := Aside0.mk (below_step (by repeat (first | (with_reducible first | exact HB.out | apply below_alloc | apply pw_below_drewN | apply below_drew1) | exact HB.out)) hb); clear HO_4; clear HO_5; clear HB; have HO_4 := n0_; have HO_5 := n1_; have HB := n2_; clear n0_ n1_ n2_; (try clear hb); (try clear hb2); (try clear hk); (try clear hi)))
          go_ret2
          first | (exact ⟨_, by first | rfl | (simp [errW_none, errW_some] <;> rfl) | (simp [*, errW_none, errW_some] <;> rfl), by first | exact Kd.R_nil _ _ _ _ _ | exact Kd.N_nil _ _ _ _ _ | exact Kd.V_nil _ _ _ _ _ | exact Kd.Q_nil _ _ _ _ _ | exact Kd.S_nil _ _ _ _ _, by repeat (first | (with_reducible first | exact HB.out | apply below_alloc | apply pw_below_drewN | apply below_drew1) | exact HB.out)⟩) | (focus (exfalso; simp_all; done))
          all_goals (first | (exfalso; simp_all <;> omega) | (go_ret; exact ⟨_, by first | rfl | (simp [errW_none, errW_some] <;> rfl) | (simp [*, errW_none, errW_some] <;> rfl), by first | exact Kd.R_nil _ _ _ _ _ | exact Kd.N_nil _ _ _ _ _ | exact Kd.V_nil _ _ _ _ _ | exact Kd.Q_nil _ _ _ _ _ | exact Kd.S_nil _ _ _ _ _, by repeat (first | (with_reducible first | exact HB.out | apply below_alloc | apply pw_below_drewN | apply below_drew1) | exact HB.out)⟩))
        ·replace c22 := Bool.eq_false_iff.mpr c22
         subst c22
         have H1 : (some (([] : List (S39)), 2)) = some (r1, r2) := by rw [if_neg (show ¬ (false = true) by decide)] at H; exact H
         clear H
         have H := H1
         clear H1
         simp only [Option.some.injEq, Prod.mk.injEq] at H
         obtain ⟨rfl, rfl⟩ := H
         have p164 : 0 ≤ (x6_1 : Int) := of_decide_eq_true (by first | (with_reducible assumption) | assumption)
         have q164 : x6_1 < (t156.length : Int) := of_decide_eq_true (by first | (with_reducible assumption) | assumption)
         obtain ⟨ad164, e164, hx164_0⟩ := Kd.at_string (Kd.R_reads' HO_5.out).2.2 x6_1 p164 q164
         obtain rfl : ad159 = ad164 := (by injection e164)
         replace p164 := eq_true p164
         replace q164 := eq_true q164
         go_wp2_with (first | ((with_reducible refine gate_callee (f := 42) rfl ?_); refine goesL_ (some 55) rfl rfl Tryd.func42 (by kernel_rfl) rfl #[.string ((rdOf ByteArray.empty t156 x6_1).extract 0 (t161 : Int).toNat)] rfl (by (try simp only [List.map_toArray, List.map_cons, List.map_nil]); first | done | rfl | (simp only [List.length_drop, List.length_take]; rfl)) ?_; (with_reducible refine (exequaturref01_Unquote.calls kj9 ((rdOf ByteArray.empty t156 x6_1).extract 0 (t161 : Int).toNat) t165 false _ A20.out).mono ?_); rintro e w30 ⟨rfl, hb⟩; refine ⟨_, rfl, ?_⟩; have n0_ := Aside0.mk (Kd.R_below (by (with_reducible repeat (first | apply Kd.R_alloc | apply Kd.R_drewN | apply Kd.R_drew)); exact HO_4.out) hb); have n1_ := Aside0.mk (Kd.R_below (by (with_reducible repeat (first | apply Kd.R_alloc | apply Kd.R_drewN | apply Kd.R_drew)); exact HO_5.out) hb); have n2_ := Aside0.mk (below_step (by repeat (first | (with_reducible first | exact HB.out | apply below_alloc | apply pw_below_drewN | apply below_drew1) | exact HB.out)) hb); clear HO_4; clear HO_5; clear HB; have HO_4 := n0_; have HO_5 := n1_; have HB := n2_; clear n0_ n1_ n2_; (try clear hb); (try clear hb2); (try clear hk); (try clear hi)) | ((with_reducible refine gate_callee (f := 42) rfl ?_); refine goesL_ (some 60) rfl rfl Tryd.func42 (by kernel_rfl) rfl #[.string x8_9] rfl (by (try simp only [List.map_toArray, List.map_cons, List.map_nil]); first | done | rfl | (simp only [List.length_drop, List.length_take]; rfl)) ?_; (with_reducible refine (exequaturref01_Unquote.calls kj9 x8_9 t167 t168 _ A21.out).mono ?_); rintro e w31 ⟨rfl, hb⟩; refine ⟨_, rfl, ?_⟩; have n0_ := Aside0.mk (Kd.R_below (by (with_reducible repeat (first | apply Kd.R_alloc | apply Kd.R_drewN | apply Kd.R_drew)); exact HO_4.out) hb); have n1_ := Aside0.mk (Kd.R_below (by (with_reducible repeat (first | apply Kd.R_alloc | apply Kd.R_drewN | apply Kd.R_drew)); exact HO_5.out) hb); have n2_ := Aside0.mk (below_step (by repeat (first | (with_reducible first | exact HB.out | apply below_alloc | apply pw_below_drewN | apply below_drew1) | exact HB.out)) hb); clear HO_4; clear HO_5; clear HB; have HO_4 := n0_; have HO_5 := n1_; have HB := n2_; clear n0_ n1_ n2_; (try clear hb); (try clear hb2); (try clear hk); (try clear hi)))
         go_ret2
         first | (exact ⟨_, by first | rfl | (simp [errW_none, errW_some] <;> rfl) | (simp [*, errW_none, errW_some] <;> rfl), by first | exact Kd.R_nil _ _ _ _ _ | exact Kd.N_nil _ _ _ _ _ | exact Kd.V_nil _ _ _ _ _ | exact Kd.Q_nil _ _ _ _ _ | exact Kd.S_nil _ _ _ _ _, by repeat (first | (with_reducible first | exact HB.out | apply below_alloc | apply pw_below_drewN | apply below_drew1) | exact HB.out)⟩) | (focus (exfalso; simp_all; done))
         all_goals (first | (exfalso; simp_all <;> omega) | (go_ret; exact ⟨_, by first | rfl | (simp [errW_none, errW_some] <;> rfl) | (simp [*, errW_none, errW_some] <;> rfl), by first | exact Kd.R_nil _ _ _ _ _ | exact Kd.N_nil _ _ _ _ _ | exact Kd.V_nil _ _ _ _ _ | exact Kd.Q_nil _ _ _ _ _ | exact Kd.S_nil _ _ _ _ _, by repeat (first | (with_reducible first | exact HB.out | apply below_alloc | apply pw_below_drewN | apply below_drew1) | exact HB.out)⟩))
    ·rw [if_neg c5] at H
     have c5b0 : decide (x6_1 < (t156.length : Int)) = false := decide_eq_false c5
     clear c5
     by_cases c32 : (x4_1.length : Int) > 64
     ·rw [if_pos c32] at H
      have c32b0 : decide (64 < (x4_1.length : Int)) = true := decide_eq_true c32
      have c32b1 : decide (64 < x4_1.length) = true := decide_eq_true (by omega)
      clear c32
      simp only [Option.some.injEq, Prod.mk.injEq] at H
      obtain ⟨rfl, rfl⟩ := H
      obtain ⟨Ao33, co33, eo33⟩ := Kd.R_slice HO_5.out
      subst eo33
      obtain ⟨Ao34, co34, eo34⟩ := Kd.R_slice HO_4.out
      subst eo34
      go_wp2
      go_ret2
      first | (exact ⟨_, by first | rfl | (simp [errW_none, errW_some] <;> rfl) | (simp [*, errW_none, errW_some] <;> rfl), by first | exact Kd.R_nil _ _ _ _ _ | exact Kd.N_nil _ _ _ _ _ | exact Kd.V_nil _ _ _ _ _ | exact Kd.Q_nil _ _ _ _ _ | exact Kd.S_nil _ _ _ _ _, by repeat (first | (with_reducible first | exact HB.out | apply below_alloc | apply pw_below_drewN | apply below_drew1) | exact HB.out)⟩) | (focus (exfalso; simp_all; done))
      all_goals (first | (exfalso; simp_all <;> omega) | (go_ret; exact ⟨_, by first | rfl | (simp [errW_none, errW_some] <;> rfl) | (simp [*, errW_none, errW_some] <;> rfl), by first | exact Kd.R_nil _ _ _ _ _ | exact Kd.N_nil _ _ _ _ _ | exact Kd.V_nil _ _ _ _ _ | exact Kd.Q_nil _ _ _ _ _ | exact Kd.S_nil _ _ _ _ _, by repeat (first | (with_reducible first | exact HB.out | apply below_alloc | apply pw_below_drewN | apply below_drew1) | exact HB.out)⟩))
     ·rw [if_neg c32] at H
      have c32b0 : decide (64 < (x4_1.length : Int)) = false := decide_eq_false c32
      have c32b1 : decide (64 < x4_1.length) = false := decide_eq_false (by omega)
      clear c32
      simp only [Option.some.injEq, Prod.mk.injEq] at H
      obtain ⟨rfl, rfl⟩ := H
      obtain ⟨Ao35, co35, eo35⟩ := Kd.R_slice HO_5.out
      subst eo35
      obtain ⟨Ao36, co36, eo36⟩ := Kd.R_slice HO_4.out
      subst eo36
      go_wp2
      go_ret2
      first | (exact ⟨_, by first | rfl | (simp [errW_none, errW_some] <;> rfl) | (simp [*, errW_none, errW_some] <;> rfl), by (with_reducible repeat (first | apply Kd.R_alloc | apply Kd.R_drewN | apply Kd.R_drew)); exact HO_4.out, by repeat (first | (with_reducible first | exact HB.out | apply below_alloc | apply pw_below_drewN | apply below_drew1) | exact HB.out)⟩) | (focus (exfalso; simp_all; done))
      all_goals (first | (exfalso; simp_all <;> omega) | (go_ret; exact ⟨_, by first | rfl | (simp [errW_none, errW_some] <;> rfl) | (simp [*, errW_none, errW_some] <;> rfl), by (with_reducible repeat (first | apply Kd.R_alloc | apply Kd.R_drewN | apply Kd.R_drew)); exact HO_4.out, by repeat (first | (with_reducible first | exact HB.out | apply below_alloc | apply pw_below_drewN | apply below_drew1) | exact HB.out)⟩))

/-! ### exequaturref01_Twice: function 24 -/
mutual
def exequaturref01_Twice.l0 : Nat → List (S39) → Int → Option (Bool)
  | 0, _, _ => none
  | k + 1, x0, x3 => if x3 < (x0.length : Int) then (exequaturref01_Twice.l1 k x0 x3 0) else (some false)
def exequaturref01_Twice.l1 : Nat → List (S39) → Int → Int → Option (Bool)
  | 0, _, _, _ => none
  | k + 1, x0, x3, x4 => if x4 < x3 then (if 0 ≤ x3 then (if x3 < (x0.length : Int) then (if 0 ≤ x4 then (if x4 < (x0.length : Int) then (if ((rd_T39 x0 x3).f0).toList = ((rd_T39 x0 x4).f0).toList then (some true) else (exequaturref01_Twice.l1 k x0 x3 (wrap64 (x4 + 1)))) else (none)) else (none)) else (none)) else (none)) else (exequaturref01_Twice.l0 k x0 (wrap64 (x3 + 1)))
end
def exequaturref01_Twice.f (k : Nat) (l0 : List (S39)) : Option (Bool) := exequaturref01_Twice.l0 k l0 0
theorem exequaturref01_Twice.mono_l : ∀ k, (∀ y0 y1, LeO (exequaturref01_Twice.l0 k y0 y1) (exequaturref01_Twice.l0 (k + 1) y0 y1)) ∧ (∀ y0 y1 y2, LeO (exequaturref01_Twice.l1 k y0 y1 y2) (exequaturref01_Twice.l1 (k + 1) y0 y1 y2))
  | 0 => ⟨fun _ _ r h => by simp [exequaturref01_Twice.l0] at h, fun _ _ _ r h => by simp [exequaturref01_Twice.l1] at h⟩
  | k + 1 => by
    obtain ⟨ih0, ih1⟩ := exequaturref01_Twice.mono_l k
    refine ⟨?_, ?_⟩
    · intro y0 y1
      unfold exequaturref01_Twice.l0
      repeat' first
      | (with_reducible exact ih0 _ _)
      | (with_reducible exact ih1 _ _ _)
      | (with_reducible exact LeO.refl _)
      | (with_reducible exact LeO.none _)
      | (with_reducible refine LeO.ite ?_ ?_)
      | (with_reducible refine LeO.bind ?_ (fun _ => ?_))
      | exact ih0 _ _
      | exact ih1 _ _ _
      | exact LeO.none _
      | refine LeO.ite ?_ ?_
      | refine LeO.bind ?_ (fun _ => ?_)
    · intro y0 y1 y2
      unfold exequaturref01_Twice.l1
      repeat' first
      | (with_reducible exact ih0 _ _)
      | (with_reducible exact ih1 _ _ _)
      | (with_reducible exact LeO.refl _)
      | (with_reducible exact LeO.none _)
      | (with_reducible refine LeO.ite ?_ ?_)
      | (with_reducible refine LeO.bind ?_ (fun _ => ?_))
      | exact ih0 _ _
      | exact ih1 _ _ _
      | exact LeO.none _
      | refine LeO.ite ?_ ?_
      | refine LeO.bind ?_ (fun _ => ?_)
theorem exequaturref01_Twice.mono : ∀ a0 k, LeO (exequaturref01_Twice.f k a0) (exequaturref01_Twice.f (k + 1) a0) := by
  intro a0 k
  obtain ⟨ih0, ih1⟩ := exequaturref01_Twice.mono_l k
  unfold exequaturref01_Twice.f
  repeat' first
      | (with_reducible exact ih0 _ _)
      | (with_reducible exact ih1 _ _ _)
      | (with_reducible exact LeO.refl _)
      | (with_reducible exact LeO.none _)
      | (with_reducible refine LeO.ite ?_ ?_)
      | (with_reducible refine LeO.bind ?_ (fun _ => ?_))
      | exact ih0 _ _
      | exact ih1 _ _ _
      | exact LeO.none _
      | refine LeO.ite ?_ ?_
      | refine LeO.bind ?_ (fun _ => ?_)
set_option maxHeartbeats 8000000 in
set_option maxRecDepth 100000 in
theorem exequaturref01_Twice.calls (k : Nat) (A0 : Option Addr) (c0 : Nat) (l0 : List (S39)) (r : Bool) (w : World) (hr0 : Kd.C k39 w A0 l0.length l0) (hc0 : l0.length ≤ c0) (h : exequaturref01_Twice.f k l0 = some r) :
  Calls Tryd.prog 24 #[.slice A0 l0.length c0] w fun e w' => e = .returned (.bool r) ∧ Drawn0 w w' := by
 have HR0 := Aside0.mk hr0
 have HC0 := Aside0.mk hc0
 clear hr0 hc0
 have H : (exequaturref01_Twice.l0 k l0 0) = some r := h
 clear h
 have H' := Aside0.mk H
 clear H
 go_enter Tryd.func24, Tryd.ntmps24
 go_wp2
 repeat (go_quiet (fail); try go_wp2)
 go_loopg [3] k (fun kq v3 w' => ∃ (x3_1 : Int), v3 = .int .i64 x3_1 ∧ Aside0 (exequaturref01_Twice.l0 kq l0 x3_1 = some r) ∧ Aside0 (kq ≤ k) ∧ Drawn0 w w')
 case atStart => exact ⟨(0), (by first | rfl | (simp; done) | (simp [*]; done) | (refine congrArg Value.bool ?_; rw [Bool.eq_iff_iff]; simp; done)), H', ⟨Nat.le_refl _⟩, by repeat (first | exact Drawn0.refl _ | apply Drawn0.step)⟩
 case round =>
  clear H'
  obtain ⟨x3_1, rfl, HA, HK1, ⟨m1, rfl⟩⟩ := hrel
  cases gk with
  | zero => exact absurd HA.out (by simp [exequaturref01_Twice.l0])
  | succ k1 =>
   have H := HA.out
   clear HA
   simp only [exequaturref01_Twice.l0] at H
   by_cases c2 : x3_1 < (l0.length : Int)
   ·rw [if_pos c2] at H
    have c2b0 : decide (x3_1 < (l0.length : Int)) = true := decide_eq_true c2
    clear c2
    have H' := Aside0.mk H
    clear H
    go_wp2
    repeat (go_quiet (fail); try go_wp2)
    go_loopg [4] k1 (fun kq v4 w' => ∃ (x4_2 : Int), v4 = .int .i64 x4_2 ∧ Aside0 (exequaturref01_Twice.l1 kq l0 x3_1 x4_2 = some r) ∧ Aside0 (kq ≤ k1) ∧ Drawn0 w w')
    case atStart => exact ⟨(0), (by first | rfl | (simp; done) | (simp [*]; done) | (refine congrArg Value.bool ?_; rw [Bool.eq_iff_iff]; simp; done)), H', ⟨Nat.le_refl _⟩, by repeat (first | exact Drawn0.refl _ | apply Drawn0.step)⟩
    case round =>
     clear H'
     try clear c2; try clear c2b0; try clear p2
     obtain ⟨x4_2, rfl, HA, HK2, ⟨m2, rfl⟩⟩ := hrel
     cases gk with
     | zero => exact absurd HA.out (by simp [exequaturref01_Twice.l1])
     | succ k2 =>
      have H := HA.out
      clear HA
      simp only [exequaturref01_Twice.l1] at H
      by_cases c3 : x4_2 < x3_1
      ·rw [if_pos c3] at H
       have c3b0 : decide (x4_2 < x3_1) = true := decide_eq_true c3
       clear c3
       by_cases c4 : 0 ≤ x3_1
       rotate_left
       ·rw [if_neg c4] at H; exact absurd H (by simp)
       rw [if_pos c4] at H
       have c4b0 : decide (0 ≤ x3_1) = true := decide_eq_true c4
       clear c4
       by_cases c5 : x3_1 < (l0.length : Int)
       rotate_left
       ·rw [if_neg c5] at H; exact absurd H (by simp)
       rw [if_pos c5] at H
       have c5b0 : decide (x3_1 < (l0.length : Int)) = true := decide_eq_true c5
       clear c5
       by_cases c6 : 0 ≤ x4_2
       rotate_left
       ·rw [if_neg c6] at H; exact absurd H (by simp)
       rw [if_pos c6] at H
       have c6b0 : decide (0 ≤ x4_2) = true := decide_eq_true c6
       clear c6
       by_cases c7 : x4_2 < (l0.length : Int)
       rotate_left
       ·rw [if_neg c7] at H; exact absurd H (by simp)
       rw [if_pos c7] at H
       have c7b0 : decide (x4_2 < (l0.length : Int)) = true := decide_eq_true c7
       clear c7
       by_cases c8 : ((rd_T39 l0 x3_1).f0).toList = ((rd_T39 l0 x4_2).f0).toList
       ·rw [if_pos c8] at H
        have c8b0 : (((rd_T39 l0 x3_1).f0).toList == ((rd_T39 l0 x4_2).f0).toList) = true := beq_iff_eq.mpr c8
        have c8b1 : (((rd_T39 l0 x3_1).f0).toList != ((rd_T39 l0 x4_2).f0).toList) = false := bne_eq_false_iff_eq.mpr c8
        clear c8
        obtain rfl := Option.some.inj H
        have p172 : 0 ≤ (x3_1 : Int) := of_decide_eq_true (by first | (with_reducible assumption) | assumption)
        have q172 : x3_1 < (l0.length : Int) := of_decide_eq_true (by first | (with_reducible assumption) | assumption)
        obtain ⟨ad172, e172, hx172_0, hx172_1⟩ := at_T39 HR0.out x3_1 p172 q172
        cases e172
        replace p172 := eq_true p172
        replace q172 := eq_true q172
        have p173 : 0 ≤ (x4_2 : Int) := of_decide_eq_true (by first | (with_reducible assumption) | assumption)
        have q173 : x4_2 < (l0.length : Int) := of_decide_eq_true (by first | (with_reducible assumption) | assumption)
        obtain ⟨ad173, e173, hx173_0, hx173_1⟩ := at_T39 HR0.out x4_2 p173 q173
        obtain rfl : ad172 = ad173 := (by injection e173)
        replace p173 := eq_true p173
        replace q173 := eq_true q173
        go_wp2
        repeat (go_quiet (fail); try go_wp2)
        go_ret
        exact ⟨by first | rfl | (simp; done) | (simp [*]; done) | (refine congrArg Value.bool ?_; rw [Bool.eq_iff_iff]; simp; done), by repeat (first | exact Drawn0.refl _ | apply Drawn0.step)⟩
       ·rw [if_neg c8] at H
        have c8b0 : (((rd_T39 l0 x3_1).f0).toList == ((rd_T39 l0 x4_2).f0).toList) = false := beq_eq_false_iff_ne.mpr c8
        have c8b1 : (((rd_T39 l0 x3_1).f0).toList != ((rd_T39 l0 x4_2).f0).toList) = true := bne_iff_ne.mpr c8
        have H' := Aside0.mk H
        clear H
        have p172 : 0 ≤ (x3_1 : Int) := of_decide_eq_true (by first | (with_reducible assumption) | assumption)
        have q172 : x3_1 < (l0.length : Int) := of_decide_eq_true (by first | (with_reducible assumption) | assumption)
        obtain ⟨ad172, e172, hx172_0, hx172_1⟩ := at_T39 HR0.out x3_1 p172 q172
        cases e172
        replace p172 := eq_true p172
        replace q172 := eq_true q172
        have p173 : 0 ≤ (x4_2 : Int) := of_decide_eq_true (by first | (with_reducible assumption) | assumption)
        have q173 : x4_2 < (l0.length : Int) := of_decide_eq_true (by first | (with_reducible assumption) | assumption)
        obtain ⟨ad173, e173, hx173_0, hx173_1⟩ := at_T39 HR0.out x4_2 p173 q173
        obtain rfl : ad172 = ad173 := (by injection e173)
        replace p173 := eq_true p173
        replace q173 := eq_true q173
        go_wp2
        repeat (go_quiet (fail); try go_wp2)
        go_roundg k2
        case measure => have := HK1.out; have := HK2.out; omega
        case rel => exact ⟨(wrap64 (x4_2 + 1)), (by first | rfl | (simp; done) | (simp [*]; done) | (refine congrArg Value.bool ?_; rw [Bool.eq_iff_iff]; simp; done)), H', ⟨by have := HK1.out; have := HK2.out; omega⟩, by repeat (first | exact Drawn0.refl _ | apply Drawn0.step)⟩
      ·rw [if_neg c3] at H
       have c3b0 : decide (x4_2 < x3_1) = false := decide_eq_false c3
       clear c3
       have H' := Aside0.mk H
       clear H
       go_wp2
       repeat (go_quiet (fail); try go_wp2)
       go_roundg k2
       case measure => have := HK1.out; have := HK2.out; omega
       case rel => exact ⟨(wrap64 (x3_1 + 1)), (by first | rfl | (simp; done) | (simp [*]; done) | (refine congrArg Value.bool ?_; rw [Bool.eq_iff_iff]; simp; done)), H', ⟨by have := HK1.out; have := HK2.out; omega⟩, by repeat (first | exact Drawn0.refl _ | apply Drawn0.step)⟩
   ·rw [if_neg c2] at H
    have c2b0 : decide (x3_1 < (l0.length : Int)) = false := decide_eq_false c2
    clear c2
    obtain rfl := Option.some.inj H
    go_wp2
    repeat (go_quiet (fail); try go_wp2)
    go_ret
    exact ⟨by first | rfl | (simp; done) | (simp [*]; done) | (refine congrArg Value.bool ?_; rw [Bool.eq_iff_iff]; simp; done), by repeat (first | exact Drawn0.refl _ | apply Drawn0.step)⟩

/-! ### exequaturref01_sixty: function 28 -/
def exequaturref01_sixty.f (a0 : Int) : Option (Int) := if 0 ≤ a0 then (if a0 < 64 then (some (bt (⟨#[65, 66, 67, 68, 69, 70, 71, 72, 73, 74, 75, 76, 77, 78, 79, 80, 81, 82, 83, 84, 85, 86, 87, 88, 89, 90, 97, 98, 99, 100, 101, 102, 103, 104, 105, 106, 107, 108, 109, 110, 111, 112, 113, 114, 115, 116, 117, 118, 119, 120, 121, 122, 48, 49, 50, 51, 52, 53, 54, 55, 56, 57, 45, 95]⟩ : ByteArray) a0)) else (none)) else (none)
set_option maxHeartbeats 8000000 in
set_option maxRecDepth 100000 in
theorem exequaturref01_sixty.calls (a0 : Int) (r : Int) (w : World) (h : exequaturref01_sixty.f a0 = some r) :
  Calls Tryd.prog 28 #[.int .i64 a0] w fun e w' => e = .returned (.int .u8 r) ∧ Drawn0 w w' := by
 have H : (if 0 ≤ a0 then (if a0 < 64 then (some (bt (⟨#[65, 66, 67, 68, 69, 70, 71, 72, 73, 74, 75, 76, 77, 78, 79, 80, 81, 82, 83, 84, 85, 86, 87, 88, 89, 90, 97, 98, 99, 100, 101, 102, 103, 104, 105, 106, 107, 108, 109, 110, 111, 112, 113, 114, 115, 116, 117, 118, 119, 120, 121, 122, 48, 49, 50, 51, 52, 53, 54, 55, 56, 57, 45, 95]⟩ : ByteArray) a0)) else (none)) else (none)) = some r := h
 clear h
 by_cases c2 : 0 ≤ a0
 rotate_left
 ·rw [if_neg c2] at H; exact absurd H (by simp)
 rw [if_pos c2] at H
 have c2b0 : decide (0 ≤ a0) = true := decide_eq_true c2
 clear c2
 by_cases c3 : a0 < 64
 rotate_left
 ·rw [if_neg c3] at H; exact absurd H (by simp)
 rw [if_pos c3] at H
 have c3b0 : decide (a0 < 64) = true := decide_eq_true c3
 clear c3
 obtain rfl := Option.some.inj H
 have p4 : 0 ≤ (a0 : Int) := of_decide_eq_true (by first | (with_reducible assumption) | assumption)
 have q4 : a0 < (64 : Int) := of_decide_eq_true (by first | (with_reducible assumption) | assumption)
 have hx4 := bt_at (⟨#[65, 66, 67, 68, 69, 70, 71, 72, 73, 74, 75, 76, 77, 78, 79, 80, 81, 82, 83, 84, 85, 86, 87, 88, 89, 90, 97, 98, 99, 100, 101, 102, 103, 104, 105, 106, 107, 108, 109, 110, 111, 112, 113, 114, 115, 116, 117, 118, 119, 120, 121, 122, 48, 49, 50, 51, 52, 53, 54, 55, 56, 57, 45, 95]⟩ : ByteArray) a0
 replace p4 := eq_true p4
 replace q4 := eq_true q4
 go_enter Tryd.func28, Tryd.ntmps28
 go_wp2
 go_ret
 exact ⟨by first | rfl | (simp; done) | (simp [*]; done) | (refine congrArg Value.bool ?_; rw [Bool.eq_iff_iff]; simp; done), by repeat (first | exact Drawn0.refl _ | apply Drawn0.step)⟩

/-! ### exequaturref01_B64: function 14 -/
mutual
def exequaturref01_B64.l0 : Nat → ByteArray → List Int → Int → Option (ByteArray)
  | 0, _, _, _ => none
  | k + 1, x0, x3, x4 => if x4 < (x0.size : Int) then (exequaturref01_B64.l1 k x0 x3 x4 0 0 0) else (some (strOfNums x3))
def exequaturref01_B64.l1 : Nat → ByteArray → List Int → Int → Int → Int → Int → Option (ByteArray)
  | 0, _, _, _, _, _, _ => none
  | k + 1, x0, x3, x4, x5, x6, x7 => if x7 < 3 then (if (wrap64 (x4 + x7)) < (x0.size : Int) then (if 0 ≤ (wrap64 (x4 + x7)) then (exequaturref01_B64.l1 k x0 x3 x4 (wrap64 ((wrap64 (x5 * 256)) + (wrap64 (bt x0 (wrap64 (x4 + x7)))))) (wrap64 (x6 + 1)) (wrap64 (x7 + 1))) else (none)) else (exequaturref01_B64.l1 k x0 x3 x4 (wrap64 (x5 * 256)) x6 (wrap64 (x7 + 1)))) else ((exequaturref01_sixty.f (wrap64 (Int.tdiv x5 262144))).bind fun t174 => ((exequaturref01_sixty.f (Int.tmod (wrap64 (Int.tdiv x5 4096)) 64)).bind fun t175 => ((exequaturref01_sixty.f (Int.tmod (wrap64 (Int.tdiv x5 64)) 64)).bind fun t176 => ((exequaturref01_sixty.f (Int.tmod x5 64)).bind fun t177 => ((some (([t174, t175, t176, t177] : List Int) : List Int)).bind fun y178 => (if 0 ≤ (wrap64 (x6 + 1)) then (if (wrap64 (x6 + 1)) ≤ (y178.length : Int) then ((some (y178.take ((wrap64 (x6 + 1)) : Int).toNat : List Int)).bind fun y181 => (if x3.length + y181.length < 140737488355328 then (exequaturref01_B64.l0 k x0 (x3 ++ y181) (wrap64 (x4 + 3))) else (none))) else (none)) else (none)))))))
end
def exequaturref01_B64.f (k : Nat) (a0 : ByteArray) : Option (ByteArray) := exequaturref01_B64.l0 k a0 ([] : List Int) 0
theorem exequaturref01_B64.mono_l : ∀ k, (∀ y0 y1 y2, LeO (exequaturref01_B64.l0 k y0 y1 y2) (exequaturref01_B64.l0 (k + 1) y0 y1 y2)) ∧ (∀ y0 y1 y2 y3 y4 y5, LeO (exequaturref01_B64.l1 k y0 y1 y2 y3 y4 y5) (exequaturref01_B64.l1 (k + 1) y0 y1 y2 y3 y4 y5))
  | 0 => ⟨fun _ _ _ r h => by simp [exequaturref01_B64.l0] at h, fun _ _ _ _ _ _ r h => by simp [exequaturref01_B64.l1] at h⟩
  | k + 1 => by
    obtain ⟨ih0, ih1⟩ := exequaturref01_B64.mono_l k
    refine ⟨?_, ?_⟩
    · intro y0 y1 y2
      unfold exequaturref01_B64.l0
      repeat' first
      | (with_reducible exact ih0 _ _ _)
      | (with_reducible exact ih1 _ _ _ _ _ _)
      | (with_reducible exact LeO.refl _)
      | (with_reducible exact LeO.none _)
      | (with_reducible refine LeO.ite ?_ ?_)
      | (with_reducible refine LeO.bind ?_ (fun _ => ?_))
      | exact ih0 _ _ _
      | exact ih1 _ _ _ _ _ _
      | exact LeO.none _
      | refine LeO.ite ?_ ?_
      | refine LeO.bind ?_ (fun _ => ?_)
    · intro y0 y1 y2 y3 y4 y5
      unfold exequaturref01_B64.l1
      repeat' first
      | (with_reducible exact ih0 _ _ _)
      | (with_reducible exact ih1 _ _ _ _ _ _)
      | (with_reducible exact LeO.refl _)
      | (with_reducible exact LeO.none _)
      | (with_reducible refine LeO.ite ?_ ?_)
      | (with_reducible refine LeO.bind ?_ (fun _ => ?_))
      | exact ih0 _ _ _
      | exact ih1 _ _ _ _ _ _
      | exact LeO.none _
      | refine LeO.ite ?_ ?_
      | refine LeO.bind ?_ (fun _ => ?_)
theorem exequaturref01_B64.mono : ∀ a0 k, LeO (exequaturref01_B64.f k a0) (exequaturref01_B64.f (k + 1) a0) := by
  intro a0 k
  obtain ⟨ih0, ih1⟩ := exequaturref01_B64.mono_l k
  unfold exequaturref01_B64.f
  repeat' first
      | (with_reducible exact ih0 _ _ _)
      | (with_reducible exact ih1 _ _ _ _ _ _)
      | (with_reducible exact LeO.refl _)
      | (with_reducible exact LeO.none _)
      | (with_reducible refine LeO.ite ?_ ?_)
      | (with_reducible refine LeO.bind ?_ (fun _ => ?_))
      | exact ih0 _ _ _
      | exact ih1 _ _ _ _ _ _
      | exact LeO.none _
      | refine LeO.ite ?_ ?_
      | refine LeO.bind ?_ (fun _ => ?_)
set_option maxHeartbeats 8000000 in
set_option maxRecDepth 100000 in
theorem exequaturref01_B64.calls (k : Nat) (a0 : ByteArray) (r : ByteArray) (w : World) (h : exequaturref01_B64.f k a0 = some r) :
  Calls Tryd.prog 14 #[.string a0] w fun e w' => e = .returned (.string r) ∧ Below w.heap.size w w' := by
 have HB := Aside0.mk (Below.refl w.heap.size w)
 have H : (exequaturref01_B64.l0 k a0 ([] : List Int) 0) = some r := h
 clear h
 have H' := Aside0.mk H
 clear H
 go_enter Tryd.func14, Tryd.ntmps14
 go_wp2
 go_loopg [3, 4] k (fun kq v3 v4 w' => ∃ (x3_1 : List Int) (x4_1 : Int), v4 = .int .i64 x4_1 ∧ Aside0 (exequaturref01_B64.l0 kq a0 x3_1 x4_1 = some r) ∧ Aside0 (kq ≤ k) ∧ Aside0 (Kd.R (Kd.int .u8) 5 w' w.heap.size (fun _ => True) v3 x3_1) ∧ Aside0 (Below w.heap.size w w'))
 case atStart => exact ⟨(([] : List Int)), (0), (by first | rfl | (simp; done) | (simp [*]; done) | (refine congrArg Value.bool ?_; rw [Bool.eq_iff_iff]; simp; done)), H', ⟨Nat.le_refl _⟩, ⟨by first | exact Kd.R_nil _ _ _ _ _ | exact Kd.N_nil _ _ _ _ _ | exact Kd.V_nil _ _ _ _ _ | exact Kd.Q_nil _ _ _ _ _ | exact Kd.S_nil _ _ _ _ _⟩, ⟨by repeat (first | (with_reducible first | exact HB.out | apply below_alloc | apply pw_below_drewN | apply below_drew1) | exact HB.out)⟩⟩
 case round =>
  clear H'
  try clear c1
  obtain ⟨x3_1, x4_1, rfl, HA, HK1, HO_3, HB⟩ := hrel
  cases gk with
  | zero => exact absurd HA.out (by simp [exequaturref01_B64.l0])
  | succ k1 =>
   have H := HA.out
   clear HA
   simp only [exequaturref01_B64.l0] at H
   by_cases c2 : x4_1 < (a0.size : Int)
   ·rw [if_pos c2] at H
    have c2b0 : decide (x4_1 < (a0.size : Int)) = true := decide_eq_true c2
    clear c2
    have H' := Aside0.mk H
    clear H
    go_wp2
    go_loopg [5, 6, 7] k1 (fun kq v5 v6 v7 w' => ∃ (x5_2 : Int) (x6_2 : Int) (x7_2 : Int), v5 = .int .i64 x5_2 ∧ v6 = .int .i64 x6_2 ∧ v7 = .int .i64 x7_2 ∧ Aside0 (exequaturref01_B64.l1 kq a0 x3_1 x4_1 x5_2 x6_2 x7_2 = some r) ∧ Aside0 (kq ≤ k1) ∧ Aside0 (Kd.R (Kd.int .u8) 5 w' w.heap.size (fun _ => True) u3 x3_1) ∧ Aside0 (Below w.heap.size w w'))
    case atStart => exact ⟨(0), (0), (0), (by first | rfl | (simp; done) | (simp [*]; done) | (refine congrArg Value.bool ?_; rw [Bool.eq_iff_iff]; simp; done)), (by first | rfl | (simp; done) | (simp [*]; done) | (refine congrArg Value.bool ?_; rw [Bool.eq_iff_iff]; simp; done)), (by first | rfl | (simp; done) | (simp [*]; done) | (refine congrArg Value.bool ?_; rw [Bool.eq_iff_iff]; simp; done)), H', ⟨Nat.le_refl _⟩, ⟨by (with_reducible repeat (first | apply Kd.R_alloc | apply Kd.R_drewN | apply Kd.R_drew)); exact HO_3.out⟩, ⟨by repeat (first | (with_reducible first | exact HB.out | apply below_alloc | apply pw_below_drewN | apply below_drew1) | exact HB.out)⟩⟩
    case round =>
     clear H'
     try clear c1; try clear c2; try clear c2b0; try clear p2
     obtain ⟨x5_2, x6_2, x7_2, rfl, rfl, rfl, HA, HK2, HO_3, HB⟩ := hrel
     cases gk with
     | zero => exact absurd HA.out (by simp [exequaturref01_B64.l1])
     | succ k2 =>
      have H := HA.out
      clear HA
      simp only [exequaturref01_B64.l1] at H
      by_cases c3 : x7_2 < 3
      ·rw [if_pos c3] at H
       have c3b0 : decide (x7_2 < 3) = true := decide_eq_true c3
       clear c3
       by_cases c4 : (wrap64 (x4_1 + x7_2)) < (a0.size : Int)
       ·rw [if_pos c4] at H
        have c4b0 : decide ((wrap64 (x4_1 + x7_2)) < (a0.size : Int)) = true := decide_eq_true c4
        clear c4
        obtain ⟨ji5, hji5⟩ : ∃ j_ : Int, (wrap64 (x4_1 + x7_2)) = j_ := ⟨_, rfl⟩
        replace H : (if 0 ≤ (ji5) then (exequaturref01_B64.l1 k2 a0 x3_1 x4_1 (wrap64 ((wrap64 (x5_2 * 256)) + (wrap64 (bt a0 (ji5))))) (wrap64 (x6_2 + 1)) (wrap64 (x7_2 + 1))) else (none)) = some r := by first | (rw [hji5] at H; exact H) | (simp only [hji5] at H ⊢; exact H)
        (try rw [hji5] at c4b0)
        have hji5w : (IntKind.i64.wrap (x4_1 + x7_2)) = ji5 := (i64_w _).trans hji5
        by_cases c6 : 0 ≤ (ji5)
        rotate_left
        ·rw [if_neg c6] at H; exact absurd H (by simp)
        rw [if_pos c6] at H
        have c6b0 : decide (0 ≤ (ji5)) = true := decide_eq_true c6
        clear c6
        have H' := Aside0.mk H
        clear H
        have p7 : 0 ≤ ((ji5) : Int) := of_decide_eq_true (by first | (with_reducible assumption) | assumption)
        have q7 : (ji5) < (a0.size : Int) := of_decide_eq_true (by first | (with_reducible assumption) | assumption)
        have hx7 := bt_at a0 (ji5)
        replace p7 := eq_true p7
        replace q7 := eq_true q7
        go_wp2
        go_roundg k2
        case measure => have := HK1.out; have := HK2.out; omega
        case rel => exact ⟨(wrap64 ((wrap64 (x5_2 * 256)) + (wrap64 (bt a0 (ji5))))), (wrap64 (x6_2 + 1)), (wrap64 (x7_2 + 1)), (by first | rfl | (simp; done) | (simp only [← hji5] <;> (first | rfl | simp)) | (simp [*]; done)), (by first | rfl | (simp; done) | (simp [*]; done) | (refine congrArg Value.bool ?_; rw [Bool.eq_iff_iff]; simp; done)), (by first | rfl | (simp; done) | (simp [*]; done) | (refine congrArg Value.bool ?_; rw [Bool.eq_iff_iff]; simp; done)), H', ⟨by have := HK1.out; have := HK2.out; omega⟩, ⟨by (with_reducible repeat (first | apply Kd.R_alloc | apply Kd.R_drewN | apply Kd.R_drew)); exact HO_3.out⟩, ⟨by repeat (first | (with_reducible first | exact HB.out | apply below_alloc | apply pw_below_drewN | apply below_drew1) | exact HB.out)⟩⟩
       ·rw [if_neg c4] at H
        have c4b0 : decide ((wrap64 (x4_1 + x7_2)) < (a0.size : Int)) = false := decide_eq_false c4
        clear c4
        have H' := Aside0.mk H
        clear H
        go_wp2
        go_roundg k2
        case measure => have := HK1.out; have := HK2.out; omega
        case rel => exact ⟨(wrap64 (x5_2 * 256)), (x6_2), (wrap64 (x7_2 + 1)), (by first | rfl | (simp; done) | (simp [*]; done) | (refine congrArg Value.bool ?_; rw [Bool.eq_iff_iff]; simp; done)), (by first | rfl | (simp; done) | (simp [*]; done) | (refine congrArg Value.bool ?_; rw [Bool.eq_iff_iff]; simp; done)), (by first | rfl | (simp; done) | (simp [*]; done) | (refine congrArg Value.bool ?_; rw [Bool.eq_iff_iff]; simp; done)), H', ⟨by have := HK1.out; have := HK2.out; omega⟩, ⟨by (with_reducible repeat (first | apply Kd.R_alloc | apply Kd.R_drewN | apply Kd.R_drew)); exact HO_3.out⟩, ⟨by repeat (first | (with_reducible first | exact HB.out | apply below_alloc | apply pw_below_drewN | apply below_drew1) | exact HB.out)⟩⟩
      ·rw [if_neg c3] at H
       have c3b0 : decide (x7_2 < 3) = false := decide_eq_false c3
       clear c3
       replace H := Option.bind_eq_some_iff.mp H
       obtain ⟨t174, A80, H⟩ := H
       replace H : ((exequaturref01_sixty.f (Int.tmod (wrap64 (Int.tdiv x5_2 4096)) 64)).bind fun t175 => ((exequaturref01_sixty.f (Int.tmod (wrap64 (Int.tdiv x5_2 64)) 64)).bind fun t176 => ((exequaturref01_sixty.f (Int.tmod x5_2 64)).bind fun t177 => ((some (([t174, t175, t176, t177] : List Int) : List Int)).bind fun y178 => (if 0 ≤ (wrap64 (x6_2 + 1)) then (if (wrap64 (x6_2 + 1)) ≤ (y178.length : Int) then ((some (y178.take ((wrap64 (x6_2 + 1)) : Int).toNat : List Int)).bind fun y181 => (if x3_1.length + y181.length < 140737488355328 then (exequaturref01_B64.l0 k2 a0 (x3_1 ++ y181) (wrap64 (x4_1 + 3))) else (none))) else (none)) else (none)))))) = some r := H
       have A8 := Aside0.mk A80
       clear A80
       replace H := Option.bind_eq_some_iff.mp H
       obtain ⟨t175, A90, H⟩ := H
       replace H : ((exequaturref01_sixty.f (Int.tmod (wrap64 (Int.tdiv x5_2 64)) 64)).bind fun t176 => ((exequaturref01_sixty.f (Int.tmod x5_2 64)).bind fun t177 => ((some (([t174, t175, t176, t177] : List Int) : List Int)).bind fun y178 => (if 0 ≤ (wrap64 (x6_2 + 1)) then (if (wrap64 (x6_2 + 1)) ≤ (y178.length : Int) then ((some (y178.take ((wrap64 (x6_2 + 1)) : Int).toNat : List Int)).bind fun y181 => (if x3_1.length + y181.length < 140737488355328 then (exequaturref01_B64.l0 k2 a0 (x3_1 ++ y181) (wrap64 (x4_1 + 3))) else (none))) else (none)) else (none))))) = some r := H
       have A9 := Aside0.mk A90
       clear A90
       replace H := Option.bind_eq_some_iff.mp H
       obtain ⟨t176, A100, H⟩ := H
       replace H : ((exequaturref01_sixty.f (Int.tmod x5_2 64)).bind fun t177 => ((some (([t174, t175, t176, t177] : List Int) : List Int)).bind fun y178 => (if 0 ≤ (wrap64 (x6_2 + 1)) then (if (wrap64 (x6_2 + 1)) ≤ (y178.length : Int) then ((some (y178.take ((wrap64 (x6_2 + 1)) : Int).toNat : List Int)).bind fun y181 => (if x3_1.length + y181.length < 140737488355328 then (exequaturref01_B64.l0 k2 a0 (x3_1 ++ y181) (wrap64 (x4_1 + 3))) else (none))) else (none)) else (none)))) = some r := H
       have A10 := Aside0.mk A100
       clear A100
       replace H := Option.bind_eq_some_iff.mp H
       obtain ⟨t177, A110, H⟩ := H
       replace H : ((some (([t174, t175, t176, t177] : List Int) : List Int)).bind fun y178 => (if 0 ≤ (wrap64 (x6_2 + 1)) then (if (wrap64 (x6_2 + 1)) ≤ (y178.length : Int) then ((some (y178.take ((wrap64 (x6_2 + 1)) : Int).toNat : List Int)).bind fun y181 => (if x3_1.length + y181.length < 140737488355328 then (exequaturref01_B64.l0 k2 a0 (x3_1 ++ y181) (wrap64 (x4_1 + 3))) else (none))) else (none)) else (none))) = some r := H
       have A11 := Aside0.mk A110
       clear A110
       obtain ⟨y178, hy178⟩ : ∃ y_ : List Int, y_ = (([t174, t175, t176, t177] : List Int)) := ⟨_, rfl⟩
       replace H : (if 0 ≤ (wrap64 (x6_2 + 1)) then (if (wrap64 (x6_2 + 1)) ≤ (y178.length : Int) then ((some (y178.take ((wrap64 (x6_2 + 1)) : Int).toNat : List Int)).bind fun y181 => (if x3_1.length + y181.length < 140737488355328 then (exequaturref01_B64.l0 k2 a0 (x3_1 ++ y181) (wrap64 (x4_1 + 3))) else (none))) else (none)) else (none)) = some r := by first | (rw [hy178]; with_reducible exact H) | (have H2_ := (Option.bind_some _ _).symm.trans H; rw [hy178]; with_reducible exact H2_) | (have H2_ := (Option.bind_some _ _).symm.trans H; with_reducible exact H2_) | with_reducible exact H | (rw [hy178]; exact H) | exact H
       have Ny178 := Aside0.mk hy178
       clear hy178
       obtain ⟨ji12, hji12⟩ : ∃ j_ : Int, (wrap64 (x6_2 + 1)) = j_ := ⟨_, rfl⟩
       replace H : (if 0 ≤ (ji12) then (if (ji12) ≤ (y178.length : Int) then ((some (y178.take ((ji12) : Int).toNat : List Int)).bind fun y181 => (if x3_1.length + y181.length < 140737488355328 then (exequaturref01_B64.l0 k2 a0 (x3_1 ++ y181) (wrap64 (x4_1 + 3))) else (none))) else (none)) else (none)) = some r := by first | (rw [hji12] at H; exact H) | (simp only [hji12] at H ⊢; exact H)
       (try rw [hji12] at A8)
       (try rw [hji12] at A9)
       (try rw [hji12] at A10)
       (try rw [hji12] at A11)
       have hji12w : (IntKind.i64.wrap (x6_2 + 1)) = ji12 := (i64_w _).trans hji12
       by_cases c13 : 0 ≤ (ji12)
       rotate_left
       ·rw [if_neg c13] at H; exact absurd H (by simp)
       rw [if_pos c13] at H
       have c13b0 := eq_true c13
       have c13b1 : decide (0 ≤ (ji12)) = true := decide_eq_true c13
       clear c13
       by_cases c14 : (ji12) ≤ (y178.length : Int)
       rotate_left
       ·rw [if_neg c14] at H; exact absurd H (by simp)
       rw [if_pos c14] at H
       have c14b0 := eq_true c14
       have c14b1 : decide ((ji12) ≤ (y178.length : Int)) = true := decide_eq_true c14
       clear c14
       obtain ⟨y181, hy181⟩ : ∃ y_ : List Int, y_ = (y178.take ((ji12) : Int).toNat) := ⟨_, rfl⟩
       replace H : (if x3_1.length + y181.length < 140737488355328 then (exequaturref01_B64.l0 k2 a0 (x3_1 ++ y181) (wrap64 (x4_1 + 3))) else (none)) = some r := by first | (rw [hy181]; with_reducible exact H) | (have H2_ := (Option.bind_some _ _).symm.trans H; rw [hy181]; with_reducible exact H2_) | (have H2_ := (Option.bind_some _ _).symm.trans H; with_reducible exact H2_) | with_reducible exact H | (rw [hy181]; exact H) | exact H
       have Ny181 := Aside0.mk hy181
       clear hy181
       by_cases c15 : x3_1.length + y181.length < 140737488355328
       rotate_left
       ·rw [if_neg c15] at H; exact absurd H (by simp)
       rw [if_pos c15] at H
       have LMc15 := Aside0.mk c15
       clear c15
       obtain ⟨y185, hy185⟩ : ∃ y_ : List Int, y_ = (x3_1 ++ y181) := ⟨_, rfl⟩
       replace H : (exequaturref01_B64.l0 k2 a0 y185 (wrap64 (x4_1 + 3))) = some r := by first | (rw [hy185]; with_reducible exact H) | (have H2_ := (Option.bind_some _ _).symm.trans H; rw [hy185]; with_reducible exact H2_) | (have H2_ := (Option.bind_some _ _).symm.trans H; with_reducible exact H2_) | with_reducible exact H | (rw [hy185]; exact H) | exact H
       have Ny185 := Aside0.mk hy185
       clear hy185
       have H' := Aside0.mk H
       clear H
       go_wp2_with (first | ((with_reducible refine gate_callee (f := 28) rfl ?_); refine goesL_ (some 39) rfl rfl Tryd.func28 (by kernel_rfl) rfl #[.int .i64 (wrap64 (Int.tdiv x5_2 262144))] rfl (by (try simp only [List.map_toArray, List.map_cons, List.map_nil]); first | done | rfl | (simp only [List.length_drop, List.length_take]; rfl)) ?_; (with_reducible refine (exequaturref01_sixty.calls (wrap64 (Int.tdiv x5_2 262144)) t174 _ A8.out).mono ?_); rintro e w' ⟨rfl, ⟨nd, rfl⟩⟩; refine ⟨_, rfl, ?_⟩) | ((with_reducible refine gate_callee (f := 28) rfl ?_); refine goesL_ (some 43) rfl rfl Tryd.func28 (by kernel_rfl) rfl #[.int .i64 (Int.tmod (wrap64 (Int.tdiv x5_2 4096)) 64)] rfl (by (try simp only [List.map_toArray, List.map_cons, List.map_nil]); first | done | rfl | (simp only [List.length_drop, List.length_take]; rfl)) ?_; (with_reducible refine (exequaturref01_sixty.calls (Int.tmod (wrap64 (Int.tdiv x5_2 4096)) 64) t175 _ A9.out).mono ?_); rintro e w' ⟨rfl, ⟨nd, rfl⟩⟩; refine ⟨_, rfl, ?_⟩) | ((with_reducible refine gate_callee (f := 28) rfl ?_); refine goesL_ (some 47) rfl rfl Tryd.func28 (by kernel_rfl) rfl #[.int .i64 (Int.tmod (wrap64 (Int.tdiv x5_2 64)) 64)] rfl (by (try simp only [List.map_toArray, List.map_cons, List.map_nil]); first | done | rfl | (simp only [List.length_drop, List.length_take]; rfl)) ?_; (with_reducible refine (exequaturref01_sixty.calls (Int.tmod (wrap64 (Int.tdiv x5_2 64)) 64) t176 _ A10.out).mono ?_); rintro e w' ⟨rfl, ⟨nd, rfl⟩⟩; refine ⟨_, rfl, ?_⟩) | ((with_reducible refine gate_callee (f := 28) rfl ?_); refine goesL_ (some 50) rfl rfl Tryd.func28 (by kernel_rfl) rfl #[.int .i64 (Int.tmod x5_2 64)] rfl (by (try simp only [List.map_toArray, List.map_cons, List.map_nil]); first | done | rfl | (simp only [List.length_drop, List.length_take]; rfl)) ?_; (with_reducible refine (exequaturref01_sixty.calls (Int.tmod x5_2 64) t177 _ A11.out).mono ?_); rintro e w' ⟨rfl, ⟨nd, rfl⟩⟩; refine ⟨_, rfl, ?_⟩) | ((with_reducible refine gate_dst (N := 51) rfl ?_); refine Kd.R_lit (Kd.int .u8) _ 5 ?hg (N := 51) ?hd (xs := ([t174, t175, t176, t177] : List Int)) (inner := [.int .u8 t174, .int .u8 t175, .int .u8 t176, .int .u8 t177]) (ok := fun _ => True) (okp := fun _ => True) ?hr ?hp (fun _ hk => hk) trivial (Below.refl _ _) (Nat.le_refl _) (by simp) ?_; (case hd => rfl); (case hg => rfl); (case hr => first | (go_simp; done) | (go_simp; rfl)); (case hp => exact (Reps.one (show Kd.M (Kd.int .u8) _ _ _ t174 [.int .u8 t174] from rfl) (Reps.one (show Kd.M (Kd.int .u8) _ _ _ t175 [.int .u8 t175] from rfl) (Reps.one (show Kd.M (Kd.int .u8) _ _ _ t176 [.int .u8 t176] from rfl) (Reps.one (show Kd.M (Kd.int .u8) _ _ _ t177 [.int .u8 t177] from rfl) (Reps.none _ _)))))); intro v179 w16 ho17 hb hg_ hnew_; clear hg_ hnew_; (first | rw [← Ny178.out] at ho17 | (simp only [Int.reduceToNat] at ho17; rw [← Ny178.out] at ho17)); have n0_ := Aside0.mk (Kd.R_elder' (by (with_reducible repeat (first | apply Kd.R_alloc | apply Kd.R_drewN | apply Kd.R_drew)); exact HO_3.out) (Kd.R_base ho17) hb); have n1_ := Aside0.mk (Kd.R_lower (Kd.R_new' ho17 (Kd.R_lt (by (with_reducible repeat (first | apply Kd.R_alloc | apply Kd.R_drewN | apply Kd.R_drew)); exact HO_3.out))) (below_size (by repeat (first | (with_reducible first | exact HB.out | apply below_alloc | apply pw_below_drewN | apply below_drew1) | exact HB.out)))); have n2_ := Aside0.mk (below_step (by repeat (first | (with_reducible first | exact HB.out | apply below_alloc | apply pw_below_drewN | apply below_drew1) | exact HB.out)) hb); clear HO_3; clear HB; have HO_3 := n0_; have HO180 := n1_; have HB := n2_; clear n0_ n1_ n2_; clear hb ho17; obtain ⟨Ao19, co19, eo19⟩ := Kd.R_slice HO180.out; subst eo19; have q18 : ((ji12) : Int) ≤ ((y178.length : Int) : Int) := of_decide_eq_true (by first | (with_reducible assumption) | assumption); obtain ⟨i018, hi018, _, hsz18, _⟩ := info_parts info5; have hroom18 : y178.length ≤ co19 := (Kd.R_reads' HO180.out).2.1; have hC18 : Kd.C (Kd.int .u8) _ Ao19 y178.length y178 := (Kd.R_reads' HO180.out).2.2; have hcut18 := cut_to (P := Tryd.prog) 61 5 .i64 Tryd.underlying61 hi018 Ao19 y178.length co19 (ji12) (of_decide_eq_true (by first | (with_reducible assumption) | assumption)) q18 hroom18; have hr18 := Kd.C_take (m := ((ji12) : Int).toNat) hC18 (by omega); have hy18 : y181.length = ((ji12) : Int).toNat := (by rw [Ny181.out, List.length_take]; omega); rw [← Ny181.out] at hr18; rw [← hy18] at hcut18; have HR184 := Aside0.mk hr18; have HC184 := Aside0.mk (show y181.length ≤ co19 from by omega); clear hr18 hC18 hroom18 hi018 hsz18; have KY18 := Aside0.mk hy18; clear hy18; have KL18 := Aside0.mk (show ((ji12) : Int).toNat ≤ y178.length from by omega); replace q18 := eq_true q18) | ((with_reducible refine gate_builtin (b := .append) (xs := #[.tmp 52, .tmp 56]) rfl ?_); at_builtin; refine Kd.R_append_rows (Kd.int .u8) (w0 := w) w.heap.size rfl (.tmp 52) (.tmp 56) 61 5 (.int .u8 0) 1 rfl Tryd.underlying61 info5 rfl (by decide) (by omega) u3 x3_1 y181 _ _ _ (fun k_ => some k_ ≠ (.slice Ao19 y178.length co19 : Value).ownBlock) (fun _ => False) rfl rfl ?aO ?aR (fun _ _ h => h) (fun _ h => h.elim) ?aF ?aB ?aS ?aL ?_; (case aR => repeat (first | exact (by repeat (first | (with_reducible exact HR184.out) | (with_reducible refine Kd.C_alloc ?_ _) | (with_reducible refine Kd.C_drewN ?_ _) | (with_reducible refine Kd.C_drew ?_) | exact HR184.out)) | (with_reducible refine Kd.C_alloc ?_ _) | (with_reducible refine Kd.C_drewN ?_ _) | (with_reducible refine Kd.C_drew ?_))); (case aB => exact (by repeat (first | (with_reducible first | exact HB.out | apply below_alloc | apply pw_below_drewN | apply below_drew1) | exact HB.out))); (case aF => exact (fun k_ hk => Kd.fresh' (Kd.R_lt (by (with_reducible repeat (first | apply Kd.R_alloc | apply Kd.R_drewN | apply Kd.R_drew)); exact HO180.out)) k_ hk)); (case aO => exact (by (with_reducible repeat (first | apply Kd.R_alloc | apply Kd.R_drewN | apply Kd.R_drew)); exact Kd.R_mono HO_3.out (fun _ hk => hk.2))); (case aS => exact (below_size (by repeat (first | (with_reducible first | exact HB.out | apply below_alloc | apply pw_below_drewN | apply below_drew1) | exact HB.out)))); (case aL => have := LMc15.out; omega); intro v186 w20 ho hb hg hat; rw [← Ny185.out] at ho; have n0_ := Aside0.mk (Kd.R_after (ok := (fun _ => True)) (by (with_reducible repeat (first | apply Kd.R_alloc | apply Kd.R_drewN | apply Kd.R_drew)); exact HO180.out) hg hat); have n1_ := Aside0.mk (hb); have n2_ := Aside0.mk ((show Kd.C (Kd.int .u8) w20 Ao19 y181.length y181 from by rw [Ny181.out]; exact Kd.C_take (m := ((ji12) : Int).toNat) ((Kd.R_reads' (Kd.R_after (ok := (fun _ => True)) (by (with_reducible repeat (first | apply Kd.R_alloc | apply Kd.R_drewN | apply Kd.R_drew)); exact HO180.out) hg hat)).2.2) KL18.out)); have n3_ := Aside0.mk (ho); clear HO180; clear HB; clear HR184; clear HO_3; have HO180 := n0_; have HB := n1_; have HR184 := n2_; have HO187 := n3_; clear n0_ n1_ n2_ n3_; clear ho hb hg hat))
       go_roundg k2
       case measure => have := HK1.out; have := HK2.out; omega
       case rel => exact ⟨(y185), (wrap64 (x4_1 + 3)), (by first | rfl | (simp; done) | (simp [*]; done) | (refine congrArg Value.bool ?_; rw [Bool.eq_iff_iff]; simp; done)), H', ⟨by have := HK1.out; have := HK2.out; omega⟩, ⟨by (with_reducible repeat (first | apply Kd.R_alloc | apply Kd.R_drewN | apply Kd.R_drew)); exact Kd.R_mono HO187.out (fun _ hk => trivial)⟩, ⟨by repeat (first | (with_reducible first | exact HB.out | apply below_alloc | apply pw_below_drewN | apply below_drew1) | exact HB.out)⟩⟩
   ·rw [if_neg c2] at H
    have c2b0 : decide (x4_1 < (a0.size : Int)) = false := decide_eq_false c2
    clear c2
    obtain rfl := Option.some.inj H
    have hcv21 := own_string (P := Tryd.prog) Tryd.underlying61 Tryd.underlying5 Tryd.underlying9 (Kd.own_of_R HO_3.out)
    go_wp2
    go_ret
    first | (exact ⟨by first | rfl | (simp [errW_none, errW_some] <;> rfl) | (simp [*, errW_none, errW_some] <;> rfl), by repeat (first | (with_reducible first | exact HB.out | apply below_alloc | apply pw_below_drewN | apply below_drew1) | exact HB.out)⟩) | (focus (exfalso; simp_all; done))
    all_goals (first | (exfalso; simp_all <;> omega) | (go_ret; exact ⟨by first | rfl | (simp [errW_none, errW_some] <;> rfl) | (simp [*, errW_none, errW_some] <;> rfl), by repeat (first | (with_reducible first | exact HB.out | apply below_alloc | apply pw_below_drewN | apply below_drew1) | exact HB.out)⟩))

end Go.Proofs.YtmhaaggmfgojbaaDoor.X

/-! HRefF -/
namespace Go.Proofs.YtmhaaggmfgojbaaDoor.X
open Go.RowKit Go.Proofs.YtmhaaggmfgojbaaDoorW.PrintWords Go.Proofs.YtmhaaggmfgojbaaDoor.Spec
set_option linter.unusedVariables false
set_option linter.unusedSimpArgs false
theorem toList_nil (s : ByteArray) : s.toList = [] ↔ s.size = 0 := by rw [toList_bl, ← bl_length]; exact List.length_eq_zero_iff.symm
theorem rdOf_get (d : ByteArray) (l : List ByteArray) (i : Nat) (h : i < l.length) : rdOf d l (i : Int) = l[i] := by simp [rdOf, h]
theorem form_from (parts : List ByteArray) (hs : ∀ p ∈ parts, p.size ≤ 70368744177664) (hl : parts.length ≤ 2199023255552) : ∀ n i (acc : List Pr), i + n = parts.length → acc.length ≤ i → Ev (fun k => exequaturref01_Form.l0 k acc parts (i : Int)) (formFin ((parts.drop i).foldl formStep (some acc))) := by
 intro n
 induction n with
 | zero =>
  intro i acc hi ha
  refine Ev.step (fun k => by rw [exequaturref01_Form.l0]) ?_
  refine Ev.if_neg (by omega) ?_
  rw [List.drop_of_length_le (by omega)]
  simp only [List.foldl_nil, formFin]
  by_cases h : 64 < acc.length
  ·rw [if_pos h]; exact Ev.if_pos (by omega) (Ev.some _)
  ·rw [if_neg h]; exact Ev.if_neg (by omega) (Ev.some _)
 | succ n ih =>
  intro i acc hi ha
  have hlt : i < parts.length := by omega
  obtain ⟨p, hp⟩ : ∃ p, parts[i] = p := ⟨_, rfl⟩
  have hps := hs p (hp ▸ List.getElem_mem hlt)
  refine Ev.step (fun k => by rw [exequaturref01_Form.l0]) ?_
  rw [rdOf_get _ _ _ hlt, hp, List.drop_eq_getElem_cons hlt, hp, List.foldl_cons]
  refine Ev.if_pos (by omega) (Ev.if_pos (by omega) ?_)
  rw [w64 (by omega) (by omega)]
  by_cases h0 : p.size = 0
  ·refine Ev.if_pos ((toList_nil p).2 h0) ?_
   rw [show formStep (some acc) p = some acc from by simp [formStep, h0]]
   exact ih (i + 1) acc (by omega) (by omega)
  refine Ev.if_neg (fun h => h0 ((toList_nil p).1 h)) ?_
  refine Ev.bind (ref_at p 61 (by omega)) ?_
  have hpl := pre_length_le 61 (bl p)
  rw [bl_length] at hpl
  have key : ∀ x8 : ByteArray, bl x8 = post 61 (bl p) → Ev (fun k => exequaturref01_Form.j1 k acc parts (i : Int) ((pre 61 (bl p)).length : Int) x8) (formFin (List.foldl formStep (formStep (some acc) p) (List.drop (i + 1) parts))) := by
   intro x8 hx8
   refine Ev.step (fun k => by rw [exequaturref01_Form.j1]) ?_
   rw [rdOf_get _ _ _ hlt, hp]
   refine Ev.if_pos (by omega) (Ev.if_pos (by omega) (Ev.if_pos (by omega) (Ev.if_pos (by omega) ?_)))
   have hpe : bl (p.extract 0 ((((pre 61 (bl p)).length : Nat) : Int)).toNat) = pre 61 (bl p) := by
    rw [show ((((pre 61 (bl p)).length : Nat) : Int)).toNat = (pre 61 (bl p)).length from by omega, pre_extract_any]
   have hz8 : x8.size ≤ 70368744177664 := by
    rw [← bl_length, hx8]; have := post_length_le 61 (bl p); rw [bl_length] at this; omega
   refine Ev.bind (ref_Unquote _ (by rw [← bl_length, hpe]; omega)) (Ev.bind (ref_Unquote x8 hz8) ?_)
   rw [hpe, hx8]
   have hfs : formStep (some acc) p = (match unquoteL (pre 61 (bl p)), unquoteL (post 61 (bl p)) with | some a, some b => some (acc ++ [⟨ba a, ba b⟩]) | _, _ => none) := by
    unfold formStep pair1
    rw [if_neg h0]
    cases unquoteL (pre 61 (bl p)) <;> cases unquoteL (post 61 (bl p)) <;> rfl
   rw [hfs]
   cases h1 : unquoteL (pre 61 (bl p)) with
   | none =>
    simp only []
    rw [form_none]
    exact Ev.if_neg (by simp) (Ev.some _)
   | some a =>
    cases h2 : unquoteL (post 61 (bl p)) with
    | none =>
     simp only []
     rw [form_none]
     exact Ev.if_pos (by simp) (Ev.if_neg (by simp) (Ev.some _))
    | some b =>
     simp only []
     refine Ev.if_pos (by simp) (Ev.if_pos (by simp) (Ev.if_pos (by omega) ?_))
     rw [w64 (by omega) (by omega)]
     exact ih (i + 1) (acc ++ [⟨ba a, ba b⟩]) (by omega) (by simp; omega)
  by_cases hm : (61 : UInt8) ∈ bl p
  ·have hlt2 := pre_lt_iff.2 hm
   rw [bl_length] at hlt2
   refine Ev.if_pos (by omega) (Ev.if_pos ?_ (Ev.if_pos ?_ ?_))
   ·rw [w64 (by omega) (by omega)]; omega
   ·rw [w64 (by omega) (by omega)]; omega
   ·refine key _ ?_
    rw [w64 (by omega) (by omega), show ((((pre 61 (bl p)).length : Nat) : Int) + 1).toNat = (pre 61 (bl p)).length + 1 from by omega, ← post_extract p 61 hm, bl_ba]
  ·refine Ev.if_neg (by rw [pre_of_not_mem hm, bl_length]; omega) (key _ ?_)
   rw [post_of_not_mem hm]; rfl
theorem ref_Form (s : ByteArray) (r : List Pr × Int) (h : pairs_Parse.f s = some r) : Ev (fun k => exequaturref01_Form.f k s) r := by
 rw [parse_f] at h
 obtain rfl := Option.some.inj h
 unfold exequaturref01_Form.f
 by_cases hs : 4096 < s.size
 ·rw [if_pos hs]
  exact Ev.if_pos (by omega) (Ev.some _)
 ·rw [if_neg hs]
  refine Ev.if_neg (by omega) (Ev.bind (ref_Split s 38 (by omega)) ?_)
  have h1 := spParts_sizes 38 s
  have h2 := spParts_length 38 s
  exact (form_from (spParts 38 s) (fun p hp => by have := h1 p hp; omega) (by omega) _ 0 [] (by simp; rfl) (by simp)).uni rfl

end Go.Proofs.YtmhaaggmfgojbaaDoor.X

/-! HRefT -/
namespace Go.Proofs.YtmhaaggmfgojbaaDoor.X
open Go.RowKit Go.Proofs.YtmhaaggmfgojbaaDoorW.PrintWords Go.Proofs.YtmhaaggmfgojbaaDoor.Spec
set_option linter.unusedVariables false
set_option linter.unusedSimpArgs false
/-! Twice -/
theorem twice_from (l : List Pr) (hl : l.length ≤ 1048576) : ∀ n i, i + n = l.length → distinct ((keysOf l).take i) = (keysOf l).take i → Ev (fun k => exequaturref01_Twice.l0 k l (i : Int)) ((distinct (keysOf l)).length != l.length) := by
 have hkl : (keysOf l).length = l.length := by simp [keysOf]
 intro n
 induction n with
 | zero =>
  intro i hi hd
  refine Ev.step (fun k => by rw [exequaturref01_Twice.l0]) (Ev.if_neg (by omega) ?_)
  rw [List.take_of_length_le (by omega)] at hd
  rw [hd, hkl]
  exact (Ev.some _).uni (by simp)
 | succ n ih =>
  intro i hi hd
  have hlt : i < l.length := by omega
  have hlk : i < (keysOf l).length := by omega
  have hki : (keysOf l)[i] = bl (l[i]).f0 := by simp [keysOf]
  refine Ev.step (fun k => by rw [exequaturref01_Twice.l0]) (Ev.if_pos (by omega) ?_)
  have inner : ∀ d j, j + d = i → (∀ q (hq : q < j) (hq2 : q < l.length), bl (l[i]).f0 ≠ bl (l[q]).f0) → Ev (fun k => exequaturref01_Twice.l1 k l (i : Int) (j : Int)) ((distinct (keysOf l)).length != l.length) := by
   intro d
   induction d with
   | zero =>
    intro j hj hm
    have hj : j = i := by omega
    subst hj
    refine Ev.step (fun k => by rw [exequaturref01_Twice.l1]) (Ev.if_neg (by omega) ?_)
    rw [w64 (by omega) (by omega)]
    refine ih (j + 1) (by omega) ?_
    rw [List.take_succ_eq_append_getElem hlk, distinct_snoc, hd]
    unfold addNew
    rw [if_neg]
    intro hc
    rw [List.contains_iff_mem] at hc
    obtain ⟨q, hq, hqe⟩ := List.getElem_of_mem hc
    rw [List.length_take] at hq
    rw [List.getElem_take, hki] at hqe
    have hq2 : q < l.length := by omega
    have : (keysOf l)[q]'(by omega) = bl (l[q]).f0 := by simp [keysOf]
    rw [this] at hqe
    exact hm q (by omega) hq2 hqe.symm
   | succ d ihd =>
    intro j hj hm
    have hjl : j < l.length := by omega
    refine Ev.step (fun k => by rw [exequaturref01_Twice.l1]) (Ev.if_pos (by omega) (Ev.if_pos (by omega) (Ev.if_pos (by omega) (Ev.if_pos (by omega) (Ev.if_pos (by omega) ?_)))))
    rw [rd_pr _ _ hlt, rd_pr _ _ hjl, toList_bl, toList_bl, w64 (by omega) (by omega)]
    by_cases h : bl (l[i]).f0 = bl (l[j]).f0
    ·refine Ev.if_pos h ((Ev.some _).uni ?_)
     have h1 : (distinct ((keysOf l).take (i + 1))).length ≤ i := by
      rw [List.take_succ_eq_append_getElem hlk, distinct_snoc, hd]
      unfold addNew
      rw [if_pos]
      ·rw [List.length_take]; omega
      ·rw [List.contains_iff_mem, hki, h]
       have : (keysOf l)[j]'(by omega) = bl (l[j]).f0 := by simp [keysOf]
       rw [← this]
       exact List.mem_take_iff_getElem.2 ⟨j, by omega, rfl⟩
     have h2 := distinct_app ((keysOf l).take (i + 1)) ((keysOf l).drop (i + 1))
     rw [List.take_append_drop, List.length_drop, hkl] at h2
     symm
     rw [bne_iff_ne]
     omega
    ·refine Ev.if_neg h (ihd (j + 1) (by omega) (fun q hq hq2 => ?_))
     by_cases e : q = j
     ·subst e; exact h
     ·exact hm q (by omega) hq2
  exact inner i 0 (by omega) (fun q hq => by omega)
theorem ref_Twice (l : List Pr) (hl : l.length ≤ 1048576) : Ev (fun k => exequaturref01_Twice.f k l) ((distinct (keysOf l)).length != l.length) :=
 twice_from l hl l.length 0 (by simp) (by simp [distinct])


end Go.Proofs.YtmhaaggmfgojbaaDoor.X

/-! X12 -/
-- Lean text made by xprint.py (ours) out of the seat's translation. Lean checks it.
namespace Go.Proofs.YtmhaaggmfgojbaaDoor.X
open Go.RowKit Go.Proofs.YtmhaaggmfgojbaaDoorW.PrintWords Go.Proofs.YtmhaaggmfgojbaaDoorW.PrintLast Go.Proofs.YtmhaaggmfgojbaaDoorW.PrintMore
attribute [local go_sem] max2_int min2_int max_two min_two max_three min_three max_four min_four   -- for this text's walks alone
set_option linter.unusedVariables false
set_option linter.unusedSimpArgs false

/-! ### exequaturref01_UnB64: function 43 -/
mutual
def exequaturref01_UnB64.l0 : Nat → ByteArray → List Int → Int → Int → Int → Option (ByteArray × Bool)
  | 0, _, _, _, _, _ => none
  | k + 1, x0, x4, x5, x6, x7 => if x7 < (x0.size : Int) then (exequaturref01_UnB64.l1 k x0 x4 x5 x6 x7 (-1) 0) else ((exequaturref01_B64.f k (strOfNums x4)).bind fun t188 => (some (strOfNums x4, (t188.toList == x0.toList))))
def exequaturref01_UnB64.l1 : Nat → ByteArray → List Int → Int → Int → Int → Int → Int → Option (ByteArray × Bool)
  | 0, _, _, _, _, _, _, _ => none
  | k + 1, x0, x4, x5, x6, x7, x8, x9 => if x9 < 64 then ((exequaturref01_sixty.f x9).bind fun t189 => (if 0 ≤ x7 then (if x7 < (x0.size : Int) then (if t189 = (bt x0 x7) then (exequaturref01_UnB64.l1 k x0 x4 x5 x6 x7 x9 (wrap64 (x9 + 1))) else (exequaturref01_UnB64.l1 k x0 x4 x5 x6 x7 x8 (wrap64 (x9 + 1)))) else (none)) else (none))) else (if x8 < 0 then (some ((⟨#[]⟩ : ByteArray), false)) else (if (wrap64 (x6 + 6)) ≥ 8 then (if 0 ≤ (IntKind.u64.wrap (wrap64 ((wrap64 (x6 + 6)) - 8))) then (if x4.length < 140737488355328 then (if (shl .i64 1 (IntKind.u64.wrap (wrap64 ((wrap64 (x6 + 6)) - 8)))) = 0 then (none) else (exequaturref01_UnB64.l0 k x0 (x4 ++ [(shr .i64 (wrap64 ((wrap64 (x5 * 64)) + x8)) (IntKind.u64.wrap (wrap64 ((wrap64 (x6 + 6)) - 8)))) % 256]) (Int.tmod (wrap64 ((wrap64 (x5 * 64)) + x8)) (shl .i64 1 (IntKind.u64.wrap (wrap64 ((wrap64 (x6 + 6)) - 8))))) (wrap64 ((wrap64 (x6 + 6)) - 8)) (wrap64 (x7 + 1)))) else (none)) else (none)) else (exequaturref01_UnB64.l0 k x0 x4 (wrap64 ((wrap64 (x5 * 64)) + x8)) (wrap64 (x6 + 6)) (wrap64 (x7 + 1)))))
end
def exequaturref01_UnB64.f (k : Nat) (a0 : ByteArray) : Option (ByteArray × Bool) := exequaturref01_UnB64.l0 k a0 ([] : List Int) 0 0 0
theorem exequaturref01_UnB64.mono_l : ∀ k, (∀ y0 y1 y2 y3 y4, LeO (exequaturref01_UnB64.l0 k y0 y1 y2 y3 y4) (exequaturref01_UnB64.l0 (k + 1) y0 y1 y2 y3 y4)) ∧ (∀ y0 y1 y2 y3 y4 y5 y6, LeO (exequaturref01_UnB64.l1 k y0 y1 y2 y3 y4 y5 y6) (exequaturref01_UnB64.l1 (k + 1) y0 y1 y2 y3 y4 y5 y6))
  | 0 => ⟨fun _ _ _ _ _ r h => by simp [exequaturref01_UnB64.l0] at h, fun _ _ _ _ _ _ _ r h => by simp [exequaturref01_UnB64.l1] at h⟩
  | k + 1 => by
    obtain ⟨ih0, ih1⟩ := exequaturref01_UnB64.mono_l k
    refine ⟨?_, ?_⟩
    · intro y0 y1 y2 y3 y4
      unfold exequaturref01_UnB64.l0
      repeat' first
      | (with_reducible exact ih0 _ _ _ _ _)
      | (with_reducible exact ih1 _ _ _ _ _ _ _)
      | (with_reducible exact exequaturref01_B64.mono _ _)
      | (with_reducible exact LeO.refl _)
      | (with_reducible exact LeO.none _)
      | (with_reducible refine LeO.ite ?_ ?_)
      | (with_reducible refine LeO.bind ?_ (fun _ => ?_))
      | exact ih0 _ _ _ _ _
      | exact ih1 _ _ _ _ _ _ _
      | exact exequaturref01_B64.mono _ _
      | exact LeO.none _
      | refine LeO.ite ?_ ?_
      | refine LeO.bind ?_ (fun _ => ?_)
    · intro y0 y1 y2 y3 y4 y5 y6
      unfold exequaturref01_UnB64.l1
      repeat' first
      | (with_reducible exact ih0 _ _ _ _ _)
      | (with_reducible exact ih1 _ _ _ _ _ _ _)
      | (with_reducible exact exequaturref01_B64.mono _ _)
      | (with_reducible exact LeO.refl _)
      | (with_reducible exact LeO.none _)
      | (with_reducible refine LeO.ite ?_ ?_)
      | (with_reducible refine LeO.bind ?_ (fun _ => ?_))
      | exact ih0 _ _ _ _ _
      | exact ih1 _ _ _ _ _ _ _
      | exact exequaturref01_B64.mono _ _
      | exact LeO.none _
      | refine LeO.ite ?_ ?_
      | refine LeO.bind ?_ (fun _ => ?_)
theorem exequaturref01_UnB64.mono : ∀ a0 k, LeO (exequaturref01_UnB64.f k a0) (exequaturref01_UnB64.f (k + 1) a0) := by
  intro a0 k
  obtain ⟨ih0, ih1⟩ := exequaturref01_UnB64.mono_l k
  unfold exequaturref01_UnB64.f
  repeat' first
      | (with_reducible exact ih0 _ _ _ _ _)
      | (with_reducible exact ih1 _ _ _ _ _ _ _)
      | (with_reducible exact exequaturref01_B64.mono _ _)
      | (with_reducible exact LeO.refl _)
      | (with_reducible exact LeO.none _)
      | (with_reducible refine LeO.ite ?_ ?_)
      | (with_reducible refine LeO.bind ?_ (fun _ => ?_))
      | exact ih0 _ _ _ _ _
      | exact ih1 _ _ _ _ _ _ _
      | exact exequaturref01_B64.mono _ _
      | exact LeO.none _
      | refine LeO.ite ?_ ?_
      | refine LeO.bind ?_ (fun _ => ?_)
def exequaturref01_UnB64.T19 : Bool × List (List Nat × List Nat) := (true, [([], []), ([0], [0]), ([], []), ([2], [2]), ([3], [3]), ([], []), ([4, 5], [4, 5]), ([1, 4, 0, 1], [1]), ([6, 7, 0, 1, 2, 3, 4, 5, 6, 7], [6])])
def exequaturref01_UnB64.B19 : List Nat := [0, 1, 0, 4, 12, 0, 60, 31, 255]
theorem exequaturref01_UnB64.tab19 : rtab .any (opsOf Tryd.f43 19) = exequaturref01_UnB64.T19 := by kernel_rfl
theorem exequaturref01_UnB64.bits19 : waitsOk exequaturref01_UnB64.T19.2 exequaturref01_UnB64.B19 = true := by kernel_rfl
set_option maxHeartbeats 8000000 in
set_option maxRecDepth 100000 in
theorem exequaturref01_UnB64.calls (k : Nat) (a0 : ByteArray) (r1 : ByteArray) (r2 : Bool) (w : World) (h : exequaturref01_UnB64.f k a0 = some (r1, r2)) :
  Calls Tryd.prog 43 #[.string a0] w fun e w' => e = .returned (.tuple #[.string r1, .bool r2]) ∧ Below w.heap.size w w' := by
 have HB := Aside0.mk (Below.refl w.heap.size w)
 have H : (exequaturref01_UnB64.l0 k a0 ([] : List Int) 0 0 0) = some (r1, r2) := h
 clear h
 have H' := Aside0.mk H
 clear H
 go_enter Tryd.func43, Tryd.ntmps43
 go_wp2
 go_loopg [4, 5, 6, 7] k (fun kq v4 v5 v6 v7 w' => ∃ (x4_1 : List Int) (x5_1 : Int) (x6_1 : Int) (x7_1 : Int), v5 = .int .i64 x5_1 ∧ v6 = .int .i64 x6_1 ∧ v7 = .int .i64 x7_1 ∧ Aside0 (exequaturref01_UnB64.l0 kq a0 x4_1 x5_1 x6_1 x7_1 = some (r1, r2)) ∧ Aside0 (kq ≤ k) ∧ Aside0 (Kd.R (Kd.int .u8) 5 w' w.heap.size (fun _ => True) v4 x4_1) ∧ Aside0 (Below w.heap.size w w'))
 case atStart => exact ⟨(([] : List Int)), (0), (0), (0), (by first | rfl | (simp; done) | (simp [*]; done) | (refine congrArg Value.bool ?_; rw [Bool.eq_iff_iff]; simp; done)), (by first | rfl | (simp; done) | (simp [*]; done) | (refine congrArg Value.bool ?_; rw [Bool.eq_iff_iff]; simp; done)), (by first | rfl | (simp; done) | (simp [*]; done) | (refine congrArg Value.bool ?_; rw [Bool.eq_iff_iff]; simp; done)), H', ⟨Nat.le_refl _⟩, ⟨by first | exact Kd.R_nil _ _ _ _ _ | exact Kd.N_nil _ _ _ _ _ | exact Kd.V_nil _ _ _ _ _ | exact Kd.Q_nil _ _ _ _ _ | exact Kd.S_nil _ _ _ _ _⟩, ⟨by repeat (first | (with_reducible first | exact HB.out | apply below_alloc | apply pw_below_drewN | apply below_drew1) | exact HB.out)⟩⟩
 case round =>
  clear H'
  obtain ⟨x4_1, x5_1, x6_1, x7_1, rfl, rfl, rfl, HA, HK1, HO_4, HB⟩ := hrel
  cases gk with
  | zero => exact absurd HA.out (by simp [exequaturref01_UnB64.l0])
  | succ k1 =>
   have H := HA.out
   clear HA
   simp only [exequaturref01_UnB64.l0] at H
   by_cases c2 : x7_1 < (a0.size : Int)
   ·rw [if_pos c2] at H
    have c2b0 : decide (x7_1 < (a0.size : Int)) = true := decide_eq_true c2
    clear c2
    have H' := Aside0.mk H
    clear H
    go_wp2
    go_loopg [8, 9] k1 (fun kq v8 v9 w' => ∃ (x8_2 : Int) (x9_2 : Int), v8 = .int .i64 x8_2 ∧ v9 = .int .i64 x9_2 ∧ Aside0 (exequaturref01_UnB64.l1 kq a0 x4_1 x5_1 x6_1 x7_1 x8_2 x9_2 = some (r1, r2)) ∧ Aside0 (kq ≤ k1) ∧ Aside0 (Kd.R (Kd.int .u8) 5 w' w.heap.size (fun _ => True) u4 x4_1) ∧ Aside0 (Below w.heap.size w w'))
    case atStart => exact ⟨((-1)), (0), (by first | rfl | (simp; done) | (simp [*]; done) | (refine congrArg Value.bool ?_; rw [Bool.eq_iff_iff]; simp; done)), (by first | rfl | (simp; done) | (simp [*]; done) | (refine congrArg Value.bool ?_; rw [Bool.eq_iff_iff]; simp; done)), H', ⟨Nat.le_refl _⟩, ⟨by (with_reducible repeat (first | apply Kd.R_alloc | apply Kd.R_drewN | apply Kd.R_drew)); exact HO_4.out⟩, ⟨by repeat (first | (with_reducible first | exact HB.out | apply below_alloc | apply pw_below_drewN | apply below_drew1) | exact HB.out)⟩⟩
    case round =>
     clear H'
     try clear c2; try clear c2b0; try clear p2
     obtain ⟨x8_2, x9_2, rfl, rfl, HA, HK2, HO_4, HB⟩ := hrel
     cases gk with
     | zero => exact absurd HA.out (by simp [exequaturref01_UnB64.l1])
     | succ k2 =>
      have H := HA.out
      clear HA
      simp only [exequaturref01_UnB64.l1] at H
      by_cases c3 : x9_2 < 64
      ·rw [if_pos c3] at H
       have c3b0 : decide (x9_2 < 64) = true := decide_eq_true c3
       clear c3
       replace H := Option.bind_eq_some_iff.mp H
       obtain ⟨t189, A40, H⟩ := H
       replace H : (if 0 ≤ x7_1 then (if x7_1 < (a0.size : Int) then (if t189 = (bt a0 x7_1) then (exequaturref01_UnB64.l1 k2 a0 x4_1 x5_1 x6_1 x7_1 x9_2 (wrap64 (x9_2 + 1))) else (exequaturref01_UnB64.l1 k2 a0 x4_1 x5_1 x6_1 x7_1 x8_2 (wrap64 (x9_2 + 1)))) else (none)) else (none)) = some (r1, r2) := H
       have A4 := Aside0.mk A40
       clear A40
       by_cases c5 : 0 ≤ x7_1
       rotate_left
       ·rw [if_neg c5] at H; exact absurd H (by simp)
       rw [if_pos c5] at H
       have c5b0 : decide (0 ≤ x7_1) = true := decide_eq_true c5
       clear c5
       by_cases c6 : x7_1 < (a0.size : Int)
       rotate_left
       ·rw [if_neg c6] at H; exact absurd H (by simp)
       rw [if_pos c6] at H
       have c6b0 : decide (x7_1 < (a0.size : Int)) = true := decide_eq_true c6
       clear c6
       by_cases c8 : t189 = (bt a0 x7_1)
       ·rw [if_pos c8] at H
        have c8b0 : (t189 == (bt a0 x7_1)) = true := beq_iff_eq.mpr c8
        have c8b1 : (t189 != (bt a0 x7_1)) = false := bne_eq_false_iff_eq.mpr c8
        clear c8
        have H' := Aside0.mk H
        clear H
        try go_wp2
        have n0_ := Aside0.mk (Kd.R_drew HO_4.out)
        have n1_ := Aside0.mk (below_drew1 HB.out)
        clear HO_4; clear HB
        have HO_4 := n0_
        have HB := n1_
        clear n0_ n1_
        have p7 : 0 ≤ (x7_1 : Int) := of_decide_eq_true (by first | (with_reducible assumption) | assumption)
        have q7 : x7_1 < (a0.size : Int) := of_decide_eq_true (by first | (with_reducible assumption) | assumption)
        have hx7 := bt_at a0 x7_1
        replace p7 := eq_true p7
        replace q7 := eq_true q7
        refine start_ (n := 6) (S := fun w' => True) (ds := []) #[false, false, false, false, false, false] (by kernel_rfl) rfl rfl trivial (fun hHeld => ?_)
        generalize wr.drew = w9 at HO_4 HB hHeld ⊢
        refine pure_ (i := 0) (N := some 20) (v := ?_) (a' := ?_) #[true, false, false, false, false, false] rfl rfl (by kernel_rfl) (fun _ _ _ h => h) (Or.inl ⟨by rfl, ?_⟩) ?_ ?_
        rotate_left
        ·intro w'
         go_simp
         with_reducible rfl
        rotate_left
        ·simp only [Act.put, List.setIfInBounds_toArray, List.set_cons_zero, List.set_cons_succ, i64_w, i32_w]
         rfl
        refine pure_ (i := 2) (N := some 22) (v := ?_) (a' := ?_) #[true, false, true, false, false, false] rfl rfl (by kernel_rfl) (fun _ _ _ h => h) (Or.inl ⟨by rfl, ?_⟩) ?_ ?_
        rotate_left
        ·intro w'
         go_simp
         with_reducible rfl
        rotate_left
        ·simp only [Act.put, List.setIfInBounds_toArray, List.set_cons_zero, List.set_cons_succ, i64_w, i32_w]
         rfl
        refine pure_ (i := 3) (N := some 23) (v := ?_) (a' := ?_) #[true, false, true, true, false, false] rfl rfl (by kernel_rfl) (fun _ _ _ h => h) (Or.inl ⟨by rfl, ?_⟩) ?_ ?_
        rotate_left
        ·intro w'
         go_simp
         with_reducible rfl
        rotate_left
        ·simp only [Act.put, List.setIfInBounds_toArray, List.set_cons_zero, List.set_cons_succ, i64_w, i32_w]
         rfl
        refine take_ (i := 4) (N := some 24) (v := ?_) (a' := ?_) #[true, false, true, true, true, false] rfl rfl (by kernel_rfl) (fun _ _ _ h => h) (Or.inl ⟨by rfl, ?_⟩) hHeld ?_ ?_
        rotate_left
        ·intro w' _
         go_simp
         with_reducible rfl
        rotate_left
        ·simp only [Act.put, List.setIfInBounds_toArray, List.set_cons_zero, List.set_cons_succ, i64_w, i32_w]
         rfl
        refine one_ (i := 1) (N := some 21) #[true, true, true, true, true, false] rfl rfl (by kernel_rfl) (by decide) (fun K hK => ?_)
        refine goes_ Tryd.func28 (by kernel_rfl) rfl #[.int .i64 x9_2] (by rfl) rfl rfl (by (try simp only [List.map_toArray, List.map_cons, List.map_nil]); first | done | rfl | (simp only [List.length_drop, List.length_take]; rfl)) ?_
        with_reducible refine (exequaturref01_sixty.calls x9_2 t189 _ A4.out).mono ?_
        rintro e w' ⟨rfl, ⟨nd, rfl⟩⟩
        refine ⟨_, rfl, ?_⟩
        refine hK.out _ _ trivial (fun hHeld => ?_)
        clear hK K
        refine norm_ (a' := ?_) ?_ ?_
        rotate_left
        ·show Act.put _ (some 21) _ = _
         simp only [Act.put, List.setIfInBounds_toArray, List.set_cons_zero, List.set_cons_succ, i64_w, i32_w]
         rfl
        refine pure_ (i := 5) (N := some 25) (v := ?_) (a' := ?_) #[true, true, true, true, true, true] rfl rfl (by kernel_rfl) (fun _ _ _ h => h) (Or.inl ⟨by rfl, ?_⟩) ?_ ?_
        rotate_left
        ·intro w'
         go_simp
         with_reducible rfl
        rotate_left
        ·simp only [Act.put, List.setIfInBounds_toArray, List.set_cons_zero, List.set_cons_succ, i64_w, i32_w]
         rfl
        refine done_ (by kernel_rfl) ?_
        try go_wp2
        go_roundg k2
        case measure => have := HK1.out; have := HK2.out; omega
        case rel => exact ⟨(x9_2), (wrap64 (x9_2 + 1)), (by first | rfl | (simp; done) | (simp [*]; done) | (refine congrArg Value.bool ?_; rw [Bool.eq_iff_iff]; simp; done)), (by first | rfl | (simp; done) | (simp [*]; done) | (refine congrArg Value.bool ?_; rw [Bool.eq_iff_iff]; simp; done)), H', ⟨by have := HK1.out; have := HK2.out; omega⟩, ⟨by (with_reducible repeat (first | apply Kd.R_alloc | apply Kd.R_drewN | apply Kd.R_drew)); exact HO_4.out⟩, ⟨by repeat (first | (with_reducible first | exact HB.out | apply below_alloc | apply pw_below_drewN | apply below_drew1) | exact HB.out)⟩⟩
       ·rw [if_neg c8] at H
        have c8b0 : (t189 == (bt a0 x7_1)) = false := beq_eq_false_iff_ne.mpr c8
        have c8b1 : (t189 != (bt a0 x7_1)) = true := bne_iff_ne.mpr c8
        have H' := Aside0.mk H
        clear H
        try go_wp2
        have n0_ := Aside0.mk (Kd.R_drew HO_4.out)
        have n1_ := Aside0.mk (below_drew1 HB.out)
        clear HO_4; clear HB
        have HO_4 := n0_
        have HB := n1_
        clear n0_ n1_
        have p7 : 0 ≤ (x7_1 : Int) := of_decide_eq_true (by first | (with_reducible assumption) | assumption)
        have q7 : x7_1 < (a0.size : Int) := of_decide_eq_true (by first | (with_reducible assumption) | assumption)
        have hx7 := bt_at a0 x7_1
        replace p7 := eq_true p7
        replace q7 := eq_true q7
        refine start_ (n := 6) (S := fun w' => True) (ds := []) #[false, false, false, false, false, false] (by kernel_rfl) rfl rfl trivial (fun hHeld => ?_)
        generalize wr.drew = w10 at HO_4 HB hHeld ⊢
        refine pure_ (i := 0) (N := some 20) (v := ?_) (a' := ?_) #[true, false, false, false, false, false] rfl rfl (by kernel_rfl) (fun _ _ _ h => h) (Or.inl ⟨by rfl, ?_⟩) ?_ ?_
        rotate_left
        ·intro w'
         go_simp
         with_reducible rfl
        rotate_left
        ·simp only [Act.put, List.setIfInBounds_toArray, List.set_cons_zero, List.set_cons_succ, i64_w, i32_w]
         rfl
        refine pure_ (i := 2) (N := some 22) (v := ?_) (a' := ?_) #[true, false, true, false, false, false] rfl rfl (by kernel_rfl) (fun _ _ _ h => h) (Or.inl ⟨by rfl, ?_⟩) ?_ ?_
        rotate_left
        ·intro w'
         go_simp
         with_reducible rfl
        rotate_left
        ·simp only [Act.put, List.setIfInBounds_toArray, List.set_cons_zero, List.set_cons_succ, i64_w, i32_w]
         rfl
        refine pure_ (i := 3) (N := some 23) (v := ?_) (a' := ?_) #[true, false, true, true, false, false] rfl rfl (by kernel_rfl) (fun _ _ _ h => h) (Or.inl ⟨by rfl, ?_⟩) ?_ ?_
        rotate_left
        ·intro w'
         go_simp
         with_reducible rfl
        rotate_left
        ·simp only [Act.put, List.setIfInBounds_toArray, List.set_cons_zero, List.set_cons_succ, i64_w, i32_w]
         rfl
        refine take_ (i := 4) (N := some 24) (v := ?_) (a' := ?_) #[true, false, true, true, true, false] rfl rfl (by kernel_rfl) (fun _ _ _ h => h) (Or.inl ⟨by rfl, ?_⟩) hHeld ?_ ?_
        rotate_left
        ·intro w' _
         go_simp
         with_reducible rfl
        rotate_left
        ·simp only [Act.put, List.setIfInBounds_toArray, List.set_cons_zero, List.set_cons_succ, i64_w, i32_w]
         rfl
        refine one_ (i := 1) (N := some 21) #[true, true, true, true, true, false] rfl rfl (by kernel_rfl) (by decide) (fun K hK => ?_)
        refine goes_ Tryd.func28 (by kernel_rfl) rfl #[.int .i64 x9_2] (by rfl) rfl rfl (by (try simp only [List.map_toArray, List.map_cons, List.map_nil]); first | done | rfl | (simp only [List.length_drop, List.length_take]; rfl)) ?_
        with_reducible refine (exequaturref01_sixty.calls x9_2 t189 _ A4.out).mono ?_
        rintro e w' ⟨rfl, ⟨nd, rfl⟩⟩
        refine ⟨_, rfl, ?_⟩
        refine hK.out _ _ trivial (fun hHeld => ?_)
        clear hK K
        refine norm_ (a' := ?_) ?_ ?_
        rotate_left
        ·show Act.put _ (some 21) _ = _
         simp only [Act.put, List.setIfInBounds_toArray, List.set_cons_zero, List.set_cons_succ, i64_w, i32_w]
         rfl
        refine pure_ (i := 5) (N := some 25) (v := ?_) (a' := ?_) #[true, true, true, true, true, true] rfl rfl (by kernel_rfl) (fun _ _ _ h => h) (Or.inl ⟨by rfl, ?_⟩) ?_ ?_
        rotate_left
        ·intro w'
         go_simp
         with_reducible rfl
        rotate_left
        ·simp only [Act.put, List.setIfInBounds_toArray, List.set_cons_zero, List.set_cons_succ, i64_w, i32_w]
         rfl
        refine done_ (by kernel_rfl) ?_
        try go_wp2
        go_roundg k2
        case measure => have := HK1.out; have := HK2.out; omega
        case rel => exact ⟨(x8_2), (wrap64 (x9_2 + 1)), (by first | rfl | (simp; done) | (simp [*]; done) | (refine congrArg Value.bool ?_; rw [Bool.eq_iff_iff]; simp; done)), (by first | rfl | (simp; done) | (simp [*]; done) | (refine congrArg Value.bool ?_; rw [Bool.eq_iff_iff]; simp; done)), H', ⟨by have := HK1.out; have := HK2.out; omega⟩, ⟨by (with_reducible repeat (first | apply Kd.R_alloc | apply Kd.R_drewN | apply Kd.R_drew)); exact HO_4.out⟩, ⟨by repeat (first | (with_reducible first | exact HB.out | apply below_alloc | apply pw_below_drewN | apply below_drew1) | exact HB.out)⟩⟩
      ·rw [if_neg c3] at H
       have c3b0 : decide (x9_2 < 64) = false := decide_eq_false c3
       clear c3
       by_cases c11 : x8_2 < 0
       ·rw [if_pos c11] at H
        have c11b0 : decide (x8_2 < 0) = true := decide_eq_true c11
        clear c11
        simp only [Option.some.injEq, Prod.mk.injEq] at H
        obtain ⟨rfl, rfl⟩ := H
        go_wp2
        go_ret2
        first | (exact ⟨by first | rfl | (simp [errW_none, errW_some] <;> rfl) | (simp [*, errW_none, errW_some] <;> rfl), by repeat (first | (with_reducible first | exact HB.out | apply below_alloc | apply pw_below_drewN | apply below_drew1) | exact HB.out)⟩) | (focus (exfalso; simp_all; done))
        all_goals (first | (exfalso; simp_all <;> omega) | (go_ret; exact ⟨by first | rfl | (simp [errW_none, errW_some] <;> rfl) | (simp [*, errW_none, errW_some] <;> rfl), by repeat (first | (with_reducible first | exact HB.out | apply below_alloc | apply pw_below_drewN | apply below_drew1) | exact HB.out)⟩))
       ·rw [if_neg c11] at H
        have c11b0 : decide (x8_2 < 0) = false := decide_eq_false c11
        clear c11
        by_cases c12 : (wrap64 (x6_1 + 6)) ≥ 8
        ·rw [if_pos c12] at H
         have c12b0 : decide (8 ≤ (wrap64 (x6_1 + 6))) = true := decide_eq_true c12
         clear c12
         obtain ⟨ji13, hji13⟩ : ∃ j_ : Int, (IntKind.u64.wrap (wrap64 ((wrap64 (x6_1 + 6)) - 8))) = j_ := ⟨_, rfl⟩
         replace H : (if 0 ≤ (ji13) then (if x4_1.length < 140737488355328 then (if (shl .i64 1 (ji13)) = 0 then (none) else (exequaturref01_UnB64.l0 k2 a0 (x4_1 ++ [(shr .i64 (wrap64 ((wrap64 (x5_1 * 64)) + x8_2)) (ji13)) % 256]) (Int.tmod (wrap64 ((wrap64 (x5_1 * 64)) + x8_2)) (shl .i64 1 (ji13))) (wrap64 ((wrap64 (x6_1 + 6)) - 8)) (wrap64 (x7_1 + 1)))) else (none)) else (none)) = some (r1, r2) := by first | (rw [hji13] at H; exact H) | (simp only [hji13] at H ⊢; exact H)
         by_cases c14 : 0 ≤ (ji13)
         rotate_left
         ·rw [if_neg c14] at H; exact absurd H (by simp)
         rw [if_pos c14] at H
         have c14b0 := eq_true c14
         have c14b1 : decide (0 ≤ (ji13)) = true := decide_eq_true c14
         clear c14
         obtain ⟨ji15, hji15⟩ : ∃ j_ : Int, (shr .i64 (wrap64 ((wrap64 (x5_1 * 64)) + x8_2)) (ji13)) = j_ := ⟨_, rfl⟩
         replace H : (if x4_1.length < 140737488355328 then (if (shl .i64 1 (ji13)) = 0 then (none) else (exequaturref01_UnB64.l0 k2 a0 (x4_1 ++ [(ji15) % 256]) (Int.tmod (wrap64 ((wrap64 (x5_1 * 64)) + x8_2)) (shl .i64 1 (ji13))) (wrap64 ((wrap64 (x6_1 + 6)) - 8)) (wrap64 (x7_1 + 1)))) else (none)) = some (r1, r2) := by first | (rw [hji15] at H; exact H) | (simp only [hji15] at H ⊢; exact H)
         have hji15_ : ((wrap64 ((wrap64 (x5_1 * 64)) + x8_2)) / 2 ^ min (ji13).toNat 64) = ji15 := hji15
         have hji15z : (ji13) ≤ 64 → ((wrap64 ((wrap64 (x5_1 * 64)) + x8_2)) / 2 ^ (ji13).toNat) = ji15 := shr_small hji15
         by_cases c16 : x4_1.length < 140737488355328
         rotate_left
         ·rw [if_neg c16] at H; exact absurd H (by simp)
         rw [if_pos c16] at H
         have LMc16 := Aside0.mk c16
         clear c16
         obtain ⟨y190, hy190⟩ : ∃ y_ : List Int, y_ = (x4_1 ++ [(ji15) % 256]) := ⟨_, rfl⟩
         replace H : (if (shl .i64 1 (ji13)) = 0 then (none) else (exequaturref01_UnB64.l0 k2 a0 y190 (Int.tmod (wrap64 ((wrap64 (x5_1 * 64)) + x8_2)) (shl .i64 1 (ji13))) (wrap64 ((wrap64 (x6_1 + 6)) - 8)) (wrap64 (x7_1 + 1)))) = some (r1, r2) := by first | (rw [hy190]; with_reducible exact H) | (have H2_ := (Option.bind_some _ _).symm.trans H; rw [hy190]; with_reducible exact H2_) | (have H2_ := (Option.bind_some _ _).symm.trans H; with_reducible exact H2_) | with_reducible exact H | (rw [hy190]; exact H) | exact H
         have Ny190 := Aside0.mk hy190
         clear hy190
         have c17b0 := eq_true (of_decide_eq_true (by first | (with_reducible assumption) | assumption) : 0 ≤ (ji13))
         obtain ⟨ji18, hji18⟩ : ∃ j_ : Int, (shl .i64 1 (ji13)) = j_ := ⟨_, rfl⟩
         replace H : (if (ji18) = 0 then (none) else (exequaturref01_UnB64.l0 k2 a0 y190 (Int.tmod (wrap64 ((wrap64 (x5_1 * 64)) + x8_2)) (ji18)) (wrap64 ((wrap64 (x6_1 + 6)) - 8)) (wrap64 (x7_1 + 1)))) = some (r1, r2) := by first | (rw [hji18] at H; exact H) | (simp only [hji18] at H ⊢; exact H)
         have hji18_ : (IntKind.i64.wrap (1 * 2 ^ min (ji13).toNat 64)) = ji18 := hji18
         have hji18z : (ji13) ≤ 64 → (IntKind.i64.wrap (1 * 2 ^ (ji13).toNat)) = ji18 := shl_small hji18
         have hji18u : (IntKind.i64.wrap (2 ^ min (ji13).toNat 64)) = ji18 := by have h_ := hji18_; rw [Int.one_mul] at h_; exact h_
         have hji18v : (ji13) ≤ 64 → (IntKind.i64.wrap (2 ^ (ji13).toNat)) = ji18 := fun hle_ => by have h_ := hji18z hle_; rw [Int.one_mul] at h_; exact h_
         have hji18y : (wrap64 (1 * 2 ^ min (ji13).toNat 64)) = ji18 := (i64_w _).symm.trans hji18_
         have hji18x : (ji13) ≤ 64 → (wrap64 (1 * 2 ^ (ji13).toNat)) = ji18 := fun h_ => (i64_w _).symm.trans (hji18z h_)
         by_cases c19 : (ji18) = 0
         ·rw [if_pos c19] at H
          exact absurd H (by simp)
         ·rw [if_neg c19] at H
          have c19b0 : ((ji18) == 0) = false := beq_eq_false_iff_ne.mpr c19
          have c19b1 : ((ji18) != 0) = true := bne_iff_ne.mpr c19
          have H' := Aside0.mk H
          clear H
          go_wp2_with (first | ((with_reducible refine gate_builtin (b := .append) (xs := #[.tmp 39, .tmp 45]) rfl ?_); at_builtin; refine Kd.R_append (Kd.int .u8) (w0 := w) w.heap.size rfl (.tmp 39) (.tmp 45) 61 5 (.int .u8 0) 1 rfl Tryd.underlying61 info5 rfl (by decide) (by omega) u4 x4_1 ((ji15) % 256) [.int .u8 ((ji15) % 256)] (fun _ => True) (fun _ => False) rfl rfl ?aP (fun _ hk => hk.elim) ?aF ?aO ?aB ?aS ?aL ?_; (case aP => exact rfl); (case aB => exact (by repeat (first | (with_reducible first | exact HB.out | apply below_alloc | apply pw_below_drewN | apply below_drew1) | exact HB.out))); (case aF => exact (fun _ _ => trivial)); (case aO => exact (by (with_reducible repeat (first | apply Kd.R_alloc | apply Kd.R_drewN | apply Kd.R_drew)); exact HO_4.out)); (case aS => exact (below_size (by repeat (first | (with_reducible first | exact HB.out | apply below_alloc | apply pw_below_drewN | apply below_drew1) | exact HB.out)))); (case aL => have := LMc16.out; omega); intro v191 w20 ho hb hg hat; rw [← Ny190.out] at ho; have n0_ := Aside0.mk (hb); have n1_ := Aside0.mk (ho); clear HB; clear HO_4; have HB := n0_; have HO192 := n1_; clear n0_ n1_; clear ho hb hg hat))
          go_roundg k2
          case measure => have := HK1.out; have := HK2.out; omega
          case rel => exact ⟨(y190), (Int.tmod (wrap64 ((wrap64 (x5_1 * 64)) + x8_2)) (ji18)), (wrap64 ((wrap64 (x6_1 + 6)) - 8)), (wrap64 (x7_1 + 1)), (by first | rfl | (simp; done) | (simp only [← hji18] <;> (first | rfl | simp)) | (simp [*]; done)), (by first | rfl | (simp; done) | (simp [*]; done) | (refine congrArg Value.bool ?_; rw [Bool.eq_iff_iff]; simp; done)), (by first | rfl | (simp; done) | (simp [*]; done) | (refine congrArg Value.bool ?_; rw [Bool.eq_iff_iff]; simp; done)), H', ⟨by have := HK1.out; have := HK2.out; omega⟩, ⟨by (with_reducible repeat (first | apply Kd.R_alloc | apply Kd.R_drewN | apply Kd.R_drew)); exact HO192.out⟩, ⟨by repeat (first | (with_reducible first | exact HB.out | apply below_alloc | apply pw_below_drewN | apply below_drew1) | exact HB.out)⟩⟩
        ·rw [if_neg c12] at H
         have c12b0 : decide (8 ≤ (wrap64 (x6_1 + 6))) = false := decide_eq_false c12
         clear c12
         have H' := Aside0.mk H
         clear H
         go_wp2
         go_roundg k2
         case measure => have := HK1.out; have := HK2.out; omega
         case rel => exact ⟨(x4_1), (wrap64 ((wrap64 (x5_1 * 64)) + x8_2)), (wrap64 (x6_1 + 6)), (wrap64 (x7_1 + 1)), (by first | rfl | (simp; done) | (simp [*]; done) | (refine congrArg Value.bool ?_; rw [Bool.eq_iff_iff]; simp; done)), (by first | rfl | (simp; done) | (simp [*]; done) | (refine congrArg Value.bool ?_; rw [Bool.eq_iff_iff]; simp; done)), (by first | rfl | (simp; done) | (simp [*]; done) | (refine congrArg Value.bool ?_; rw [Bool.eq_iff_iff]; simp; done)), H', ⟨by have := HK1.out; have := HK2.out; omega⟩, ⟨by (with_reducible repeat (first | apply Kd.R_alloc | apply Kd.R_drewN | apply Kd.R_drew)); exact HO_4.out⟩, ⟨by repeat (first | (with_reducible first | exact HB.out | apply below_alloc | apply pw_below_drewN | apply below_drew1) | exact HB.out)⟩⟩
   ·rw [if_neg c2] at H
    have c2b0 : decide (x7_1 < (a0.size : Int)) = false := decide_eq_false c2
    clear c2
    replace H := Option.bind_eq_some_iff.mp H
    obtain ⟨t188, A210, H⟩ := H
    replace H : (some (strOfNums x4_1, (t188.toList == a0.toList))) = some (r1, r2) := H
    have A21 := Aside0.mk A210
    clear A210
    simp only [Option.some.injEq, Prod.mk.injEq] at H
    obtain ⟨rfl, rfl⟩ := H
    try go_wp2
    have n0_ := Aside0.mk (Kd.R_drew HO_4.out)
    have n1_ := Aside0.mk (below_drew1 HB.out)
    clear HO_4; clear HB
    have HO_4 := n0_
    have HB := n1_
    clear n0_ n1_
    have hcv23 := own_string (P := Tryd.prog) Tryd.underlying61 Tryd.underlying5 Tryd.underlying9 (Kd.own_of_R HO_4.out)
    have hcv24 := own_string (P := Tryd.prog) Tryd.underlying61 Tryd.underlying5 Tryd.underlying9 (Kd.own_of_R HO_4.out)
    refine start_ (n := 9) (S := fun w' => (convert 61 9 u4).run Tryd.prog w' = .ok (.string (strOfNums x4_1)) w') (ds := []) #[false, false, false, false, false, false, false, false, false] (by kernel_rfl) rfl rfl hcv23 (fun hHeld => ?_); refine with_tabW exequaturref01_UnB64.tab19 exequaturref01_UnB64.bits19 (fun HT_ HW_ => ?_)
    generalize wr.drew = w22 at HO_4 HB hHeld ⊢
    refine pure_ (i := 0) (N := some 52) (v := ?_) (a' := ?_) #[true, false, false, false, false, false, false, false, false] rfl rfl (any_of HT_.out (by kernel_rfl)) (fun _ _ _ h => h) (Or.inl ⟨by rfl, ?_⟩) ?_ ?_
    rotate_left
    ·intro w'
     go_simp
     with_reducible rfl
    rotate_left
    ·simp only [Act.put, List.setIfInBounds_toArray, List.set_cons_zero, List.set_cons_succ, i64_w, i32_w]
     rfl
    refine take_ (i := 1) (N := some 53) (v := ?_) (a' := ?_) #[true, true, false, false, false, false, false, false, false] rfl rfl (take_ofW HT_.out HW_.out (by kernel_rfl)) (fun _ _ _ h => h) (Or.inl ⟨by rfl, ?_⟩) hHeld ?_ ?_
    rotate_left
    ·intro w' s0
     go_simp
     with_reducible rfl
    rotate_left
    ·simp only [Act.put, List.setIfInBounds_toArray, List.set_cons_zero, List.set_cons_succ, i64_w, i32_w]
     rfl
    refine pure_ (i := 2) (N := some 54) (v := ?_) (a' := ?_) #[true, true, true, false, false, false, false, false, false] rfl rfl (any_of HT_.out (by kernel_rfl)) (fun _ _ _ h => h) (Or.inl ⟨by rfl, ?_⟩) ?_ ?_
    rotate_left
    ·intro w'
     go_simp
     with_reducible rfl
    rotate_left
    ·simp only [Act.put, List.setIfInBounds_toArray, List.set_cons_zero, List.set_cons_succ, i64_w, i32_w]
     rfl
    refine take_ (i := 3) (N := some 55) (v := ?_) (a' := ?_) #[true, true, true, true, false, false, false, false, false] rfl rfl (take_ofW HT_.out HW_.out (by kernel_rfl)) (fun _ _ _ h => h) (Or.inl ⟨by rfl, ?_⟩) hHeld ?_ ?_
    rotate_left
    ·intro w' s0
     go_simp
     with_reducible rfl
    rotate_left
    ·simp only [Act.put, List.setIfInBounds_toArray, List.set_cons_zero, List.set_cons_succ, i64_w, i32_w]
     rfl
    refine pure_ (i := 5) (N := some 57) (v := ?_) (a' := ?_) #[true, true, true, true, false, true, false, false, false] rfl rfl (any_of HT_.out (by kernel_rfl)) (fun _ _ _ h => h) (Or.inl ⟨by rfl, ?_⟩) ?_ ?_
    rotate_left
    ·intro w'
     go_simp
     with_reducible rfl
    rotate_left
    ·simp only [Act.put, List.setIfInBounds_toArray, List.set_cons_zero, List.set_cons_succ, i64_w, i32_w]
     rfl
    refine one_ (i := 4) (N := some 56) #[true, true, true, true, true, true, false, false, false] rfl rfl (one_of HT_.out (by kernel_rfl)) (by decide) (fun K hK => ?_)
    refine goes_ Tryd.func14 (by kernel_rfl) rfl #[.string (strOfNums x4_1)] (by rfl) rfl rfl (by (try simp only [List.map_toArray, List.map_cons, List.map_nil]); first | done | rfl | (simp only [List.length_drop, List.length_take]; rfl)) ?_
    with_reducible refine (exequaturref01_B64.calls k1 (strOfNums x4_1) t188 _ A21.out).mono ?_
    rintro e w25 ⟨rfl, hb⟩
    refine ⟨_, rfl, ?_⟩
    have n0_ := Aside0.mk (Kd.R_below (by (with_reducible repeat (first | apply Kd.R_alloc | apply Kd.R_drewN | apply Kd.R_drew)); exact HO_4.out) hb)
    have n1_ := Aside0.mk (below_step (by repeat (first | (with_reducible first | exact HB.out | apply below_alloc | apply pw_below_drewN | apply below_drew1) | exact HB.out)) hb)
    clear HO_4; clear HB
    have HO_4 := n0_
    have HB := n1_
    clear n0_ n1_; (try clear hb); (try clear hb2); (try clear hk); (try clear hi)
    refine hK.out _ _ (own_string (P := Tryd.prog) Tryd.underlying61 Tryd.underlying5 Tryd.underlying9 (Kd.own_of_R HO_4.out)) (fun hHeld => ?_)
    clear hK K
    refine norm_ (a' := ?_) ?_ ?_
    rotate_left
    ·show Act.put _ (some 56) _ = _
     simp only [Act.put, List.setIfInBounds_toArray, List.set_cons_zero, List.set_cons_succ, i64_w, i32_w]
     rfl
    refine pure_ (i := 6) (N := some 58) (v := ?_) (a' := ?_) #[true, true, true, true, true, true, true, false, false] rfl rfl (any_of HT_.out (by kernel_rfl)) (fun _ _ _ h => h) (Or.inl ⟨by rfl, ?_⟩) ?_ ?_
    rotate_left
    ·intro w'
     go_simp
     with_reducible rfl
    rotate_left
    ·simp only [Act.put, List.setIfInBounds_toArray, List.set_cons_zero, List.set_cons_succ, i64_w, i32_w]
     rfl
    refine pure_ (i := 7) (N := some 2) (v := ?_) (a' := ?_) #[true, true, true, true, true, true, true, true, false] rfl rfl (any_of HT_.out (by kernel_rfl)) (fun _ _ _ h => h) (Or.inl ⟨by rfl, ?_⟩) ?_ ?_
    rotate_left
    ·intro w'
     go_simp
     with_reducible rfl
    rotate_left
    ·simp only [Act.put, List.setIfInBounds_toArray, List.set_cons_zero, List.set_cons_succ, i64_w, i32_w]
     rfl
    refine pure_ (i := 8) (N := some 3) (v := ?_) (a' := ?_) #[true, true, true, true, true, true, true, true, true] rfl rfl (any_of HT_.out (by kernel_rfl)) (fun _ _ _ h => h) (Or.inl ⟨by rfl, ?_⟩) ?_ ?_
    rotate_left
    ·intro w'
     go_simp
     with_reducible rfl
    rotate_left
    ·simp only [Act.put, List.setIfInBounds_toArray, List.set_cons_zero, List.set_cons_succ, i64_w, i32_w]
     rfl
    refine done_ (done_of HT_.out (by kernel_rfl)) ?_
    try go_wp2
    go_ret2
    first | (exact ⟨by first | rfl | (simp [errW_none, errW_some] <;> rfl) | (simp [*, errW_none, errW_some] <;> rfl), by repeat (first | (with_reducible first | exact HB.out | apply below_alloc | apply pw_below_drewN | apply below_drew1) | exact HB.out)⟩) | (focus (exfalso; simp_all; done))
    all_goals (first | (exfalso; simp_all <;> omega) | (go_ret; exact ⟨by first | rfl | (simp [errW_none, errW_some] <;> rfl) | (simp [*, errW_none, errW_some] <;> rfl), by repeat (first | (with_reducible first | exact HB.out | apply below_alloc | apply pw_below_drewN | apply below_drew1) | exact HB.out)⟩))

/-! ### exequaturref01_Good: function 26 -/
def exequaturref01_Good.f (k : Nat) (a0 : ByteArray) : Option (Bool) := (exequaturref01_UnB64.f k a0).bind fun bt193 => (if bt193.2 = true then (some ((bt193.1.size : Int) == 32)) else (some false))
theorem exequaturref01_Good.mono : ∀ a0 k, LeO (exequaturref01_Good.f k a0) (exequaturref01_Good.f (k + 1) a0) := by
  intro a0 k
  unfold exequaturref01_Good.f
  repeat' first
      | (with_reducible exact exequaturref01_UnB64.mono _ _)
      | (with_reducible exact LeO.refl _)
      | (with_reducible exact LeO.none _)
      | (with_reducible refine LeO.ite ?_ ?_)
      | (with_reducible refine LeO.bind ?_ (fun _ => ?_))
      | exact exequaturref01_UnB64.mono _ _
      | exact LeO.none _
      | refine LeO.ite ?_ ?_
      | refine LeO.bind ?_ (fun _ => ?_)
set_option maxHeartbeats 8000000 in
set_option maxRecDepth 100000 in
theorem exequaturref01_Good.calls (k : Nat) (a0 : ByteArray) (r : Bool) (w : World) (h : exequaturref01_Good.f k a0 = some r) :
  Calls Tryd.prog 26 #[.string a0] w fun e w' => e = .returned (.bool r) ∧ Below w.heap.size w w' := by
 have HB := Aside0.mk (Below.refl w.heap.size w)
 have H : ((exequaturref01_UnB64.f k a0).bind fun bt193 => (if bt193.2 = true then (some ((bt193.1.size : Int) == 32)) else (some false))) = some r := h
 clear h
 replace H := Option.bind_eq_some_iff.mp H
 obtain ⟨⟨t193, t194⟩, A20, H⟩ := H
 replace H : (if t194 = true then (some ((t193.size : Int) == 32)) else (some false)) = some r := H
 have A2 := Aside0.mk A20
 clear A20
 by_cases c3 : t194 = true
 ·subst c3
  have H1 : (some ((t193.size : Int) == 32)) = some r := by rw [if_pos rfl] at H; exact H
  clear H
  have H := H1
  clear H1
  obtain rfl := Option.some.inj H
  go_enter Tryd.func26, Tryd.ntmps26
  go_wp2_with (first | ((with_reducible refine gate_callee (f := 43) rfl ?_); refine goesL_ (some 7) rfl rfl Tryd.func43 (by kernel_rfl) rfl #[.string a0] rfl (by (try simp only [List.map_toArray, List.map_cons, List.map_nil]); first | done | rfl | (simp only [List.length_drop, List.length_take]; rfl)) ?_; (with_reducible refine (exequaturref01_UnB64.calls k a0 t193 true _ A2.out).mono ?_); rintro e w4 ⟨rfl, hb⟩; refine ⟨_, rfl, ?_⟩; have n0_ := Aside0.mk (below_step (by repeat (first | (with_reducible first | exact HB.out | apply below_alloc | apply pw_below_drewN | apply below_drew1) | exact HB.out)) hb); clear HB; have HB := n0_; clear n0_; (try clear hb); (try clear hb2); (try clear hk); (try clear hi)))
  go_ret
  first | (exact ⟨by first | rfl | (simp [errW_none, errW_some] <;> rfl) | (simp [*, errW_none, errW_some] <;> rfl), by repeat (first | (with_reducible first | exact HB.out | apply below_alloc | apply pw_below_drewN | apply below_drew1) | exact HB.out)⟩) | (focus (exfalso; simp_all; done))
  all_goals (first | (exfalso; simp_all <;> omega) | (go_ret; exact ⟨by first | rfl | (simp [errW_none, errW_some] <;> rfl) | (simp [*, errW_none, errW_some] <;> rfl), by repeat (first | (with_reducible first | exact HB.out | apply below_alloc | apply pw_below_drewN | apply below_drew1) | exact HB.out)⟩))
 ·replace c3 := Bool.eq_false_iff.mpr c3
  subst c3
  have H1 : (some false) = some r := by rw [if_neg (show ¬ (false = true) by decide)] at H; exact H
  clear H
  have H := H1
  clear H1
  obtain rfl := Option.some.inj H
  go_enter Tryd.func26, Tryd.ntmps26
  go_wp2_with (first | ((with_reducible refine gate_callee (f := 43) rfl ?_); refine goesL_ (some 7) rfl rfl Tryd.func43 (by kernel_rfl) rfl #[.string a0] rfl (by (try simp only [List.map_toArray, List.map_cons, List.map_nil]); first | done | rfl | (simp only [List.length_drop, List.length_take]; rfl)) ?_; (with_reducible refine (exequaturref01_UnB64.calls k a0 t193 false _ A2.out).mono ?_); rintro e w5 ⟨rfl, hb⟩; refine ⟨_, rfl, ?_⟩; have n0_ := Aside0.mk (below_step (by repeat (first | (with_reducible first | exact HB.out | apply below_alloc | apply pw_below_drewN | apply below_drew1) | exact HB.out)) hb); clear HB; have HB := n0_; clear n0_; (try clear hb); (try clear hb2); (try clear hk); (try clear hi)))
  go_ret
  first | (exact ⟨by first | rfl | (simp [errW_none, errW_some] <;> rfl) | (simp [*, errW_none, errW_some] <;> rfl), by repeat (first | (with_reducible first | exact HB.out | apply below_alloc | apply pw_below_drewN | apply below_drew1) | exact HB.out)⟩) | (focus (exfalso; simp_all; done))
  all_goals (first | (exfalso; simp_all <;> omega) | (go_ret; exact ⟨by first | rfl | (simp [errW_none, errW_some] <;> rfl) | (simp [*, errW_none, errW_some] <;> rfl), by repeat (first | (with_reducible first | exact HB.out | apply below_alloc | apply pw_below_drewN | apply below_drew1) | exact HB.out)⟩))

end Go.Proofs.YtmhaaggmfgojbaaDoor.X

/-! HRefB64 -/
namespace Go.Proofs.YtmhaaggmfgojbaaDoor.X
open Go.RowKit Go.Proofs.YtmhaaggmfgojbaaDoorW.PrintWords Go.Proofs.YtmhaaggmfgojbaaDoorW.PrintLast Go.Proofs.YtmhaaggmfgojbaaDoorW.PrintMore Go.Proofs.YtmhaaggmfgojbaaDoor.Spec
set_option linter.unusedVariables false
set_option linter.unusedSimpArgs false

theorem sixty_fin : ∀ n : Fin 64, exequaturref01_sixty.f (n.val : Int) = some ((alpha n.val).toNat : Int) := by decide +kernel
theorem sixty_f (n : Nat) (h : n < 64) : exequaturref01_sixty.f (n : Int) = some ((alpha n).toNat : Int) := sixty_fin ⟨n, h⟩
/-! three bytes are four letters -/
theorem eStep_pre (o : List UInt8) (s : ES) (b : UInt8) : eStep ⟨o ++ s.out, s.have_, s.v⟩ b = ⟨o ++ (eStep s b).out, (eStep s b).have_, (eStep s b).v⟩ := by
 unfold eStep
 dsimp only
 split
 ·simp
 ·split <;> simp
theorem eFold_pre (o : List UInt8) (l : List UInt8) : ∀ s : ES, l.foldl eStep ⟨o ++ s.out, s.have_, s.v⟩ = ⟨o ++ (l.foldl eStep s).out, (l.foldl eStep s).have_, (l.foldl eStep s).v⟩ := by
 induction l with
 | nil => intro s; rfl
 | cons b r ih =>
  intro s
  rw [List.foldl_cons, List.foldl_cons, eStep_pre]
  exact ih (eStep s b)
theorem eEnd_pre (o : List UInt8) (s : ES) : eEnd ⟨o ++ s.out, s.have_, s.v⟩ = o ++ eEnd s := by
 unfold eEnd
 dsimp only
 split
 ·simp
 ·split <;> simp
def four (v : Nat) : List UInt8 := [alpha (v / 262144), alpha (v / 4096 % 64), alpha (v / 64 % 64), alpha (v % 64)]
theorem four_len (v : Nat) : (four v).length = 4 := rfl
theorem four_all (v : Nat) : (four v).take (3 + 1) = four v := rfl
theorem enc3 (a b c : UInt8) (r : List UInt8) : encL (a :: b :: c :: r) = four (a.toNat * 65536 + b.toNat * 256 + c.toNat) ++ encL r := by
 have ha := a.toNat_lt
 have hb := b.toNat_lt
 have hc := c.toNat_lt
 have e : [a, b, c].foldl eStep ⟨[], 0, 0⟩ = ⟨four (a.toNat * 65536 + b.toNat * 256 + c.toNat) ++ [], 0, 0⟩ := by
  show eStep (eStep (eStep ⟨[], 0, 0⟩ a) b) c = _
  have e1 : eStep ⟨[], 0, 0⟩ a = ⟨[alpha (a.toNat / 4 % 64)], 2, a.toNat % 4⟩ := by unfold eStep; rw [if_neg (by decide), if_neg (by decide)]; rfl
  have e2 : eStep ⟨[alpha (a.toNat / 4 % 64)], 2, a.toNat % 4⟩ b = ⟨[alpha (a.toNat / 4 % 64)] ++ [alpha ((a.toNat % 4 * 256 + b.toNat) / 16 % 64)], 4, (a.toNat % 4 * 256 + b.toNat) % 16⟩ := by unfold eStep; rw [if_neg (show ¬ ((2 : Nat) = 4) from by decide), if_pos rfl]
  rw [e1, e2]
  unfold eStep
  rw [if_pos rfl]
  unfold four
  simp only [List.append_nil, List.cons_append, List.nil_append]
  rw [show (a.toNat * 65536 + b.toNat * 256 + c.toNat) / 262144 = a.toNat / 4 % 64 from by omega,
   show (a.toNat * 65536 + b.toNat * 256 + c.toNat) / 4096 % 64 = (a.toNat % 4 * 256 + b.toNat) / 16 % 64 from by omega,
   show (a.toNat * 65536 + b.toNat * 256 + c.toNat) / 64 % 64 = ((a.toNat % 4 * 256 + b.toNat) % 16 * 256 + c.toNat) / 64 % 64 from by omega,
   show (a.toNat * 65536 + b.toNat * 256 + c.toNat) % 64 = ((a.toNat % 4 * 256 + b.toNat) % 16 * 256 + c.toNat) % 64 from by omega]
 unfold encL eSt
 rw [show a :: b :: c :: r = [a, b, c] ++ r from rfl, List.foldl_append, e]
 have := eFold_pre (four (a.toNat * 65536 + b.toNat * 256 + c.toNat)) r ⟨[], 0, 0⟩
 dsimp only at this
 rw [this]
 exact eEnd_pre _ _
theorem enc2 (a b : UInt8) : encL [a, b] = (four (a.toNat * 65536 + b.toNat * 256)).take 3 := by
 have ha := a.toNat_lt
 have hb := b.toNat_lt
 have e1 : eStep ⟨[], 0, 0⟩ a = ⟨[alpha (a.toNat / 4 % 64)], 2, a.toNat % 4⟩ := by unfold eStep; rw [if_neg (by decide), if_neg (by decide)]; rfl
 have e2 : eStep ⟨[alpha (a.toNat / 4 % 64)], 2, a.toNat % 4⟩ b = ⟨[alpha (a.toNat / 4 % 64)] ++ [alpha ((a.toNat % 4 * 256 + b.toNat) / 16 % 64)], 4, (a.toNat % 4 * 256 + b.toNat) % 16⟩ := by unfold eStep; rw [if_neg (show ¬ ((2 : Nat) = 4) from by decide), if_pos rfl]
 unfold encL eSt
 show eEnd (eStep (eStep ⟨[], 0, 0⟩ a) b) = _
 rw [e1, e2]
 unfold eEnd four
 rw [if_pos rfl]
 simp only [List.cons_append, List.nil_append, List.take_succ_cons, List.take_zero]
 rw [show (a.toNat * 65536 + b.toNat * 256) / 262144 = a.toNat / 4 % 64 from by omega,
  show (a.toNat * 65536 + b.toNat * 256) / 4096 % 64 = (a.toNat % 4 * 256 + b.toNat) / 16 % 64 from by omega,
  show (a.toNat * 65536 + b.toNat * 256) / 64 % 64 = (a.toNat % 4 * 256 + b.toNat) % 16 * 4 % 64 from by omega]
theorem enc1 (a : UInt8) : encL [a] = (four (a.toNat * 65536)).take 2 := by
 have ha := a.toNat_lt
 have e1 : eStep ⟨[], 0, 0⟩ a = ⟨[alpha (a.toNat / 4 % 64)], 2, a.toNat % 4⟩ := by unfold eStep; rw [if_neg (by decide), if_neg (by decide)]; rfl
 unfold encL eSt
 show eEnd (eStep ⟨[], 0, 0⟩ a) = _
 rw [e1]
 unfold eEnd four
 rw [if_neg (show ¬ ((2 : Nat) = 4) from by decide), if_pos rfl]
 simp only [List.cons_append, List.nil_append, List.take_succ_cons, List.take_zero]
 rw [show (a.toNat * 65536) / 262144 = a.toNat / 4 % 64 from by omega,
  show (a.toNat * 65536) / 4096 % 64 = a.toNat % 4 * 16 % 64 from by omega]

/-! the walk of a group -/
theorem b64_in (s : ByteArray) (X : List Int) (i v n j : Nat) (b : UInt8) (hs : s.size ≤ 35184372088832) (hj : j < 3) (hij : i + j < s.size) (hb : (bl s)[i + j]? = some b) (hv : v < 65536) (hn : n ≤ 3) (k : Nat) :
  exequaturref01_B64.l1 (k + 1) s X (i : Int) (v : Int) (n : Int) (j : Int) = exequaturref01_B64.l1 k s X (i : Int) ((v * 256 + b.toNat : Nat) : Int) ((n + 1 : Nat) : Int) ((j + 1 : Nat) : Int) := by
 have hb256 := b.toNat_lt
 rw [exequaturref01_B64.l1, if_pos (by omega), w64 (n := (i : Int) + (j : Int)) (by omega) (by omega), if_pos (by omega), if_pos (by omega)]
 rw [show (i : Int) + (j : Int) = ((i + j : Nat) : Int) from by omega, bt_get s (i + j) hij]
 have hg : (bl s)[i + j]'(by rw [bl_length]; exact hij) = b := by
  rw [List.getElem?_eq_getElem (by rw [bl_length]; exact hij)] at hb
  exact Option.some.inj hb
 rw [hg, w64 (n := (b.toNat : Int)) (by omega) (by omega), w64 (n := (v : Int) * 256) (by omega) (by omega), w64 (n := (v : Int) * 256 + (b.toNat : Int)) (by omega) (by omega), w64 (n := (n : Int) + 1) (by omega) (by omega), w64 (n := (j : Int) + 1) (by omega) (by omega)]
 rw [show (v : Int) * 256 + (b.toNat : Int) = ((v * 256 + b.toNat : Nat) : Int) from by omega, show (n : Int) + 1 = ((n + 1 : Nat) : Int) from by omega, show (j : Int) + 1 = ((j + 1 : Nat) : Int) from by omega]
theorem b64_out (s : ByteArray) (X : List Int) (i v n j : Nat) (hs : s.size ≤ 35184372088832) (hi : i ≤ s.size) (hj : j < 3) (hij : s.size ≤ i + j) (hv : v < 65536) (k : Nat) :
  exequaturref01_B64.l1 (k + 1) s X (i : Int) (v : Int) (n : Int) (j : Int) = exequaturref01_B64.l1 k s X (i : Int) ((v * 256 : Nat) : Int) (n : Int) ((j + 1 : Nat) : Int) := by
 rw [exequaturref01_B64.l1, if_pos (by omega), w64 (n := (i : Int) + (j : Int)) (by omega) (by omega), if_neg (by omega), w64 (n := (v : Int) * 256) (by omega) (by omega), w64 (n := (j : Int) + 1) (by omega) (by omega)]
 rw [show (v : Int) * 256 = ((v * 256 : Nat) : Int) from by omega, show (j : Int) + 1 = ((j + 1 : Nat) : Int) from by omega]
theorem b64_end (s : ByteArray) (A : List UInt8) (i v n : Nat) (hs : s.size ≤ 35184372088832) (hi : i < s.size) (hv : v < 16777216) (hn : n ≤ 3) (hA : A.length ≤ 2 * i) (k : Nat) :
  exequaturref01_B64.l1 (k + 1) s (nb A) (i : Int) (v : Int) (n : Int) 3 = exequaturref01_B64.l0 k s (nb (A ++ (four v).take (n + 1))) ((i + 3 : Nat) : Int) := by
 have t1 : Int.tdiv (v : Int) 262144 = ((v / 262144 : Nat) : Int) := by rw [Int.tdiv_eq_ediv_of_nonneg (by omega)]; omega
 have t2 : Int.tdiv (v : Int) 4096 = ((v / 4096 : Nat) : Int) := by rw [Int.tdiv_eq_ediv_of_nonneg (by omega)]; omega
 have t3 : Int.tdiv (v : Int) 64 = ((v / 64 : Nat) : Int) := by rw [Int.tdiv_eq_ediv_of_nonneg (by omega)]; omega
 have m2 : Int.tmod (((v / 4096 : Nat)) : Int) 64 = ((v / 4096 % 64 : Nat) : Int) := by rw [Int.tmod_eq_emod_of_nonneg (by omega)]; omega
 have m3 : Int.tmod (((v / 64 : Nat)) : Int) 64 = ((v / 64 % 64 : Nat) : Int) := by rw [Int.tmod_eq_emod_of_nonneg (by omega)]; omega
 have m4 : Int.tmod (v : Int) 64 = ((v % 64 : Nat) : Int) := by rw [Int.tmod_eq_emod_of_nonneg (by omega)]; omega
 rw [exequaturref01_B64.l1, if_neg (by omega), t1, t2, t3, w64 (n := ((v / 262144 : Nat) : Int)) (by omega) (by omega), w64 (n := ((v / 4096 : Nat) : Int)) (by omega) (by omega), w64 (n := ((v / 64 : Nat) : Int)) (by omega) (by omega), m2, m3, m4,
  sixty_f (v / 262144) (by omega), Option.bind_some, sixty_f (v / 4096 % 64) (by omega), Option.bind_some, sixty_f (v / 64 % 64) (by omega), Option.bind_some, sixty_f (v % 64) (by omega), Option.bind_some, Option.bind_some]
 rw [w64 (n := (n : Int) + 1) (by omega) (by omega), if_pos (by omega), if_pos (by simp only [List.length_cons, List.length_nil]; omega)]
 have ht : (((n : Int) + 1).toNat) = n + 1 := by omega
 have h4 : ([((alpha (v / 262144)).toNat : Int), ((alpha (v / 4096 % 64)).toNat : Int), ((alpha (v / 64 % 64)).toNat : Int), ((alpha (v % 64)).toNat : Int)] : List Int).take (n + 1) = nb ((four v).take (n + 1)) := by
  unfold nb four
  rw [List.map_take]; rfl
 rw [ht, h4, Option.bind_some, ← nb_append, if_pos (by
  rw [nb_length, nb_length, List.length_take]
  rw [four_len]; omega), w64 (n := (i : Int) + 3) (by omega) (by omega), show (i : Int) + 3 = ((i + 3 : Nat) : Int) from by omega]
theorem b64_from (s : ByteArray) (hs : s.size ≤ 35184372088832) : ∀ n i (A : List UInt8), s.size ≤ i + n → A.length ≤ 2 * i → Ev (fun k => exequaturref01_B64.l0 k s (nb A) (i : Int)) (ba (A ++ encL ((bl s).drop i))) := by
 intro n
 induction n using Nat.strongRecOn with
 | ind n ih =>
  intro i A hi hA
  refine Ev.step (fun k => by rw [exequaturref01_B64.l0]) ?_
  by_cases hlt : i < s.size
  ·refine Ev.if_pos (by omega) ?_
   have g : ∀ j, (h : i + j < s.size) → (bl s)[i + j]? = some ((bl s)[i + j]'(by rw [bl_length]; exact h)) := fun j h => List.getElem?_eq_getElem (by rw [bl_length]; exact h)
   have d : ∀ j, (h : i + j < s.size) → (bl s).drop (i + j) = (bl s)[i + j]'(by rw [bl_length]; exact h) :: (bl s).drop (i + j + 1) := fun j h => List.drop_eq_getElem_cons (by rw [bl_length]; exact h)
   have g0 := g 0 (by omega)
   have d0 := d 0 (by omega)
   simp only [Nat.add_zero] at g0 d0
   generalize (bl s)[i]'(by rw [bl_length]; exact hlt) = a at g0 d0
   have ha := a.toNat_lt
   refine Ev.step (fun k => b64_in s (nb A) i 0 0 0 a hs (by omega) (by omega) g0 (by omega) (by omega) k) ?_
   simp only [Nat.zero_mul, Nat.zero_add]
   by_cases h1 : i + 1 < s.size
   ·have g1 := g 1 h1
    have d1 := d 1 h1
    generalize (bl s)[i + 1]'(by rw [bl_length]; exact h1) = b at g1 d1
    have hb := b.toNat_lt
    refine Ev.step (fun k => b64_in s (nb A) i a.toNat 1 1 b hs (by omega) h1 g1 (by omega) (by omega) k) ?_
    by_cases h2 : i + 2 < s.size
    ·have g2 := g 2 h2
     have d2 := d 2 h2
     generalize (bl s)[i + 2]'(by rw [bl_length]; exact h2) = c at g2 d2
     have hc := c.toNat_lt
     refine Ev.step (fun k => b64_in s (nb A) i (a.toNat * 256 + b.toNat) 2 2 c hs (by omega) h2 g2 (by omega) (by omega) k) ?_
     refine Ev.step (fun k => b64_end s A i ((a.toNat * 256 + b.toNat) * 256 + c.toNat) 3 hs hlt (by omega) (by omega) hA k) ?_
     refine (ih (n - 3) (by omega) (i + 3) _ (by omega) (by rw [List.length_append, List.length_take]; rw [four_len]; omega)).uni ?_
     rw [d0, d1, d2, enc3, show (a.toNat * 256 + b.toNat) * 256 + c.toNat = a.toNat * 65536 + b.toNat * 256 + c.toNat from by omega]
     rw [four_all, List.append_assoc]
    ·refine Ev.step (fun k => b64_out s (nb A) i (a.toNat * 256 + b.toNat) 2 2 hs (by omega) (by omega) (by omega) (by omega) k) ?_
     refine Ev.step (fun k => b64_end s A i ((a.toNat * 256 + b.toNat) * 256) 2 hs hlt (by omega) (by omega) hA k) ?_
     refine (ih (n - 2) (by omega) (i + 3) _ (by omega) (by rw [List.length_append, List.length_take]; rw [four_len]; omega)).uni ?_
     have e2 : (bl s).drop (i + 1 + 1) = [] := List.drop_of_length_le (by rw [bl_length]; omega)
     have e3 : (bl s).drop (i + 3) = [] := List.drop_of_length_le (by rw [bl_length]; omega)
     rw [d0, d1, e2, e3, enc2, show (a.toNat * 256 + b.toNat) * 256 = a.toNat * 65536 + b.toNat * 256 from by omega, show encL [] = [] from rfl, List.append_nil]
   ·refine Ev.step (fun k => b64_out s (nb A) i a.toNat 1 1 hs (by omega) (by omega) (by omega) (by omega) k) ?_
    refine Ev.step (fun k => b64_out s (nb A) i (a.toNat * 256) 1 2 hs (by omega) (by omega) (by omega) (by omega) k) ?_
    refine Ev.step (fun k => b64_end s A i (a.toNat * 256 * 256) 1 hs hlt (by omega) (by omega) hA k) ?_
    refine (ih (n - 1) (by omega) (i + 3) _ (by omega) (by rw [List.length_append, List.length_take]; rw [four_len]; omega)).uni ?_
    have e1 : (bl s).drop (i + 1) = [] := List.drop_of_length_le (by rw [bl_length]; omega)
    have e3 : (bl s).drop (i + 3) = [] := List.drop_of_length_le (by rw [bl_length]; omega)
    rw [d0, e1, e3, enc1, show a.toNat * 256 * 256 = a.toNat * 65536 from by omega, show encL [] = [] from rfl, List.append_nil]
  ·refine Ev.if_neg (by omega) ?_
   have e0 : (bl s).drop i = [] := List.drop_of_length_le (by rw [bl_length]; omega)
   rw [e0, show encL [] = [] from rfl, List.append_nil, str_nb]
   exact Ev.some _
theorem ref_B64 (s : ByteArray) (hs : s.size ≤ 35184372088832) : Ev (fun k => exequaturref01_B64.f k s) (ba (encL (bl s))) :=
 (b64_from s hs s.size 0 [] (by omega) (by simp)).uni (by simp)
end Go.Proofs.YtmhaaggmfgojbaaDoor.X

/-! HRefU64 -/
namespace Go.Proofs.YtmhaaggmfgojbaaDoor.X
open Go.RowKit Go.Proofs.YtmhaaggmfgojbaaDoorW.PrintWords Go.Proofs.YtmhaaggmfgojbaaDoorW.PrintLast Go.Proofs.YtmhaaggmfgojbaaDoorW.PrintMore Go.Proofs.YtmhaaggmfgojbaaDoor.Spec
set_option linter.unusedVariables false
set_option linter.unusedSimpArgs false

def lastD (c : UInt8) (j : Nat) : Int := if 0 ≤ letter c ∧ letter c < (j : Int) then letter c else -1
theorem alpha_is (c : UInt8) (j : Nat) (hj : j < 64) : ((alpha j).toNat : Int) = (c.toNat : Int) ↔ letter c = j := by
 rw [toNat_inj]
 constructor
 ·intro h; rw [← h]; exact letter_alpha j hj
 ·intro h
  rcases letter_cases c with h0 | ⟨h0, h1, h2⟩
  ·omega
  ·rw [h] at h2; simpa using h2
theorem unb_inner (s : ByteArray) (X : List Int) (v n : Int) (i : Nat) (hi : i < s.size) (c : UInt8) (hc : (bl s)[i]? = some c) (hs : s.size ≤ 35184372088832) {R : ByteArray × Bool}
  (h : Ev (fun k => exequaturref01_UnB64.l1 k s X v n (i : Int) (lastD c 64) 64) R) : ∀ m j, j + m = 64 → Ev (fun k => exequaturref01_UnB64.l1 k s X v n (i : Int) (lastD c j) (j : Int)) R := by
 have hbt : bt s (i : Int) = (c.toNat : Int) := by
  rw [bt_get s i hi]
  rw [List.getElem?_eq_getElem (by rw [bl_length]; exact hi)] at hc
  rw [Option.some.inj hc]
 intro m
 induction m with
 | zero =>
  intro j hj
  obtain rfl : j = 64 := by omega
  exact h
 | succ m ih =>
  intro j hj
  refine Ev.step (fun k => by rw [exequaturref01_UnB64.l1]) ?_
  refine Ev.if_pos (by omega) ?_
  rw [sixty_f j (by omega), hbt]
  have hw : wrap64 ((j : Int) + 1) = ((j + 1 : Nat) : Int) := by unfold wrap64; omega
  rw [hw]
  refine Ev.bind (Ev.const rfl) (Ev.if_pos (by omega) (Ev.if_pos (by omega) ?_))
  by_cases he : letter c = j
  ·refine Ev.if_pos ((alpha_is c j (by omega)).2 he) ?_
   have e1 : (j : Int) = lastD c (j + 1) := by unfold lastD; rw [if_pos (by omega), he]
   have := ih (j + 1) (by omega)
   rw [← e1] at this
   exact this
  ·refine Ev.if_neg (fun h => he ((alpha_is c j (by omega)).1 h)) ?_
   have e1 : lastD c j = lastD c (j + 1) := by
    unfold lastD
    by_cases hh : 0 ≤ letter c ∧ letter c < (j : Int)
    ·rw [if_pos hh, if_pos (by omega)]
    ·rw [if_neg hh, if_neg (by omega)]
   rw [e1]
   exact ih (j + 1) (by omega)
theorem lastD_all (c : UInt8) : lastD c 64 = letter c := by
 unfold lastD
 have := letter_range c
 by_cases h : 0 ≤ letter c
 ·rw [if_pos ⟨h, by omega⟩]
 ·rw [if_neg (by omega)]; omega
theorem shr_at (x : Nat) (p : Nat) (hp : p ≤ 64) : shr .i64 (x : Int) (p : Int) = ((x / 2 ^ p : Nat) : Int) := by
 unfold shr
 rw [show min ((p : Int)).toNat IntKind.i64.bits = p from by rw [show IntKind.i64.bits = 64 from rfl]; omega]
 rw [Int.natCast_ediv]; simp
theorem wrapu (n : Nat) (h : n < 8) : IntKind.u64.wrap (n : Int) = (n : Int) := by
 rw [IntKind.wrap_u64]; omega
theorem unb_step (s : ByteArray) (st : ES) (i : Nat) (c : UInt8) (d : Nat) (hd : letter c = d) (hd64 : d < 64) (hs : s.size ≤ 35184372088832) (hi : i < s.size) (hok : DOk st i) (k : Nat) :
  exequaturref01_UnB64.l1 (k + 1) s (nb st.out) (st.v : Int) (st.have_ : Int) (i : Int) (lastD c 64) 64 = exequaturref01_UnB64.l0 k s (nb (dStep st d).out) ((dStep st d).v : Int) ((dStep st d).have_ : Int) ((i + 1 : Nat) : Int) := by
 have hlen := hok.len
 have hv : st.v < 64 := by have := hok.st; omega
 have hh : st.have_ ≤ 6 := by have := hok.st; omega
 have hm : wrap64 ((st.v : Int) * 64) = ((st.v * 64 : Nat) : Int) := by unfold wrap64; omega
 have hsum : wrap64 (((st.v * 64 : Nat) : Int) + (d : Int)) = ((st.v * 64 + d : Nat) : Int) := by unfold wrap64; omega
 have hn6 : wrap64 ((st.have_ : Int) + 6) = ((st.have_ + 6 : Nat) : Int) := by unfold wrap64; omega
 have hi1 : wrap64 ((i : Int) + 1) = ((i + 1 : Nat) : Int) := by unfold wrap64; omega
 rw [lastD_all, hd, exequaturref01_UnB64.l1, if_neg (by omega), if_neg (by omega), hm, hsum, hn6, hi1]
 obtain ⟨so, sh, sv⟩ := st
 have hst := hok.st
 dsimp only at hst hv hlen ⊢
 have key : ∀ p : Nat, p ≤ 4 → wrap64 (((p + 8 : Nat) : Int) - 8) = (p : Int) := fun p hp => by unfold wrap64; omega
 have one : ∀ p : Nat, p ≤ 4 → shl .i64 1 (p : Int) = ((2 ^ p : Nat) : Int) := by
  intro p hp
  have : p = 0 ∨ p = 1 ∨ p = 2 ∨ p = 3 ∨ p = 4 := by omega
  rcases this with rfl | rfl | rfl | rfl | rfl <;> decide +kernel
 have byte : ∀ x : Nat, x < 256 → ((UInt8.ofNat x).toNat : Int) = (x : Int) := fun x hx => by
  have : (UInt8.ofNat x).toNat = x := by simp; omega
  rw [this]
 have go : ∀ p : Nat, p ≤ 4 → (if ((p + 8 : Nat) : Int) ≥ 8 then (if 0 ≤ (IntKind.u64.wrap (wrap64 (((p + 8 : Nat) : Int) - 8))) then (if (nb so).length < 140737488355328 then (if (shl .i64 1 (IntKind.u64.wrap (wrap64 (((p + 8 : Nat) : Int) - 8)))) = 0 then (none) else (exequaturref01_UnB64.l0 k s (nb so ++ [(shr .i64 ((sv * 64 + d : Nat) : Int) (IntKind.u64.wrap (wrap64 (((p + 8 : Nat) : Int) - 8)))) % 256]) (Int.tmod ((sv * 64 + d : Nat) : Int) (shl .i64 1 (IntKind.u64.wrap (wrap64 (((p + 8 : Nat) : Int) - 8))))) (wrap64 (((p + 8 : Nat) : Int) - 8)) ((i + 1 : Nat) : Int))) else (none)) else (none)) else (exequaturref01_UnB64.l0 k s (nb so) ((sv * 64 + d : Nat) : Int) ((p + 8 : Nat) : Int) ((i + 1 : Nat) : Int)))
   = exequaturref01_UnB64.l0 k s (nb (so ++ [UInt8.ofNat ((sv * 64 + d) / 2 ^ p % 256)])) (((sv * 64 + d) % 2 ^ p : Nat) : Int) (p : Int) ((i + 1 : Nat) : Int) := by
  intro p hp
  have hx : ((sv * 64 + d) / 2 ^ p) % 256 < 256 := Nat.mod_lt _ (by decide)
  have h2 : 0 < 2 ^ p := Nat.pow_pos (by decide)
  have hpz : ¬ (((2 ^ p : Nat) : Int) = 0) := by omega
  rw [if_pos (by omega), key p hp, wrapu p (by omega), if_pos (by omega), if_pos (by rw [nb_length]; omega), one p hp, if_neg hpz, shr_at _ p (by omega), Int.tmod_eq_emod_of_nonneg (Int.natCast_nonneg _), nb_append]
  have e1 : (((sv * 64 + d) / 2 ^ p : Nat) : Int) % 256 = ((UInt8.ofNat ((sv * 64 + d) / 2 ^ p % 256)).toNat : Int) := by rw [byte _ hx]; omega
  have e2 : ((sv * 64 + d : Nat) : Int) % ((2 ^ p : Nat) : Int) = (((sv * 64 + d) % 2 ^ p : Nat) : Int) := by rw [Int.natCast_emod]
  rw [e1, e2]
  have e3 : nb [UInt8.ofNat ((sv * 64 + d) / 2 ^ p % 256)] = [((UInt8.ofNat ((sv * 64 + d) / 2 ^ p % 256)).toNat : Int)] := rfl
  rw [e3]
 rcases hst with ⟨rfl, rfl⟩ | ⟨rfl, hv'⟩ | ⟨rfl, hv'⟩ | ⟨rfl, hv'⟩
 ·rw [if_neg (by omega)]
  unfold dStep
  rw [if_pos rfl, Nat.zero_mul, Nat.zero_add]
 ·have hds : dStep ⟨so, 2, sv⟩ d = ⟨so ++ [UInt8.ofNat ((sv * 64 + d) / 2 ^ 0 % 256)], 0, (sv * 64 + d) % 2 ^ 0⟩ := by
   unfold dStep
   rw [if_neg (show ¬ ((2 : Nat) = 0) from by decide), if_neg (show ¬ ((2 : Nat) = 6) from by decide), if_neg (show ¬ ((2 : Nat) = 4) from by decide)]
   rw [Nat.pow_zero, Nat.div_one, Nat.mod_one]
  rw [hds]
  exact go 0 (by omega)
 ·have hds : dStep ⟨so, 4, sv⟩ d = ⟨so ++ [UInt8.ofNat ((sv * 64 + d) / 2 ^ 2 % 256)], 2, (sv * 64 + d) % 2 ^ 2⟩ := by
   unfold dStep
   rw [if_neg (show ¬ ((4 : Nat) = 0) from by decide), if_neg (show ¬ ((4 : Nat) = 6) from by decide), if_pos rfl]
  rw [hds]
  exact go 2 (by omega)
 ·have hds : dStep ⟨so, 6, sv⟩ d = ⟨so ++ [UInt8.ofNat ((sv * 64 + d) / 2 ^ 4 % 256)], 4, (sv * 64 + d) % 2 ^ 4⟩ := by
   unfold dStep
   rw [if_neg (show ¬ ((6 : Nat) = 0) from by decide), if_pos rfl]
  rw [hds]
  exact go 4 (by omega)
theorem unb_from (s : ByteArray) (hs : s.size ≤ 35184372088832) : ∀ n i (st : ES), i + n = s.size → dSt ⟨[], 0, 0⟩ ((bl s).take i) = some st → Ev (fun k => exequaturref01_UnB64.l0 k s (nb st.out) (st.v : Int) (st.have_ : Int) (i : Int)) (ba (decR (bl s)).1, (decR (bl s)).2) := by
 intro n
 induction n with
 | zero =>
  intro i st hi hst
  have hok := dOk_take (bl s) i (by rw [bl_length]; omega) st hst
  have hl := hok.len
  rw [List.take_of_length_le (by rw [bl_length]; omega)] at hst
  refine Ev.step (fun k => by rw [exequaturref01_UnB64.l0]) ?_
  refine Ev.if_neg (by omega) ?_
  rw [str_nb, decR_some hst]
  refine Ev.bind (ref_B64 (ba st.out) (by rw [size_ba]; omega)) ?_
  refine (Ev.some _).uni ?_
  rw [bl_ba, toList_bl, toList_bl, bl_ba]
  refine Prod.ext rfl ?_
  show (encL st.out == bl s) = decide (encL st.out = bl s)
  rw [Bool.eq_iff_iff]; simp
 | succ n ih =>
  intro i st hi hst
  have hlt : i < s.size := by omega
  have hlb : i < (bl s).length := by rw [bl_length]; exact hlt
  have hok := dOk_take (bl s) i (by omega) st hst
  refine Ev.step (fun k => by rw [exequaturref01_UnB64.l0]) ?_
  refine Ev.if_pos (by omega) ?_
  have hc : (bl s)[i]? = some (bl s)[i] := List.getElem?_eq_getElem hlb
  have hnx := dSt_snoc ⟨[], 0, 0⟩ ((bl s).take i) ((bl s)[i])
  rw [← List.take_succ_eq_append_getElem hlb, hst, Option.bind_some] at hnx
  generalize (bl s)[i] = c at hc hnx
  have hlr := letter_range c
  have h0 : lastD c 0 = -1 := by unfold lastD; rw [if_neg (by omega)]
  have inner := unb_inner s (nb st.out) (st.v : Int) (st.have_ : Int) i hlt c hc hs (R := (ba (decR (bl s)).1, (decR (bl s)).2)) ?_ 64 0 (by omega)
  ·rw [h0] at inner; exact inner
  by_cases hneg : letter c < 0
  ·rw [if_pos hneg] at hnx
   rw [decR_none hnx, lastD_all]
   refine Ev.step (fun k => by rw [exequaturref01_UnB64.l1]) ?_
   exact Ev.if_neg (by omega) (Ev.if_pos hneg (Ev.some _))
  ·obtain ⟨d, hd⟩ : ∃ d : Nat, letter c = (d : Int) := ⟨(letter c).toNat, by omega⟩
   rw [if_neg hneg, hd] at hnx
   refine Ev.step (fun k => unb_step s st i c d hd (by omega) hs hlt hok k) ?_
   exact ih (i + 1) (dStep st d) (by omega) (by rw [hnx]; simp)
theorem ref_UnB64 (s : ByteArray) (hs : s.size ≤ 35184372088832) : Ev (fun k => exequaturref01_UnB64.f k s) (ba (decR (bl s)).1, (decR (bl s)).2) :=
 unb_from s hs s.size 0 ⟨[], 0, 0⟩ (by omega) rfl
end Go.Proofs.YtmhaaggmfgojbaaDoor.X
