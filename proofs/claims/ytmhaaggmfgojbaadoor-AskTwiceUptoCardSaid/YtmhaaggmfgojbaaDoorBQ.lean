import Derived.Test.YtmhaaggmfgojbaaDoorX0
import Derived.Test.YtmhaaggmfgojbaaDoorBC
import Derived.Test.YtmhaaggmfgojbaaDoorBD
/-! X14 -/
-- Lean text made by xprint.py (ours) out of the seat's translation. Lean checks it.
namespace Go.Proofs.YtmhaaggmfgojbaaDoor.X
open Go.RowKit Go.Proofs.YtmhaaggmfgojbaaDoorW.PrintWords Go.Proofs.YtmhaaggmfgojbaaDoorW.PrintLast Go.Proofs.YtmhaaggmfgojbaaDoorW.PrintMore
attribute [local go_sem] max2_int min2_int max_two min_two max_three min_three max_four min_four   -- for this text's walks alone
set_option linter.unusedVariables false
set_option linter.unusedSimpArgs false

/-! ### exequaturref01_alnum: function 52 -/
def exequaturref01_alnum.f (a0 : Int) : Option (Bool) := if a0 ≥ 97 then (if a0 ≤ 122 then (some true) else (if a0 ≥ 65 then (if a0 ≤ 90 then (some true) else (if a0 ≥ 48 then (some (decide (a0 ≤ 57))) else (some false))) else (if a0 ≥ 48 then (some (decide (a0 ≤ 57))) else (some false)))) else (if a0 ≥ 65 then (if a0 ≤ 90 then (some true) else (if a0 ≥ 48 then (some (decide (a0 ≤ 57))) else (some false))) else (if a0 ≥ 48 then (some (decide (a0 ≤ 57))) else (some false)))
set_option maxHeartbeats 8000000 in
set_option maxRecDepth 100000 in
theorem exequaturref01_alnum.calls (a0 : Int) (r : Bool) (w : World) (h : exequaturref01_alnum.f a0 = some r) :
  Calls Tryd.prog 52 #[.int .u8 a0] w fun e w' => e = .returned (.bool r) ∧ Drawn0 w w' := by
 have H : (if a0 ≥ 97 then (if a0 ≤ 122 then (some true) else (if a0 ≥ 65 then (if a0 ≤ 90 then (some true) else (if a0 ≥ 48 then (some (decide (a0 ≤ 57))) else (some false))) else (if a0 ≥ 48 then (some (decide (a0 ≤ 57))) else (some false)))) else (if a0 ≥ 65 then (if a0 ≤ 90 then (some true) else (if a0 ≥ 48 then (some (decide (a0 ≤ 57))) else (some false))) else (if a0 ≥ 48 then (some (decide (a0 ≤ 57))) else (some false)))) = some r := h
 clear h
 by_cases c2 : a0 ≥ 97
 ·rw [if_pos c2] at H
  have c2b0 : decide (97 ≤ a0) = true := decide_eq_true c2
  clear c2
  by_cases c3 : a0 ≤ 122
  ·rw [if_pos c3] at H
   have c3b0 : decide (a0 ≤ 122) = true := decide_eq_true c3
   clear c3
   obtain rfl := Option.some.inj H
   go_enter Tryd.func52, Tryd.ntmps52
   go_wp2
   go_ret
   exact ⟨by first | rfl | (simp; done) | (simp [*]; done) | (refine congrArg Value.bool ?_; rw [Bool.eq_iff_iff]; simp; done), by repeat (first | exact Drawn0.refl _ | apply Drawn0.step)⟩
  ·rw [if_neg c3] at H
   have c3b0 : decide (a0 ≤ 122) = false := decide_eq_false c3
   clear c3
   by_cases c4 : a0 ≥ 65
   ·rw [if_pos c4] at H
    have c4b0 : decide (65 ≤ a0) = true := decide_eq_true c4
    clear c4
    by_cases c5 : a0 ≤ 90
    ·rw [if_pos c5] at H
     have c5b0 : decide (a0 ≤ 90) = true := decide_eq_true c5
     clear c5
     obtain rfl := Option.some.inj H
     go_enter Tryd.func52, Tryd.ntmps52
     go_wp2
     go_ret
     exact ⟨by first | rfl | (simp; done) | (simp [*]; done) | (refine congrArg Value.bool ?_; rw [Bool.eq_iff_iff]; simp; done), by repeat (first | exact Drawn0.refl _ | apply Drawn0.step)⟩
    ·rw [if_neg c5] at H
     have c5b0 : decide (a0 ≤ 90) = false := decide_eq_false c5
     clear c5
     by_cases c6 : a0 ≥ 48
     ·rw [if_pos c6] at H
      have c6b0 : decide (48 ≤ a0) = true := decide_eq_true c6
      clear c6
      obtain rfl := Option.some.inj H
      go_enter Tryd.func52, Tryd.ntmps52
      go_wp2
      go_ret
      exact ⟨by first | rfl | (simp; done) | (simp [*]; done) | (refine congrArg Value.bool ?_; rw [Bool.eq_iff_iff]; simp; done), by repeat (first | exact Drawn0.refl _ | apply Drawn0.step)⟩
     ·rw [if_neg c6] at H
      have c6b0 : decide (48 ≤ a0) = false := decide_eq_false c6
      clear c6
      obtain rfl := Option.some.inj H
      go_enter Tryd.func52, Tryd.ntmps52
      go_wp2
      go_ret
      exact ⟨by first | rfl | (simp; done) | (simp [*]; done) | (refine congrArg Value.bool ?_; rw [Bool.eq_iff_iff]; simp; done), by repeat (first | exact Drawn0.refl _ | apply Drawn0.step)⟩
   ·rw [if_neg c4] at H
    have c4b0 : decide (65 ≤ a0) = false := decide_eq_false c4
    clear c4
    by_cases c7 : a0 ≥ 48
    ·rw [if_pos c7] at H
     have c7b0 : decide (48 ≤ a0) = true := decide_eq_true c7
     clear c7
     obtain rfl := Option.some.inj H
     go_enter Tryd.func52, Tryd.ntmps52
     go_wp2
     go_ret
     exact ⟨by first | rfl | (simp; done) | (simp [*]; done) | (refine congrArg Value.bool ?_; rw [Bool.eq_iff_iff]; simp; done), by repeat (first | exact Drawn0.refl _ | apply Drawn0.step)⟩
    ·rw [if_neg c7] at H
     have c7b0 : decide (48 ≤ a0) = false := decide_eq_false c7
     clear c7
     obtain rfl := Option.some.inj H
     go_enter Tryd.func52, Tryd.ntmps52
     go_wp2
     go_ret
     exact ⟨by first | rfl | (simp; done) | (simp [*]; done) | (refine congrArg Value.bool ?_; rw [Bool.eq_iff_iff]; simp; done), by repeat (first | exact Drawn0.refl _ | apply Drawn0.step)⟩
 ·rw [if_neg c2] at H
  have c2b0 : decide (97 ≤ a0) = false := decide_eq_false c2
  clear c2
  by_cases c8 : a0 ≥ 65
  ·rw [if_pos c8] at H
   have c8b0 : decide (65 ≤ a0) = true := decide_eq_true c8
   clear c8
   by_cases c9 : a0 ≤ 90
   ·rw [if_pos c9] at H
    have c9b0 : decide (a0 ≤ 90) = true := decide_eq_true c9
    clear c9
    obtain rfl := Option.some.inj H
    go_enter Tryd.func52, Tryd.ntmps52
    go_wp2
    go_ret
    exact ⟨by first | rfl | (simp; done) | (simp [*]; done) | (refine congrArg Value.bool ?_; rw [Bool.eq_iff_iff]; simp; done), by repeat (first | exact Drawn0.refl _ | apply Drawn0.step)⟩
   ·rw [if_neg c9] at H
    have c9b0 : decide (a0 ≤ 90) = false := decide_eq_false c9
    clear c9
    by_cases c10 : a0 ≥ 48
    ·rw [if_pos c10] at H
     have c10b0 : decide (48 ≤ a0) = true := decide_eq_true c10
     clear c10
     obtain rfl := Option.some.inj H
     go_enter Tryd.func52, Tryd.ntmps52
     go_wp2
     go_ret
     exact ⟨by first | rfl | (simp; done) | (simp [*]; done) | (refine congrArg Value.bool ?_; rw [Bool.eq_iff_iff]; simp; done), by repeat (first | exact Drawn0.refl _ | apply Drawn0.step)⟩
    ·rw [if_neg c10] at H
     have c10b0 : decide (48 ≤ a0) = false := decide_eq_false c10
     clear c10
     obtain rfl := Option.some.inj H
     go_enter Tryd.func52, Tryd.ntmps52
     go_wp2
     go_ret
     exact ⟨by first | rfl | (simp; done) | (simp [*]; done) | (refine congrArg Value.bool ?_; rw [Bool.eq_iff_iff]; simp; done), by repeat (first | exact Drawn0.refl _ | apply Drawn0.step)⟩
  ·rw [if_neg c8] at H
   have c8b0 : decide (65 ≤ a0) = false := decide_eq_false c8
   clear c8
   by_cases c11 : a0 ≥ 48
   ·rw [if_pos c11] at H
    have c11b0 : decide (48 ≤ a0) = true := decide_eq_true c11
    clear c11
    obtain rfl := Option.some.inj H
    go_enter Tryd.func52, Tryd.ntmps52
    go_wp2
    go_ret
    exact ⟨by first | rfl | (simp; done) | (simp [*]; done) | (refine congrArg Value.bool ?_; rw [Bool.eq_iff_iff]; simp; done), by repeat (first | exact Drawn0.refl _ | apply Drawn0.step)⟩
   ·rw [if_neg c11] at H
    have c11b0 : decide (48 ≤ a0) = false := decide_eq_false c11
    clear c11
    obtain rfl := Option.some.inj H
    go_enter Tryd.func52, Tryd.ntmps52
    go_wp2
    go_ret
    exact ⟨by first | rfl | (simp; done) | (simp [*]; done) | (refine congrArg Value.bool ?_; rw [Bool.eq_iff_iff]; simp; done), by repeat (first | exact Drawn0.refl _ | apply Drawn0.step)⟩

/-! ### exequaturref01_plain: function 44 -/
def exequaturref01_plain.f (a0 : Int) : Option (Bool) := (exequaturref01_alnum.f a0).bind fun t216 => (if t216 = true then (some true) else (if a0 = 45 then (some true) else (if a0 = 46 then (some true) else (if a0 = 95 then (some true) else (some (a0 == 126))))))
set_option maxHeartbeats 8000000 in
set_option maxRecDepth 100000 in
theorem exequaturref01_plain.calls (a0 : Int) (r : Bool) (w : World) (h : exequaturref01_plain.f a0 = some r) :
  Calls Tryd.prog 44 #[.int .u8 a0] w fun e w' => e = .returned (.bool r) ∧ Drawn0 w w' := by
 have H : ((exequaturref01_alnum.f a0).bind fun t216 => (if t216 = true then (some true) else (if a0 = 45 then (some true) else (if a0 = 46 then (some true) else (if a0 = 95 then (some true) else (some (a0 == 126))))))) = some r := h
 clear h
 replace H := Option.bind_eq_some_iff.mp H
 obtain ⟨t216, A20, H⟩ := H
 replace H : (if t216 = true then (some true) else (if a0 = 45 then (some true) else (if a0 = 46 then (some true) else (if a0 = 95 then (some true) else (some (a0 == 126)))))) = some r := H
 have A2 := Aside0.mk A20
 clear A20
 by_cases c3 : t216 = true
 ·subst c3
  have H1 : (some true) = some r := by rw [if_pos rfl] at H; exact H
  clear H
  have H := H1
  clear H1
  obtain rfl := Option.some.inj H
  go_enter Tryd.func44, Tryd.ntmps44
  go_wp2_with (first | ((with_reducible refine gate_callee (f := 52) rfl ?_); refine goesL_ (some 4) rfl rfl Tryd.func52 (by kernel_rfl) rfl #[.int .u8 a0] rfl (by (try simp only [List.map_toArray, List.map_cons, List.map_nil]); first | done | rfl | (simp only [List.length_drop, List.length_take]; rfl)) ?_; (with_reducible refine (exequaturref01_alnum.calls a0 true _ A2.out).mono ?_); rintro e w' ⟨rfl, ⟨nd, rfl⟩⟩; refine ⟨_, rfl, ?_⟩))
  go_ret
  exact ⟨by first | rfl | (simp; done) | (simp [*]; done) | (refine congrArg Value.bool ?_; rw [Bool.eq_iff_iff]; simp; done), by repeat (first | exact Drawn0.refl _ | apply Drawn0.step)⟩
 ·replace c3 := Bool.eq_false_iff.mpr c3
  subst c3
  have H1 : (if a0 = 45 then (some true) else (if a0 = 46 then (some true) else (if a0 = 95 then (some true) else (some (a0 == 126))))) = some r := by rw [if_neg (show ¬ (false = true) by decide)] at H; exact H
  clear H
  have H := H1
  clear H1
  by_cases c4 : a0 = 45
  ·rw [if_pos c4] at H
   have c4b0 : (a0 == 45) = true := beq_iff_eq.mpr c4
   have c4b1 : (a0 != 45) = false := bne_eq_false_iff_eq.mpr c4
   clear c4
   obtain rfl := Option.some.inj H
   go_enter Tryd.func44, Tryd.ntmps44
   go_wp2_with (first | ((with_reducible refine gate_callee (f := 52) rfl ?_); refine goesL_ (some 4) rfl rfl Tryd.func52 (by kernel_rfl) rfl #[.int .u8 a0] rfl (by (try simp only [List.map_toArray, List.map_cons, List.map_nil]); first | done | rfl | (simp only [List.length_drop, List.length_take]; rfl)) ?_; (with_reducible refine (exequaturref01_alnum.calls a0 false _ A2.out).mono ?_); rintro e w' ⟨rfl, ⟨nd, rfl⟩⟩; refine ⟨_, rfl, ?_⟩))
   go_ret
   exact ⟨by first | rfl | (simp; done) | (simp [*]; done) | (refine congrArg Value.bool ?_; rw [Bool.eq_iff_iff]; simp; done), by repeat (first | exact Drawn0.refl _ | apply Drawn0.step)⟩
  ·rw [if_neg c4] at H
   have c4b0 : (a0 == 45) = false := beq_eq_false_iff_ne.mpr c4
   have c4b1 : (a0 != 45) = true := bne_iff_ne.mpr c4
   by_cases c5 : a0 = 46
   ·rw [if_pos c5] at H
    have c5b0 : (a0 == 46) = true := beq_iff_eq.mpr c5
    have c5b1 : (a0 != 46) = false := bne_eq_false_iff_eq.mpr c5
    clear c5
    obtain rfl := Option.some.inj H
    go_enter Tryd.func44, Tryd.ntmps44
    go_wp2_with (first | ((with_reducible refine gate_callee (f := 52) rfl ?_); refine goesL_ (some 4) rfl rfl Tryd.func52 (by kernel_rfl) rfl #[.int .u8 a0] rfl (by (try simp only [List.map_toArray, List.map_cons, List.map_nil]); first | done | rfl | (simp only [List.length_drop, List.length_take]; rfl)) ?_; (with_reducible refine (exequaturref01_alnum.calls a0 false _ A2.out).mono ?_); rintro e w' ⟨rfl, ⟨nd, rfl⟩⟩; refine ⟨_, rfl, ?_⟩))
    go_ret
    exact ⟨by first | rfl | (simp; done) | (simp [*]; done) | (refine congrArg Value.bool ?_; rw [Bool.eq_iff_iff]; simp; done), by repeat (first | exact Drawn0.refl _ | apply Drawn0.step)⟩
   ·rw [if_neg c5] at H
    have c5b0 : (a0 == 46) = false := beq_eq_false_iff_ne.mpr c5
    have c5b1 : (a0 != 46) = true := bne_iff_ne.mpr c5
    by_cases c6 : a0 = 95
    ·rw [if_pos c6] at H
     have c6b0 : (a0 == 95) = true := beq_iff_eq.mpr c6
     have c6b1 : (a0 != 95) = false := bne_eq_false_iff_eq.mpr c6
     clear c6
     obtain rfl := Option.some.inj H
     go_enter Tryd.func44, Tryd.ntmps44
     go_wp2_with (first | ((with_reducible refine gate_callee (f := 52) rfl ?_); refine goesL_ (some 4) rfl rfl Tryd.func52 (by kernel_rfl) rfl #[.int .u8 a0] rfl (by (try simp only [List.map_toArray, List.map_cons, List.map_nil]); first | done | rfl | (simp only [List.length_drop, List.length_take]; rfl)) ?_; (with_reducible refine (exequaturref01_alnum.calls a0 false _ A2.out).mono ?_); rintro e w' ⟨rfl, ⟨nd, rfl⟩⟩; refine ⟨_, rfl, ?_⟩))
     go_ret
     exact ⟨by first | rfl | (simp; done) | (simp [*]; done) | (refine congrArg Value.bool ?_; rw [Bool.eq_iff_iff]; simp; done), by repeat (first | exact Drawn0.refl _ | apply Drawn0.step)⟩
    ·rw [if_neg c6] at H
     have c6b0 : (a0 == 95) = false := beq_eq_false_iff_ne.mpr c6
     have c6b1 : (a0 != 95) = true := bne_iff_ne.mpr c6
     obtain rfl := Option.some.inj H
     go_enter Tryd.func44, Tryd.ntmps44
     go_wp2_with (first | ((with_reducible refine gate_callee (f := 52) rfl ?_); refine goesL_ (some 4) rfl rfl Tryd.func52 (by kernel_rfl) rfl #[.int .u8 a0] rfl (by (try simp only [List.map_toArray, List.map_cons, List.map_nil]); first | done | rfl | (simp only [List.length_drop, List.length_take]; rfl)) ?_; (with_reducible refine (exequaturref01_alnum.calls a0 false _ A2.out).mono ?_); rintro e w' ⟨rfl, ⟨nd, rfl⟩⟩; refine ⟨_, rfl, ?_⟩))
     go_ret
     exact ⟨by first | rfl | (simp; done) | (simp [*]; done) | (refine congrArg Value.bool ?_; rw [Bool.eq_iff_iff]; simp; done), by repeat (first | exact Drawn0.refl _ | apply Drawn0.step)⟩

/-! ### exequaturref01_Quote: function 27 -/
def exequaturref01_Quote.l0 : Nat → ByteArray → List Int → Int → Option (ByteArray)
  | 0, _, _, _ => none
  | k + 1, x0, x3, x4 => if x4 < (x0.size : Int) then (if 0 ≤ x4 then ((exequaturref01_plain.f (bt x0 x4)).bind fun t217 => (if t217 = true then (if x3.length < 140737488355328 then (exequaturref01_Quote.l0 k x0 (x3 ++ [bt x0 x4]) (wrap64 (x4 + 1))) else (none)) else (if 0 ≤ ((Int.tdiv (bt x0 x4) 16) % 256) then (if ((Int.tdiv (bt x0 x4) 16) % 256) < 16 then (if 0 ≤ (Int.tmod (bt x0 x4) 16) then (if (Int.tmod (bt x0 x4) 16) < 16 then ((some (([37, bt (⟨#[48, 49, 50, 51, 52, 53, 54, 55, 56, 57, 65, 66, 67, 68, 69, 70]⟩ : ByteArray) ((Int.tdiv (bt x0 x4) 16) % 256), bt (⟨#[48, 49, 50, 51, 52, 53, 54, 55, 56, 57, 65, 66, 67, 68, 69, 70]⟩ : ByteArray) (Int.tmod (bt x0 x4) 16)] : List Int) : List Int)).bind fun y221 => (if x3.length + y221.length < 140737488355328 then (exequaturref01_Quote.l0 k x0 (x3 ++ y221) (wrap64 (x4 + 1))) else (none))) else (none)) else (none)) else (none)) else (none)))) else (none)) else (some (strOfNums x3))
def exequaturref01_Quote.f (k : Nat) (a0 : ByteArray) : Option (ByteArray) := exequaturref01_Quote.l0 k a0 ([] : List Int) 0
theorem exequaturref01_Quote.mono_l : ∀ k, (∀ y0 y1 y2, LeO (exequaturref01_Quote.l0 k y0 y1 y2) (exequaturref01_Quote.l0 (k + 1) y0 y1 y2))
  | 0 => fun _ _ _ r h => by simp [exequaturref01_Quote.l0] at h
  | k + 1 => by
    have ih0 := exequaturref01_Quote.mono_l k
    · intro y0 y1 y2
      unfold exequaturref01_Quote.l0
      repeat' first
      | (with_reducible exact ih0 _ _ _)
      | (with_reducible exact LeO.refl _)
      | (with_reducible exact LeO.none _)
      | (with_reducible refine LeO.ite ?_ ?_)
      | (with_reducible refine LeO.bind ?_ (fun _ => ?_))
      | exact ih0 _ _ _
      | exact LeO.none _
      | refine LeO.ite ?_ ?_
      | refine LeO.bind ?_ (fun _ => ?_)
theorem exequaturref01_Quote.mono : ∀ a0 k, LeO (exequaturref01_Quote.f k a0) (exequaturref01_Quote.f (k + 1) a0) := by
  intro a0 k
  have ih0 := exequaturref01_Quote.mono_l k
  unfold exequaturref01_Quote.f
  repeat' first
      | (with_reducible exact ih0 _ _ _)
      | (with_reducible exact LeO.refl _)
      | (with_reducible exact LeO.none _)
      | (with_reducible refine LeO.ite ?_ ?_)
      | (with_reducible refine LeO.bind ?_ (fun _ => ?_))
      | exact ih0 _ _ _
      | exact LeO.none _
      | refine LeO.ite ?_ ?_
      | refine LeO.bind ?_ (fun _ => ?_)
def exequaturref01_Quote.T7 : Bool × List (List Nat × List Nat) := (true, [([], []), ([], []), ([], []), ([1, 2], [1, 2]), ([3], [3]), ([4], [4]), ([], []), ([], []), ([6, 7], [6, 7]), ([8], [8]), ([9], [9]), ([5, 10], [5, 10]), ([0, 11], [0, 11]), ([12, 12, 0, 1, 2, 3, 4, 5, 6, 7, 8, 9, 10, 11, 12], [0, 12])])
def exequaturref01_Quote.B7 : List Nat := [0, 0, 0, 6, 14, 30, 0, 0, 192, 448, 960, 2046, 4095, 8191]
theorem exequaturref01_Quote.tab7 : rtab .any (opsOf Tryd.f27 7) = exequaturref01_Quote.T7 := by kernel_rfl
theorem exequaturref01_Quote.bits7 : waitsOk exequaturref01_Quote.T7.2 exequaturref01_Quote.B7 = true := by kernel_rfl
set_option maxHeartbeats 8000000 in
set_option maxRecDepth 100000 in
theorem exequaturref01_Quote.calls (k : Nat) (a0 : ByteArray) (r : ByteArray) (w : World) (h : exequaturref01_Quote.f k a0 = some r) :
  Calls Tryd.prog 27 #[.string a0] w fun e w' => e = .returned (.string r) ∧ Below w.heap.size w w' := by
 have HB := Aside0.mk (Below.refl w.heap.size w)
 have H : (exequaturref01_Quote.l0 k a0 ([] : List Int) 0) = some r := h
 clear h
 have H' := Aside0.mk H
 clear H
 go_enter Tryd.func27, Tryd.ntmps27
 go_wp2
 go_loopg [3, 4] k (fun kq v3 v4 w' => ∃ (x3_1 : List Int) (x4_1 : Int), v4 = .int .i64 x4_1 ∧ Aside0 (exequaturref01_Quote.l0 kq a0 x3_1 x4_1 = some r) ∧ Aside0 (kq ≤ k) ∧ Aside0 (Kd.R (Kd.int .u8) 5 w' w.heap.size (fun _ => True) v3 x3_1) ∧ Aside0 (Below w.heap.size w w'))
 case atStart => exact ⟨(([] : List Int)), (0), (by first | rfl | (simp; done) | (simp [*]; done) | (refine congrArg Value.bool ?_; rw [Bool.eq_iff_iff]; simp; done)), H', ⟨Nat.le_refl _⟩, ⟨by first | exact Kd.R_nil _ _ _ _ _ | exact Kd.N_nil _ _ _ _ _ | exact Kd.V_nil _ _ _ _ _ | exact Kd.Q_nil _ _ _ _ _ | exact Kd.S_nil _ _ _ _ _⟩, ⟨by repeat (first | (with_reducible first | exact HB.out | apply below_alloc | apply pw_below_drewN | apply below_drew1) | exact HB.out)⟩⟩
 case round =>
  clear H'
  obtain ⟨x3_1, x4_1, rfl, HA, HK1, HO_3, HB⟩ := hrel
  cases gk with
  | zero => exact absurd HA.out (by simp [exequaturref01_Quote.l0])
  | succ k1 =>
   have H := HA.out
   clear HA
   simp only [exequaturref01_Quote.l0] at H
   by_cases c2 : x4_1 < (a0.size : Int)
   ·rw [if_pos c2] at H
    have c2b0 : decide (x4_1 < (a0.size : Int)) = true := decide_eq_true c2
    clear c2
    by_cases c3 : 0 ≤ x4_1
    rotate_left
    ·rw [if_neg c3] at H; exact absurd H (by simp)
    rw [if_pos c3] at H
    have c3b0 : decide (0 ≤ x4_1) = true := decide_eq_true c3
    clear c3
    replace H := Option.bind_eq_some_iff.mp H
    obtain ⟨t217, A50, H⟩ := H
    replace H : (if t217 = true then (if x3_1.length < 140737488355328 then (exequaturref01_Quote.l0 k1 a0 (x3_1 ++ [bt a0 x4_1]) (wrap64 (x4_1 + 1))) else (none)) else (if 0 ≤ ((Int.tdiv (bt a0 x4_1) 16) % 256) then (if ((Int.tdiv (bt a0 x4_1) 16) % 256) < 16 then (if 0 ≤ (Int.tmod (bt a0 x4_1) 16) then (if (Int.tmod (bt a0 x4_1) 16) < 16 then ((some (([37, bt (⟨#[48, 49, 50, 51, 52, 53, 54, 55, 56, 57, 65, 66, 67, 68, 69, 70]⟩ : ByteArray) ((Int.tdiv (bt a0 x4_1) 16) % 256), bt (⟨#[48, 49, 50, 51, 52, 53, 54, 55, 56, 57, 65, 66, 67, 68, 69, 70]⟩ : ByteArray) (Int.tmod (bt a0 x4_1) 16)] : List Int) : List Int)).bind fun y221 => (if x3_1.length + y221.length < 140737488355328 then (exequaturref01_Quote.l0 k1 a0 (x3_1 ++ y221) (wrap64 (x4_1 + 1))) else (none))) else (none)) else (none)) else (none)) else (none))) = some r := H
    have A5 := Aside0.mk A50
    clear A50
    by_cases c6 : t217 = true
    ·subst c6
     have H1 : (if x3_1.length < 140737488355328 then (exequaturref01_Quote.l0 k1 a0 (x3_1 ++ [bt a0 x4_1]) (wrap64 (x4_1 + 1))) else (none)) = some r := by rw [if_pos rfl] at H; exact H
     clear H
     have H := H1
     clear H1
     by_cases c8 : x3_1.length < 140737488355328
     rotate_left
     ·rw [if_neg c8] at H; exact absurd H (by simp)
     rw [if_pos c8] at H
     have LMc8 := Aside0.mk c8
     clear c8
     obtain ⟨y218, hy218⟩ : ∃ y_ : List Int, y_ = (x3_1 ++ [bt a0 x4_1]) := ⟨_, rfl⟩
     replace H : (exequaturref01_Quote.l0 k1 a0 y218 (wrap64 (x4_1 + 1))) = some r := by first | (rw [hy218]; with_reducible exact H) | (have H2_ := (Option.bind_some _ _).symm.trans H; rw [hy218]; with_reducible exact H2_) | (have H2_ := (Option.bind_some _ _).symm.trans H; with_reducible exact H2_) | with_reducible exact H | (rw [hy218]; exact H) | exact H
     have Ny218 := Aside0.mk hy218
     clear hy218
     have H' := Aside0.mk H
     clear H
     have p4 : 0 ≤ (x4_1 : Int) := of_decide_eq_true (by first | (with_reducible assumption) | assumption)
     have q4 : x4_1 < (a0.size : Int) := of_decide_eq_true (by first | (with_reducible assumption) | assumption)
     have hx4 := bt_at a0 x4_1
     replace p4 := eq_true p4
     replace q4 := eq_true q4
     go_wp2_with (first | ((with_reducible refine gate_callee (f := 44) rfl ?_); refine goesL_ (some 14) rfl rfl Tryd.func44 (by kernel_rfl) rfl #[.int .u8 (bt a0 x4_1)] rfl (by (try simp only [List.map_toArray, List.map_cons, List.map_nil]); first | done | rfl | (simp only [List.length_drop, List.length_take]; rfl)) ?_; (with_reducible refine (exequaturref01_plain.calls (bt a0 x4_1) true _ A5.out).mono ?_); rintro e w' ⟨rfl, ⟨nd, rfl⟩⟩; refine ⟨_, rfl, ?_⟩; have p7 : 0 ≤ (x4_1 : Int) := of_decide_eq_true (by first | (with_reducible assumption) | assumption); have q7 : x4_1 < (a0.size : Int) := of_decide_eq_true (by first | (with_reducible assumption) | assumption); have hx7 := bt_at a0 x4_1; replace p7 := eq_true p7; replace q7 := eq_true q7) | ((with_reducible refine gate_builtin (b := .append) (xs := #[.tmp 15, .tmp 19]) rfl ?_); at_builtin; refine Kd.R_append (Kd.int .u8) (w0 := w) w.heap.size rfl (.tmp 15) (.tmp 19) 61 5 (.int .u8 0) 1 rfl Tryd.underlying61 info5 rfl (by decide) (by omega) u3 x3_1 (bt a0 x4_1) [.int .u8 (bt a0 x4_1)] (fun _ => True) (fun _ => False) rfl rfl ?aP (fun _ hk => hk.elim) ?aF ?aO ?aB ?aS ?aL ?_; (case aP => exact rfl); (case aB => exact (by repeat (first | (with_reducible first | exact HB.out | apply below_alloc | apply pw_below_drewN | apply below_drew1) | exact HB.out))); (case aF => exact (fun _ _ => trivial)); (case aO => exact (by (with_reducible repeat (first | apply Kd.R_alloc | apply Kd.R_drewN | apply Kd.R_drew)); exact HO_3.out)); (case aS => exact (below_size (by repeat (first | (with_reducible first | exact HB.out | apply below_alloc | apply pw_below_drewN | apply below_drew1) | exact HB.out)))); (case aL => have := LMc8.out; omega); intro v219 w9 ho hb hg hat; rw [← Ny218.out] at ho; have n0_ := Aside0.mk (hb); have n1_ := Aside0.mk (ho); clear HB; clear HO_3; have HB := n0_; have HO220 := n1_; clear n0_ n1_; clear ho hb hg hat))
     go_roundg k1
     case measure => have := HK1.out; omega
     case rel => exact ⟨(y218), (wrap64 (x4_1 + 1)), (by first | rfl | (simp; done) | (simp [*]; done) | (refine congrArg Value.bool ?_; rw [Bool.eq_iff_iff]; simp; done)), H', ⟨by have := HK1.out; omega⟩, ⟨by (with_reducible repeat (first | apply Kd.R_alloc | apply Kd.R_drewN | apply Kd.R_drew)); exact HO220.out⟩, ⟨by repeat (first | (with_reducible first | exact HB.out | apply below_alloc | apply pw_below_drewN | apply below_drew1) | exact HB.out)⟩⟩
    ·replace c6 := Bool.eq_false_iff.mpr c6
     subst c6
     have H1 : (if 0 ≤ ((Int.tdiv (bt a0 x4_1) 16) % 256) then (if ((Int.tdiv (bt a0 x4_1) 16) % 256) < 16 then (if 0 ≤ (Int.tmod (bt a0 x4_1) 16) then (if (Int.tmod (bt a0 x4_1) 16) < 16 then ((some (([37, bt (⟨#[48, 49, 50, 51, 52, 53, 54, 55, 56, 57, 65, 66, 67, 68, 69, 70]⟩ : ByteArray) ((Int.tdiv (bt a0 x4_1) 16) % 256), bt (⟨#[48, 49, 50, 51, 52, 53, 54, 55, 56, 57, 65, 66, 67, 68, 69, 70]⟩ : ByteArray) (Int.tmod (bt a0 x4_1) 16)] : List Int) : List Int)).bind fun y221 => (if x3_1.length + y221.length < 140737488355328 then (exequaturref01_Quote.l0 k1 a0 (x3_1 ++ y221) (wrap64 (x4_1 + 1))) else (none))) else (none)) else (none)) else (none)) else (none)) = some r := by rw [if_neg (show ¬ (false = true) by decide)] at H; exact H
     clear H
     have H := H1
     clear H1
     obtain ⟨ji11, hji11⟩ : ∃ j_ : Int, ((Int.tdiv (bt a0 x4_1) 16) % 256) = j_ := ⟨_, rfl⟩
     replace H : (if 0 ≤ (ji11) then (if (ji11) < 16 then (if 0 ≤ (Int.tmod (bt a0 x4_1) 16) then (if (Int.tmod (bt a0 x4_1) 16) < 16 then ((some (([37, bt (⟨#[48, 49, 50, 51, 52, 53, 54, 55, 56, 57, 65, 66, 67, 68, 69, 70]⟩ : ByteArray) (ji11), bt (⟨#[48, 49, 50, 51, 52, 53, 54, 55, 56, 57, 65, 66, 67, 68, 69, 70]⟩ : ByteArray) (Int.tmod (bt a0 x4_1) 16)] : List Int) : List Int)).bind fun y221 => (if x3_1.length + y221.length < 140737488355328 then (exequaturref01_Quote.l0 k1 a0 (x3_1 ++ y221) (wrap64 (x4_1 + 1))) else (none))) else (none)) else (none)) else (none)) else (none)) = some r := by first | (rw [hji11] at H; exact H) | (simp only [hji11] at H ⊢; exact H)
     (try rw [hji11] at A5)
     try have hji11w : (IntKind.u8.wrap (Int.tdiv (bt a0 x4_1) 16)) = ji11 := (IntKind.wrap_u8 _).trans hji11
     by_cases c12 : 0 ≤ (ji11)
     rotate_left
     ·rw [if_neg c12] at H; exact absurd H (by simp)
     rw [if_pos c12] at H
     have c12b0 : decide (0 ≤ (ji11)) = true := decide_eq_true c12
     clear c12
     by_cases c13 : (ji11) < 16
     rotate_left
     ·rw [if_neg c13] at H; exact absurd H (by simp)
     rw [if_pos c13] at H
     have c13b0 : decide ((ji11) < 16) = true := decide_eq_true c13
     clear c13
     obtain ⟨ji16, hji16⟩ : ∃ j_ : Int, (Int.tmod (bt a0 x4_1) 16) = j_ := ⟨_, rfl⟩
     replace H : (if 0 ≤ (ji16) then (if (ji16) < 16 then ((some (([37, bt (⟨#[48, 49, 50, 51, 52, 53, 54, 55, 56, 57, 65, 66, 67, 68, 69, 70]⟩ : ByteArray) (ji11), bt (⟨#[48, 49, 50, 51, 52, 53, 54, 55, 56, 57, 65, 66, 67, 68, 69, 70]⟩ : ByteArray) (ji16)] : List Int) : List Int)).bind fun y221 => (if x3_1.length + y221.length < 140737488355328 then (exequaturref01_Quote.l0 k1 a0 (x3_1 ++ y221) (wrap64 (x4_1 + 1))) else (none))) else (none)) else (none)) = some r := by first | (rw [hji16] at H; exact H) | (simp only [hji16] at H ⊢; exact H)
     (try rw [hji16] at A5)
     by_cases c17 : 0 ≤ (ji16)
     rotate_left
     ·rw [if_neg c17] at H; exact absurd H (by simp)
     rw [if_pos c17] at H
     have c17b0 : decide (0 ≤ (ji16)) = true := decide_eq_true c17
     clear c17
     by_cases c18 : (ji16) < 16
     rotate_left
     ·rw [if_neg c18] at H; exact absurd H (by simp)
     rw [if_pos c18] at H
     have c18b0 : decide ((ji16) < 16) = true := decide_eq_true c18
     clear c18
     obtain ⟨y221, hy221⟩ : ∃ y_ : List Int, y_ = (([37, bt (⟨#[48, 49, 50, 51, 52, 53, 54, 55, 56, 57, 65, 66, 67, 68, 69, 70]⟩ : ByteArray) (ji11), bt (⟨#[48, 49, 50, 51, 52, 53, 54, 55, 56, 57, 65, 66, 67, 68, 69, 70]⟩ : ByteArray) (ji16)] : List Int)) := ⟨_, rfl⟩
     replace H : (if x3_1.length + y221.length < 140737488355328 then (exequaturref01_Quote.l0 k1 a0 (x3_1 ++ y221) (wrap64 (x4_1 + 1))) else (none)) = some r := by first | (rw [hy221]; with_reducible exact H) | (have H2_ := (Option.bind_some _ _).symm.trans H; rw [hy221]; with_reducible exact H2_) | (have H2_ := (Option.bind_some _ _).symm.trans H; with_reducible exact H2_) | with_reducible exact H | (rw [hy221]; exact H) | exact H
     have Ny221 := Aside0.mk hy221
     clear hy221
     by_cases c20 : x3_1.length + y221.length < 140737488355328
     rotate_left
     ·rw [if_neg c20] at H; exact absurd H (by simp)
     rw [if_pos c20] at H
     have LMc20 := Aside0.mk c20
     clear c20
     obtain ⟨y224, hy224⟩ : ∃ y_ : List Int, y_ = (x3_1 ++ y221) := ⟨_, rfl⟩
     replace H : (exequaturref01_Quote.l0 k1 a0 y224 (wrap64 (x4_1 + 1))) = some r := by first | (rw [hy224]; with_reducible exact H) | (have H2_ := (Option.bind_some _ _).symm.trans H; rw [hy224]; with_reducible exact H2_) | (have H2_ := (Option.bind_some _ _).symm.trans H; with_reducible exact H2_) | with_reducible exact H | (rw [hy224]; exact H) | exact H
     have Ny224 := Aside0.mk hy224
     clear hy224
     have H' := Aside0.mk H
     clear H
     have p4 : 0 ≤ (x4_1 : Int) := of_decide_eq_true (by first | (with_reducible assumption) | assumption)
     have q4 : x4_1 < (a0.size : Int) := of_decide_eq_true (by first | (with_reducible assumption) | assumption)
     have hx4 := bt_at a0 x4_1
     replace p4 := eq_true p4
     replace q4 := eq_true q4
     try go_wp2_with (first | ((with_reducible refine gate_callee (f := 44) rfl ?_); refine goesL_ (some 14) rfl rfl Tryd.func44 (by kernel_rfl) rfl #[.int .u8 (bt a0 x4_1)] rfl (by (try simp only [List.map_toArray, List.map_cons, List.map_nil]); first | done | rfl | (simp only [List.length_drop, List.length_take]; rfl)) ?_; (with_reducible refine (exequaturref01_plain.calls (bt a0 x4_1) false _ A5.out).mono ?_); rintro e w' ⟨rfl, ⟨nd, rfl⟩⟩; refine ⟨_, rfl, ?_⟩))
     (try (rw [drewN_self wr]; generalize hq_ : World.drewN wr _ = wr; have n0_ : Aside0 (Kd.R (Kd.int .u8) 5 wr w.heap.size (fun _ => True) u3 x3_1) := ⟨by rw [← hq_]; exact (by (with_reducible repeat (first | apply Kd.R_alloc | apply Kd.R_drewN | apply Kd.R_drew)); exact HO_3.out)⟩; have n1_ : Aside0 (Below w.heap.size w wr) := ⟨by rw [← hq_]; exact (by repeat (first | (with_reducible first | exact HB.out | apply below_alloc | apply pw_below_drewN | apply below_drew1) | exact HB.out))⟩; clear HO_3 HB hq_; have HO_3 := n0_; have HB := n1_; clear n0_ n1_))
     have n0_ := Aside0.mk (Kd.R_drew HO_3.out)
     have n1_ := Aside0.mk (below_drew1 HB.out)
     clear HO_3; clear HB
     have HO_3 := n0_
     have HB := n1_
     clear n0_ n1_
     have p10 : 0 ≤ (x4_1 : Int) := of_decide_eq_true (by first | (with_reducible assumption) | assumption)
     have q10 : x4_1 < (a0.size : Int) := of_decide_eq_true (by first | (with_reducible assumption) | assumption)
     have hx10 := bt_at a0 x4_1
     replace p10 := eq_true p10
     replace q10 := eq_true q10
     have p14 : 0 ≤ ((ji11) : Int) := of_decide_eq_true (by first | (with_reducible assumption) | assumption)
     have q14 : (ji11) < (16 : Int) := of_decide_eq_true (by first | (with_reducible assumption) | assumption)
     have hx14 := bt_at (⟨#[48, 49, 50, 51, 52, 53, 54, 55, 56, 57, 65, 66, 67, 68, 69, 70]⟩ : ByteArray) (ji11)
     replace p14 := eq_true p14
     replace q14 := eq_true q14
     have p15 : 0 ≤ (x4_1 : Int) := of_decide_eq_true (by first | (with_reducible assumption) | assumption)
     have q15 : x4_1 < (a0.size : Int) := of_decide_eq_true (by first | (with_reducible assumption) | assumption)
     have hx15 := bt_at a0 x4_1
     replace p15 := eq_true p15
     replace q15 := eq_true q15
     have p19 : 0 ≤ ((ji16) : Int) := of_decide_eq_true (by first | (with_reducible assumption) | assumption)
     have q19 : (ji16) < (16 : Int) := of_decide_eq_true (by first | (with_reducible assumption) | assumption)
     have hx19 := bt_at (⟨#[48, 49, 50, 51, 52, 53, 54, 55, 56, 57, 65, 66, 67, 68, 69, 70]⟩ : ByteArray) (ji16)
     replace p19 := eq_true p19
     replace q19 := eq_true q19
     refine start_ (n := 14) (S := fun w' => True) (ds := []) #[false, false, false, false, false, false, false, false, false, false, false, false, false, false] (by kernel_rfl) rfl rfl trivial (fun hHeld => ?_); refine with_tabW exequaturref01_Quote.tab7 exequaturref01_Quote.bits7 (fun HT_ HW_ => ?_)
     generalize wr.drew = w21 at HO_3 HB hHeld ⊢
     refine pure_ (i := 0) (N := some 21) (v := ?_) (a' := ?_) #[true, false, false, false, false, false, false, false, false, false, false, false, false, false] rfl rfl (any_of HT_.out (by kernel_rfl)) (fun _ _ _ h => h) (Or.inl ⟨by rfl, ?_⟩) ?_ ?_
     rotate_left
     ·intro w'
      go_simp
      with_reducible rfl
     rotate_left
     ·simp only [Act.put, List.setIfInBounds_toArray, List.set_cons_zero, List.set_cons_succ, i64_w, i32_w]
      rfl
     refine pure_ (i := 1) (N := some 22) (v := ?_) (a' := ?_) #[true, true, false, false, false, false, false, false, false, false, false, false, false, false] rfl rfl (any_of HT_.out (by kernel_rfl)) (fun _ _ _ h => h) (Or.inl ⟨by rfl, ?_⟩) ?_ ?_
     rotate_left
     ·intro w'
      go_simp
      with_reducible rfl
     rotate_left
     ·simp only [Act.put, List.setIfInBounds_toArray, List.set_cons_zero, List.set_cons_succ, i64_w, i32_w]
      rfl
     refine pure_ (i := 2) (N := some 23) (v := ?_) (a' := ?_) #[true, true, true, false, false, false, false, false, false, false, false, false, false, false] rfl rfl (any_of HT_.out (by kernel_rfl)) (fun _ _ _ h => h) (Or.inl ⟨by rfl, ?_⟩) ?_ ?_
     rotate_left
     ·intro w'
      go_simp
      with_reducible rfl
     rotate_left
     ·simp only [Act.put, List.setIfInBounds_toArray, List.set_cons_zero, List.set_cons_succ, i64_w, i32_w]
      rfl
     refine pure_ (i := 6) (N := some 27) (v := ?_) (a' := ?_) #[true, true, true, false, false, false, true, false, false, false, false, false, false, false] rfl rfl (any_of HT_.out (by kernel_rfl)) (fun _ _ _ h => h) (Or.inl ⟨by rfl, ?_⟩) ?_ ?_
     rotate_left
     ·intro w'
      go_simp
      with_reducible rfl
     rotate_left
     ·simp only [Act.put, List.setIfInBounds_toArray, List.set_cons_zero, List.set_cons_succ, i64_w, i32_w]
      rfl
     refine pure_ (i := 7) (N := some 28) (v := ?_) (a' := ?_) #[true, true, true, false, false, false, true, true, false, false, false, false, false, false] rfl rfl (any_of HT_.out (by kernel_rfl)) (fun _ _ _ h => h) (Or.inl ⟨by rfl, ?_⟩) ?_ ?_
     rotate_left
     ·intro w'
      go_simp
      with_reducible rfl
     rotate_left
     ·simp only [Act.put, List.setIfInBounds_toArray, List.set_cons_zero, List.set_cons_succ, i64_w, i32_w]
      rfl
     refine take_ (i := 3) (N := some 24) (v := ?_) (a' := ?_) #[true, true, true, true, false, false, true, true, false, false, false, false, false, false] rfl rfl (take_ofW HT_.out HW_.out (by kernel_rfl)) (fun _ _ _ h => h) (Or.inl ⟨by rfl, ?_⟩) hHeld ?_ ?_
     rotate_left
     ·intro w' _
      go_simp
      with_reducible rfl
     rotate_left
     ·simp only [Act.put, List.setIfInBounds_toArray, List.set_cons_zero, List.set_cons_succ, i64_w, i32_w]
      rfl
     refine pure_ (i := 4) (N := some 25) (v := ?_) (a' := ?_) #[true, true, true, true, true, false, true, true, false, false, false, false, false, false] rfl rfl (any_of HT_.out (by kernel_rfl)) (fun _ _ _ h => h) (Or.inl ⟨by rfl, ?_⟩) ?_ ?_
     rotate_left
     ·intro w'
      go_simp
      with_reducible rfl
     rotate_left
     ·simp only [Act.put, List.setIfInBounds_toArray, List.set_cons_zero, List.set_cons_succ, i64_w, i32_w]
      rfl
     refine take_ (i := 5) (N := some 26) (v := ?_) (a' := ?_) #[true, true, true, true, true, true, true, true, false, false, false, false, false, false] rfl rfl (take_ofW HT_.out HW_.out (by kernel_rfl)) (fun _ _ _ h => h) (Or.inl ⟨by rfl, ?_⟩) hHeld ?_ ?_
     rotate_left
     ·intro w' _
      go_simp
      with_reducible rfl
     rotate_left
     ·simp only [Act.put, List.setIfInBounds_toArray, List.set_cons_zero, List.set_cons_succ, i64_w, i32_w]
      rfl
     refine take_ (i := 8) (N := some 29) (v := ?_) (a' := ?_) #[true, true, true, true, true, true, true, true, true, false, false, false, false, false] rfl rfl (take_ofW HT_.out HW_.out (by kernel_rfl)) (fun _ _ _ h => h) (Or.inl ⟨by rfl, ?_⟩) hHeld ?_ ?_
     rotate_left
     ·intro w' _
      go_simp
      with_reducible rfl
     rotate_left
     ·simp only [Act.put, List.setIfInBounds_toArray, List.set_cons_zero, List.set_cons_succ, i64_w, i32_w]
      rfl
     refine pure_ (i := 9) (N := some 30) (v := ?_) (a' := ?_) #[true, true, true, true, true, true, true, true, true, true, false, false, false, false] rfl rfl (any_of HT_.out (by kernel_rfl)) (fun _ _ _ h => h) (Or.inl ⟨by rfl, ?_⟩) ?_ ?_
     rotate_left
     ·intro w'
      go_simp
      with_reducible rfl
     rotate_left
     ·simp only [Act.put, List.setIfInBounds_toArray, List.set_cons_zero, List.set_cons_succ, i64_w, i32_w]
      rfl
     refine take_ (i := 10) (N := some 31) (v := ?_) (a' := ?_) #[true, true, true, true, true, true, true, true, true, true, true, false, false, false] rfl rfl (take_ofW HT_.out HW_.out (by kernel_rfl)) (fun _ _ _ h => h) (Or.inl ⟨by rfl, ?_⟩) hHeld ?_ ?_
     rotate_left
     ·intro w' _
      go_simp
      with_reducible rfl
     rotate_left
     ·simp only [Act.put, List.setIfInBounds_toArray, List.set_cons_zero, List.set_cons_succ, i64_w, i32_w]
      rfl
     refine one_ (i := 11) (N := some 32) #[true, true, true, true, true, true, true, true, true, true, true, true, false, false] rfl rfl (one_of HT_.out (by kernel_rfl)) (by decide) (fun K hK => ?_)
     refine Kd.R_lit_step (Kd.int .u8) _ 5 ?hg (N := 32) ?hd (xs := ([37, bt (⟨#[48, 49, 50, 51, 52, 53, 54, 55, 56, 57, 65, 66, 67, 68, 69, 70]⟩ : ByteArray) (ji11), bt (⟨#[48, 49, 50, 51, 52, 53, 54, 55, 56, 57, 65, 66, 67, 68, 69, 70]⟩ : ByteArray) (ji16)] : List Int)) (inner := [.int .u8 37, .int .u8 (bt (⟨#[48, 49, 50, 51, 52, 53, 54, 55, 56, 57, 65, 66, 67, 68, 69, 70]⟩ : ByteArray) (ji11)), .int .u8 (bt (⟨#[48, 49, 50, 51, 52, 53, 54, 55, 56, 57, 65, 66, 67, 68, 69, 70]⟩ : ByteArray) (ji16))]) (ok := fun _ => True) (okp := fun _ => True) ?hr ?hp (fun _ hk => hk) trivial (Below.refl _ _) (Nat.le_refl _) (by simp) ?_; (case hd => rfl); (case hg => rfl); (case hr => first | (go_simp; done) | (go_simp; rfl)); (case hp => exact (Reps.one (show Kd.M (Kd.int .u8) _ _ _ 37 [.int .u8 37] from rfl) (Reps.one (show Kd.M (Kd.int .u8) _ _ _ (bt (⟨#[48, 49, 50, 51, 52, 53, 54, 55, 56, 57, 65, 66, 67, 68, 69, 70]⟩ : ByteArray) (ji11)) [.int .u8 (bt (⟨#[48, 49, 50, 51, 52, 53, 54, 55, 56, 57, 65, 66, 67, 68, 69, 70]⟩ : ByteArray) (ji11))] from rfl) (Reps.one (show Kd.M (Kd.int .u8) _ _ _ (bt (⟨#[48, 49, 50, 51, 52, 53, 54, 55, 56, 57, 65, 66, 67, 68, 69, 70]⟩ : ByteArray) (ji16)) [.int .u8 (bt (⟨#[48, 49, 50, 51, 52, 53, 54, 55, 56, 57, 65, 66, 67, 68, 69, 70]⟩ : ByteArray) (ji16))] from rfl) (Reps.none _ _)))))
     intro v222 w22 ho23 hb hg_ hnew_
     clear hg_ hnew_
     (first | rw [← Ny221.out] at ho23 | (simp only [Int.reduceToNat] at ho23; rw [← Ny221.out] at ho23))
     have n0_ := Aside0.mk (Kd.R_elder' (by (with_reducible repeat (first | apply Kd.R_alloc | apply Kd.R_drewN | apply Kd.R_drew)); exact HO_3.out) (Kd.R_base ho23) hb)
     have n1_ := Aside0.mk (Kd.R_lower (Kd.R_new' ho23 (Kd.R_lt (by (with_reducible repeat (first | apply Kd.R_alloc | apply Kd.R_drewN | apply Kd.R_drew)); exact HO_3.out))) (below_size (by repeat (first | (with_reducible first | exact HB.out | apply below_alloc | apply pw_below_drewN | apply below_drew1) | exact HB.out))))
     have n2_ := Aside0.mk (below_step (by repeat (first | (with_reducible first | exact HB.out | apply below_alloc | apply pw_below_drewN | apply below_drew1) | exact HB.out)) hb)
     clear HO_3; clear HB
     have HO_3 := n0_
     have HO223 := n1_
     have HB := n2_
     clear n0_ n1_ n2_; clear hb ho23
     obtain ⟨Ao25, co25, eo25⟩ := Kd.R_slice HO223.out
     (first | subst eo25 | (injection eo25 with f1_ f2_ f3_; have f4_ := f1_.symm; have f5_ := f3_.symm; clear f1_ f2_ f3_; subst f4_; subst f5_))
     refine hK.out _ _ trivial (fun hHeld => ?_)
     clear hK K
     refine norm_ (a' := ?_) ?_ ?_
     rotate_left
     ·show Act.put _ (some 32) _ = _
      simp only [Act.put, List.setIfInBounds_toArray, List.set_cons_zero, List.set_cons_succ, i64_w, i32_w]
      rfl
     refine one_ (i := 12) (N := some 33) #[true, true, true, true, true, true, true, true, true, true, true, true, true, false] rfl rfl (one_of HT_.out (by kernel_rfl)) (by decide) (fun K hK => ?_)
     refine Kd.R_append_rows_step (Kd.int .u8) (w0 := w) w.heap.size (by rfl) (.tmp 21) (.tmp 32) 61 5 (.int .u8 0) 1 rfl Tryd.underlying61 info5 rfl (by decide) (by omega) u3 x3_1 y221 _ _ _ (fun k_ => some k_ ≠ (.slice Ao25 y221.length co25 : Value).ownBlock) (fun _ => False) rfl rfl ?aO ?aR (fun _ _ h => h) (fun _ h => h.elim) ?aF ?aB ?aS ?aL ?_
     (case aR => repeat (first | exact (Kd.R_reads' HO223.out).2.2 | (with_reducible refine Kd.C_alloc ?_ _) | (with_reducible refine Kd.C_drewN ?_ _) | (with_reducible refine Kd.C_drew ?_)))
     (case aB => exact (by repeat (first | (with_reducible first | exact HB.out | apply below_alloc | apply pw_below_drewN | apply below_drew1) | exact HB.out)))
     (case aF => exact (fun k_ hk => Kd.fresh' (Kd.R_lt (by (with_reducible repeat (first | apply Kd.R_alloc | apply Kd.R_drewN | apply Kd.R_drew)); exact HO223.out)) k_ hk))
     (case aO => exact (by (with_reducible repeat (first | apply Kd.R_alloc | apply Kd.R_drewN | apply Kd.R_drew)); exact Kd.R_mono HO_3.out (fun _ hk => hk.2)))
     (case aS => exact (below_size (by repeat (first | (with_reducible first | exact HB.out | apply below_alloc | apply pw_below_drewN | apply below_drew1) | exact HB.out))))
     (case aL => have := LMc20.out; omega)
     intro v225 w24 ho hb hg hat
     rw [← Ny224.out] at ho
     have n0_ := Aside0.mk (Kd.R_after (ok := (fun _ => True)) (by (with_reducible repeat (first | apply Kd.R_alloc | apply Kd.R_drewN | apply Kd.R_drew)); exact HO223.out) hg hat)
     have n1_ := Aside0.mk (hb)
     have n2_ := Aside0.mk (ho)
     clear HO223; clear HB; clear HO_3
     have HO223 := n0_
     have HB := n1_
     have HO226 := n2_
     clear n0_ n1_ n2_; clear ho hb hg hat
     refine hK.out _ _ trivial (fun hHeld => ?_)
     clear hK K
     refine norm_ (a' := ?_) ?_ ?_
     rotate_left
     ·show Act.put _ (some 33) _ = _
      simp only [Act.put, List.setIfInBounds_toArray, List.set_cons_zero, List.set_cons_succ, i64_w, i32_w]
      rfl
     refine pure_ (i := 13) (N := some 3) (v := ?_) (a' := ?_) #[true, true, true, true, true, true, true, true, true, true, true, true, true, true] rfl rfl (any_of HT_.out (by kernel_rfl)) (fun _ _ _ h => h) (Or.inl ⟨by rfl, ?_⟩) ?_ ?_
     rotate_left
     ·intro w'
      go_simp
      with_reducible rfl
     rotate_left
     ·simp only [Act.put, List.setIfInBounds_toArray, List.set_cons_zero, List.set_cons_succ, i64_w, i32_w]
      rfl
     refine done_ (done_of HT_.out (by kernel_rfl)) ?_
     try go_wp2
     go_roundg k1
     case measure => have := HK1.out; omega
     case rel => exact ⟨(y224), (wrap64 (x4_1 + 1)), (by first | rfl | (simp; done) | (simp [*]; done) | (refine congrArg Value.bool ?_; rw [Bool.eq_iff_iff]; simp; done)), H', ⟨by have := HK1.out; omega⟩, ⟨by (with_reducible repeat (first | apply Kd.R_alloc | apply Kd.R_drewN | apply Kd.R_drew)); exact Kd.R_mono HO226.out (fun _ hk => trivial)⟩, ⟨by repeat (first | (with_reducible first | exact HB.out | apply below_alloc | apply pw_below_drewN | apply below_drew1) | exact HB.out)⟩⟩
   ·rw [if_neg c2] at H
    have c2b0 : decide (x4_1 < (a0.size : Int)) = false := decide_eq_false c2
    clear c2
    obtain rfl := Option.some.inj H
    have hcv26 := own_string (P := Tryd.prog) Tryd.underlying61 Tryd.underlying5 Tryd.underlying9 (Kd.own_of_R HO_3.out)
    go_wp2
    go_ret
    first | (exact ⟨by first | rfl | (simp [errW_none, errW_some] <;> rfl) | (simp [*, errW_none, errW_some] <;> rfl), by repeat (first | (with_reducible first | exact HB.out | apply below_alloc | apply pw_below_drewN | apply below_drew1) | exact HB.out)⟩) | (focus (exfalso; simp_all; done))
    all_goals (first | (exfalso; simp_all <;> omega) | (go_ret; exact ⟨by first | rfl | (simp [errW_none, errW_some] <;> rfl) | (simp [*, errW_none, errW_some] <;> rfl), by repeat (first | (with_reducible first | exact HB.out | apply below_alloc | apply pw_below_drewN | apply below_drew1) | exact HB.out)⟩))

end Go.Proofs.YtmhaaggmfgojbaaDoor.X

/-! HRefQ -/
namespace Go.Proofs.YtmhaaggmfgojbaaDoor.X
open Go.RowKit Go.Proofs.YtmhaaggmfgojbaaDoorW.PrintWords Go.Proofs.YtmhaaggmfgojbaaDoor.Spec
set_option linter.unusedVariables false
set_option linter.unusedSimpArgs false

/-! Quote -/
theorem rplain_fin : ∀ n : Fin 256, exequaturref01_plain.f (n.val : Int) = some (plainc n.val.toUInt8) := by decide +kernel
theorem ref_plain (c : UInt8) : exequaturref01_plain.f (c.toNat : Int) = some (plainc c) := by
 have h := rplain_fin ⟨c.toNat, c.toNat_lt⟩
 simp only [back8] at h
 exact h
theorem rgreat_fin : ∀ n : Fin 16, bt (⟨#[48, 49, 50, 51, 52, 53, 54, 55, 56, 57, 65, 66, 67, 68, 69, 70]⟩ : ByteArray) (n.val : Int) = ((greatc n.val).toNat : Int) := by decide +kernel
theorem great_bt (n : Nat) (h : n < 16) : bt (⟨#[48, 49, 50, 51, 52, 53, 54, 55, 56, 57, 65, 66, 67, 68, 69, 70]⟩ : ByteArray) (n : Int) = ((greatc n).toNat : Int) := rgreat_fin ⟨n, h⟩
theorem quote_from (s : ByteArray) (hs : s.size ≤ 35184372088832) : ∀ n i (A : List UInt8), i + n = s.size → A.length ≤ 3 * i → Ev (fun k => exequaturref01_Quote.l0 k s (nb A) (i : Int)) (ba (A ++ quoteL ((bl s).drop i))) := by
 intro n
 induction n with
 | zero =>
  intro i A hi hA
  refine Ev.step (fun k => by rw [exequaturref01_Quote.l0]) ?_
  refine Ev.if_neg (by omega) ?_
  rw [List.drop_of_length_le (by rw [bl_length]; omega), str_nb]
  exact (Ev.some _).uni (by simp [quoteL])
 | succ n ih =>
  intro i A hi hA
  refine Ev.step (fun k => by rw [exequaturref01_Quote.l0]) ?_
  refine Ev.if_pos (by omega) (Ev.if_pos (by omega) ?_)
  have hlt : i < s.size := by omega
  have hb : i < (bl s).length := by rw [bl_length]; exact hlt
  obtain ⟨c, hc⟩ : ∃ c, (bl s)[i] = c := ⟨_, rfl⟩
  have hbt : bt s (i : Int) = (c.toNat : Int) := by rw [bt_get s i hlt, hc]
  have h256 := c.toNat_lt
  rw [hbt, List.drop_eq_getElem_cons hb, hc]
  have hq : quoteL (c :: (bl s).drop (i + 1)) = quote1 c ++ quoteL ((bl s).drop (i + 1)) := by simp [quoteL]
  rw [hq, ← List.append_assoc]
  refine Ev.bind (Ev.const (ref_plain c)) ?_
  rw [w64 (by omega) (by omega)]
  cases hpl : plainc c with
  | true =>
   refine Ev.if_pos rfl (Ev.if_pos (by rw [nb_length]; omega) ?_)
   have := ih (i + 1) (A ++ quote1 c) (by omega) (by simp [quote1, hpl]; omega)
   rw [nb_append] at this
   rw [show quote1 c = [c] from by simp [quote1, hpl]] at this ⊢
   exact this
  | false =>
   refine Ev.if_neg (by simp) ?_
   have e1 : (Int.tdiv (c.toNat : Int) 16) % 256 = ((c.toNat / 16 : Nat) : Int) := by
    rw [Int.tdiv_eq_ediv_of_nonneg (by omega)]; omega
   have e2 : Int.tmod (c.toNat : Int) 16 = ((c.toNat % 16 : Nat) : Int) := by
    rw [Int.tmod_eq_emod_of_nonneg (by omega)]; omega
   rw [e1, e2, great_bt _ (by omega), great_bt _ (by omega)]
   refine Ev.if_pos (by omega) (Ev.if_pos (by omega) (Ev.if_pos (by omega) (Ev.if_pos (by omega) ?_)))
   refine Ev.bind (Ev.some _) (Ev.if_pos (by rw [nb_length]; simp; omega) ?_)
   have hq1 : quote1 c = [37, greatc (c.toNat / 16), greatc (c.toNat % 16)] := by simp [quote1, hpl]
   have := ih (i + 1) (A ++ quote1 c) (by omega) (by rw [hq1]; simp; omega)
   rw [nb_append] at this
   rw [hq1] at this ⊢
   exact this
theorem ref_Quote (s : ByteArray) (hs : s.size ≤ 35184372088832) : Ev (fun k => exequaturref01_Quote.f k s) (ba (quoteL (bl s))) :=
 (quote_from s hs s.size 0 [] (by simp) (by simp)).uni (by simp)
end Go.Proofs.YtmhaaggmfgojbaaDoor.X

/-! X15 -/
-- Lean text made by xprint.py (ours) out of the seat's translation. Lean checks it.
namespace Go.Proofs.YtmhaaggmfgojbaaDoor.X
open Go.RowKit Go.Proofs.YtmhaaggmfgojbaaDoorW.PrintWords Go.Proofs.YtmhaaggmfgojbaaDoorW.PrintLast Go.Proofs.YtmhaaggmfgojbaaDoorW.PrintMore
attribute [local go_sem] max2_int min2_int max_two min_two max_three min_three max_four min_four   -- for this text's walks alone
set_option linter.unusedVariables false
set_option linter.unusedSimpArgs false

/-! ### exequaturref01_Build: function 10 -/
def exequaturref01_Build.l0 : Nat → List (S39) → ByteArray → Int → Option (ByteArray)
  | 0, _, _, _ => none
  | k + 1, x0, x3, x4 => if x4 < (x0.length : Int) then (if x4 > 0 then (if x3.size + 1 ≤ 9223372036854775807 then (if 0 ≤ x4 then ((exequaturref01_Quote.f k ((rd_T39 x0 x4).f0)).bind fun t228 => (if (x3 ++ (⟨#[38]⟩ : ByteArray)).size + t228.size ≤ 9223372036854775807 then (if ((x3 ++ (⟨#[38]⟩ : ByteArray)) ++ t228).size + 1 ≤ 9223372036854775807 then ((exequaturref01_Quote.f k ((rd_T39 x0 x4).f1)).bind fun t230 => (if (((x3 ++ (⟨#[38]⟩ : ByteArray)) ++ t228) ++ (⟨#[61]⟩ : ByteArray)).size + t230.size ≤ 9223372036854775807 then (exequaturref01_Build.l0 k x0 ((((x3 ++ (⟨#[38]⟩ : ByteArray)) ++ t228) ++ (⟨#[61]⟩ : ByteArray)) ++ t230) (wrap64 (x4 + 1))) else (none))) else (none)) else (none))) else (none)) else (none)) else (if 0 ≤ x4 then ((exequaturref01_Quote.f k ((rd_T39 x0 x4).f0)).bind fun t232 => (if x3.size + t232.size ≤ 9223372036854775807 then (if (x3 ++ t232).size + 1 ≤ 9223372036854775807 then ((exequaturref01_Quote.f k ((rd_T39 x0 x4).f1)).bind fun t234 => (if ((x3 ++ t232) ++ (⟨#[61]⟩ : ByteArray)).size + t234.size ≤ 9223372036854775807 then (exequaturref01_Build.l0 k x0 (((x3 ++ t232) ++ (⟨#[61]⟩ : ByteArray)) ++ t234) (wrap64 (x4 + 1))) else (none))) else (none)) else (none))) else (none))) else (some x3)
def exequaturref01_Build.f (k : Nat) (l0 : List (S39)) : Option (ByteArray) := exequaturref01_Build.l0 k l0 (⟨#[]⟩ : ByteArray) 0
theorem exequaturref01_Build.mono_l : ∀ k, (∀ y0 y1 y2, LeO (exequaturref01_Build.l0 k y0 y1 y2) (exequaturref01_Build.l0 (k + 1) y0 y1 y2))
  | 0 => fun _ _ _ r h => by simp [exequaturref01_Build.l0] at h
  | k + 1 => by
    have ih0 := exequaturref01_Build.mono_l k
    · intro y0 y1 y2
      unfold exequaturref01_Build.l0
      repeat' first
      | (with_reducible exact ih0 _ _ _)
      | (with_reducible exact exequaturref01_Quote.mono _ _)
      | (with_reducible exact LeO.refl _)
      | (with_reducible exact LeO.none _)
      | (with_reducible refine LeO.ite ?_ ?_)
      | (with_reducible refine LeO.bind ?_ (fun _ => ?_))
      | exact ih0 _ _ _
      | exact exequaturref01_Quote.mono _ _
      | exact LeO.none _
      | refine LeO.ite ?_ ?_
      | refine LeO.bind ?_ (fun _ => ?_)
theorem exequaturref01_Build.mono : ∀ a0 k, LeO (exequaturref01_Build.f k a0) (exequaturref01_Build.f (k + 1) a0) := by
  intro a0 k
  have ih0 := exequaturref01_Build.mono_l k
  unfold exequaturref01_Build.f
  repeat' first
      | (with_reducible exact ih0 _ _ _)
      | (with_reducible exact exequaturref01_Quote.mono _ _)
      | (with_reducible exact LeO.refl _)
      | (with_reducible exact LeO.none _)
      | (with_reducible refine LeO.ite ?_ ?_)
      | (with_reducible refine LeO.bind ?_ (fun _ => ?_))
      | exact ih0 _ _ _
      | exact exequaturref01_Quote.mono _ _
      | exact LeO.none _
      | refine LeO.ite ?_ ?_
      | refine LeO.bind ?_ (fun _ => ?_)
def exequaturref01_Build.T7 : Bool × List (List Nat × List Nat) := (true, [([], []), ([], []), ([], []), ([1, 2], [1, 2]), ([3], [3]), ([4], [4]), ([5], [5]), ([0, 6], [0, 6]), ([7], [7]), ([], []), ([], []), ([9, 10], [9, 10]), ([11], [11]), ([12], [12]), ([13, 6], [13]), ([8, 14], [8, 14]), ([15, 14, 0, 1, 2, 3, 4, 5, 6, 7, 8, 9, 10, 11, 12, 13, 14, 15], [0, 15])])
def exequaturref01_Build.B7 : List Nat := [0, 0, 0, 6, 14, 30, 62, 127, 255, 0, 0, 1536, 3584, 7680, 15998, 32767, 65535]
theorem exequaturref01_Build.tab7 : rtab .any (opsOf Tryd.f10 7) = exequaturref01_Build.T7 := by kernel_rfl
theorem exequaturref01_Build.bits7 : waitsOk exequaturref01_Build.T7.2 exequaturref01_Build.B7 = true := by kernel_rfl
set_option maxHeartbeats 8000000 in
set_option maxRecDepth 100000 in
theorem exequaturref01_Build.calls (k : Nat) (A0 : Option Addr) (c0 : Nat) (l0 : List (S39)) (r : ByteArray) (w : World) (hr0 : Kd.C k39 w A0 l0.length l0) (hc0 : l0.length ≤ c0) (h : exequaturref01_Build.f k l0 = some r) :
  Calls Tryd.prog 10 #[.slice A0 l0.length c0] w fun e w' => e = .returned (.string r) ∧ Below w.heap.size w w' := by
 have HR0 := Aside0.mk hr0
 have HC0 := Aside0.mk hc0
 clear hr0 hc0
 have HB := Aside0.mk (Below.refl w.heap.size w)
 have H : (exequaturref01_Build.l0 k l0 (⟨#[]⟩ : ByteArray) 0) = some r := h
 clear h
 have H' := Aside0.mk H
 clear H
 go_enter Tryd.func10, Tryd.ntmps10
 go_wp2
 go_loopg [3, 4] k (fun kq v3 v4 w' => ∃ (x3_1 : ByteArray) (x4_1 : Int), v3 = .string x3_1 ∧ v4 = .int .i64 x4_1 ∧ Aside0 (exequaturref01_Build.l0 kq l0 x3_1 x4_1 = some r) ∧ Aside0 (kq ≤ k) ∧ Aside0 (Below w.heap.size w w'))
 case atStart => exact ⟨((⟨#[]⟩ : ByteArray)), (0), (by first | rfl | (simp; done) | (simp [*]; done) | (refine congrArg Value.bool ?_; rw [Bool.eq_iff_iff]; simp; done)), (by first | rfl | (simp; done) | (simp [*]; done) | (refine congrArg Value.bool ?_; rw [Bool.eq_iff_iff]; simp; done)), H', ⟨Nat.le_refl _⟩, ⟨by repeat (first | (with_reducible first | exact HB.out | apply below_alloc | apply pw_below_drewN | apply below_drew1) | exact HB.out)⟩⟩
 case round =>
  clear H'
  try clear c1
  obtain ⟨x3_1, x4_1, rfl, rfl, HA, HK1, HB⟩ := hrel
  cases gk with
  | zero => exact absurd HA.out (by simp [exequaturref01_Build.l0])
  | succ k1 =>
   have H := HA.out
   clear HA
   simp only [exequaturref01_Build.l0] at H
   by_cases c2 : x4_1 < (l0.length : Int)
   ·rw [if_pos c2] at H
    have c2b0 : decide (x4_1 < (l0.length : Int)) = true := decide_eq_true c2
    clear c2
    by_cases c3 : x4_1 > 0
    ·rw [if_pos c3] at H
     have c3b0 : decide (0 < x4_1) = true := decide_eq_true c3
     clear c3
     by_cases c4 : x3_1.size + 1 ≤ 9223372036854775807
     rotate_left
     ·rw [if_neg c4] at H; exact absurd H (by simp)
     rw [if_pos c4] at H
     have c4b0 := eq_true c4
     have c4b1 : decide (x3_1.size + 1 ≤ 9223372036854775807) = true := decide_eq_true c4
     try have c4b2 : (9223372036854775807 < x3_1.size + 1) = False := eq_false (Nat.not_lt.2 c4)
     try have c4b3 : (9223372036854775807 < x3_1.size + 1) = False := eq_false (Nat.not_lt.2 (by have h_ := c4; simp only [ByteArray.size_append] at h_; exact h_))
     by_cases c5 : 0 ≤ x4_1
     rotate_left
     ·rw [if_neg c5] at H; exact absurd H (by simp)
     rw [if_pos c5] at H
     have c5b0 : decide (0 ≤ x4_1) = true := decide_eq_true c5
     clear c5
     replace H := Option.bind_eq_some_iff.mp H
     obtain ⟨t228, A60, H⟩ := H
     replace H : (if (x3_1 ++ (⟨#[38]⟩ : ByteArray)).size + t228.size ≤ 9223372036854775807 then (if ((x3_1 ++ (⟨#[38]⟩ : ByteArray)) ++ t228).size + 1 ≤ 9223372036854775807 then ((exequaturref01_Quote.f k1 ((rd_T39 l0 x4_1).f1)).bind fun t230 => (if (((x3_1 ++ (⟨#[38]⟩ : ByteArray)) ++ t228) ++ (⟨#[61]⟩ : ByteArray)).size + t230.size ≤ 9223372036854775807 then (exequaturref01_Build.l0 k1 l0 ((((x3_1 ++ (⟨#[38]⟩ : ByteArray)) ++ t228) ++ (⟨#[61]⟩ : ByteArray)) ++ t230) (wrap64 (x4_1 + 1))) else (none))) else (none)) else (none)) = some r := H
     have A6 := Aside0.mk A60
     clear A60
     by_cases c7 : (x3_1 ++ (⟨#[38]⟩ : ByteArray)).size + t228.size ≤ 9223372036854775807
     rotate_left
     ·rw [if_neg c7] at H; exact absurd H (by simp)
     rw [if_pos c7] at H
     have c7b0 := eq_true c7
     have c7b1 : decide ((x3_1 ++ (⟨#[38]⟩ : ByteArray)).size + t228.size ≤ 9223372036854775807) = true := decide_eq_true c7
     try have c7b2 : (9223372036854775807 < (x3_1 ++ (⟨#[38]⟩ : ByteArray)).size + t228.size) = False := eq_false (Nat.not_lt.2 c7)
     try have c7b3 : (9223372036854775807 < x3_1.size + 1 + t228.size) = False := eq_false (Nat.not_lt.2 (by have h_ := c7; simp only [ByteArray.size_append] at h_; exact h_))
     by_cases c8 : ((x3_1 ++ (⟨#[38]⟩ : ByteArray)) ++ t228).size + 1 ≤ 9223372036854775807
     rotate_left
     ·rw [if_neg c8] at H; exact absurd H (by simp)
     rw [if_pos c8] at H
     have c8b0 := eq_true c8
     have c8b1 : decide (((x3_1 ++ (⟨#[38]⟩ : ByteArray)) ++ t228).size + 1 ≤ 9223372036854775807) = true := decide_eq_true c8
     try have c8b2 : (9223372036854775807 < ((x3_1 ++ (⟨#[38]⟩ : ByteArray)) ++ t228).size + 1) = False := eq_false (Nat.not_lt.2 c8)
     try have c8b3 : (9223372036854775807 < x3_1.size + 1 + t228.size + 1) = False := eq_false (Nat.not_lt.2 (by have h_ := c8; simp only [ByteArray.size_append] at h_; exact h_))
     replace H := Option.bind_eq_some_iff.mp H
     obtain ⟨t230, A90, H⟩ := H
     replace H : (if (((x3_1 ++ (⟨#[38]⟩ : ByteArray)) ++ t228) ++ (⟨#[61]⟩ : ByteArray)).size + t230.size ≤ 9223372036854775807 then (exequaturref01_Build.l0 k1 l0 ((((x3_1 ++ (⟨#[38]⟩ : ByteArray)) ++ t228) ++ (⟨#[61]⟩ : ByteArray)) ++ t230) (wrap64 (x4_1 + 1))) else (none)) = some r := H
     have A9 := Aside0.mk A90
     clear A90
     by_cases c10 : (((x3_1 ++ (⟨#[38]⟩ : ByteArray)) ++ t228) ++ (⟨#[61]⟩ : ByteArray)).size + t230.size ≤ 9223372036854775807
     rotate_left
     ·rw [if_neg c10] at H; exact absurd H (by simp)
     rw [if_pos c10] at H
     have c10b0 := eq_true c10
     have c10b1 : decide ((((x3_1 ++ (⟨#[38]⟩ : ByteArray)) ++ t228) ++ (⟨#[61]⟩ : ByteArray)).size + t230.size ≤ 9223372036854775807) = true := decide_eq_true c10
     try have c10b2 : (9223372036854775807 < (((x3_1 ++ (⟨#[38]⟩ : ByteArray)) ++ t228) ++ (⟨#[61]⟩ : ByteArray)).size + t230.size) = False := eq_false (Nat.not_lt.2 c10)
     try have c10b3 : (9223372036854775807 < x3_1.size + 1 + t228.size + 1 + t230.size) = False := eq_false (Nat.not_lt.2 (by have h_ := c10; simp only [ByteArray.size_append] at h_; exact h_))
     have H' := Aside0.mk H
     clear H
     try go_wp2
     have n0_ := Aside0.mk (below_drew1 HB.out)
     clear HB
     have HB := n0_
     clear n0_
     have p227 : 0 ≤ (x4_1 : Int) := of_decide_eq_true (by first | (with_reducible assumption) | assumption)
     have q227 : x4_1 < (l0.length : Int) := of_decide_eq_true (by first | (with_reducible assumption) | assumption)
     obtain ⟨ad227, e227, hx227_0, hx227_1⟩ := at_T39 HR0.out x4_1 p227 q227
     have hw227_1 := hx227_1
     have hw227_0 := hx227_0
     cases e227
     replace hx227_0 := (HB.out.cell (World.block_lt_of_cell? w _ hx227_0)).trans hx227_0
     replace hx227_1 := (HB.out.cell (World.block_lt_of_cell? w _ hx227_1)).trans hx227_1
     replace p227 := eq_true p227
     replace q227 := eq_true q227
     have p229 : 0 ≤ (x4_1 : Int) := of_decide_eq_true (by first | (with_reducible assumption) | assumption)
     have q229 : x4_1 < (l0.length : Int) := of_decide_eq_true (by first | (with_reducible assumption) | assumption)
     obtain ⟨ad229, e229, hx229_0, hx229_1⟩ := at_T39 HR0.out x4_1 p229 q229
     have hw229_1 := hx229_1
     have hw229_0 := hx229_0
     obtain rfl : ad227 = ad229 := (by injection e229)
     replace hx229_0 := (HB.out.cell (World.block_lt_of_cell? w _ hx229_0)).trans hx229_0
     replace hx229_1 := (HB.out.cell (World.block_lt_of_cell? w _ hx229_1)).trans hx229_1
     replace p229 := eq_true p229
     replace q229 := eq_true q229
     refine start_ (n := 17) (S := fun w' => w'.cell? (ad227.add ((x4_1).toNat * 2)) = some (.string ((rd_T39 l0 x4_1).f0)) ∧ w'.cell? ⟨(ad227.add ((x4_1).toNat * 2)).block, (ad227.add ((x4_1).toNat * 2)).off + 1, none⟩ = some (.string ((rd_T39 l0 x4_1).f1)) ∧ w'.cell? (ad227.add ((x4_1).toNat * 2)) = some (.string ((rd_T39 l0 x4_1).f0)) ∧ w'.cell? ⟨(ad227.add ((x4_1).toNat * 2)).block, (ad227.add ((x4_1).toNat * 2)).off + 1, none⟩ = some (.string ((rd_T39 l0 x4_1).f1))) (ds := []) #[false, false, false, false, false, false, false, false, false, false, false, false, false, false, false, false, false] (by kernel_rfl) rfl rfl ⟨((HB.out.cell (World.block_lt_of_cell? w _ hw227_0)).trans hw227_0), ((HB.out.cell (World.block_lt_of_cell? w _ hw227_1)).trans hw227_1), ((HB.out.cell (World.block_lt_of_cell? w _ hw229_0)).trans hw229_0), ((HB.out.cell (World.block_lt_of_cell? w _ hw229_1)).trans hw229_1)⟩ (fun hHeld => ?_); refine with_tabW exequaturref01_Build.tab7 exequaturref01_Build.bits7 (fun HT_ HW_ => ?_)
     generalize wr.drew = w11 at HB hx227_0 hx227_1 hx229_0 hx229_1 hHeld ⊢
     refine pure_ (i := 0) (N := some 15) (v := ?_) (a' := ?_) #[true, false, false, false, false, false, false, false, false, false, false, false, false, false, false, false, false] rfl rfl (any_of HT_.out (by kernel_rfl)) (fun _ _ _ h => h) (Or.inl ⟨by rfl, ?_⟩) ?_ ?_
     rotate_left
     ·intro w'
      go_simp
      with_reducible rfl
     rotate_left
     ·simp only [Act.put, List.setIfInBounds_toArray, List.set_cons_zero, List.set_cons_succ, i64_w, i32_w]
      rfl
     refine pure_ (i := 1) (N := some 16) (v := ?_) (a' := ?_) #[true, true, false, false, false, false, false, false, false, false, false, false, false, false, false, false, false] rfl rfl (any_of HT_.out (by kernel_rfl)) (fun _ _ _ h => h) (Or.inl ⟨by rfl, ?_⟩) ?_ ?_
     rotate_left
     ·intro w'
      go_simp
      with_reducible rfl
     rotate_left
     ·simp only [Act.put, List.setIfInBounds_toArray, List.set_cons_zero, List.set_cons_succ, i64_w, i32_w]
      rfl
     refine pure_ (i := 2) (N := some 17) (v := ?_) (a' := ?_) #[true, true, true, false, false, false, false, false, false, false, false, false, false, false, false, false, false] rfl rfl (any_of HT_.out (by kernel_rfl)) (fun _ _ _ h => h) (Or.inl ⟨by rfl, ?_⟩) ?_ ?_
     rotate_left
     ·intro w'
      go_simp
      with_reducible rfl
     rotate_left
     ·simp only [Act.put, List.setIfInBounds_toArray, List.set_cons_zero, List.set_cons_succ, i64_w, i32_w]
      rfl
     refine pure_ (i := 3) (N := some 18) (v := ?_) (a' := ?_) #[true, true, true, true, false, false, false, false, false, false, false, false, false, false, false, false, false] rfl rfl (any_of HT_.out (by kernel_rfl)) (fun _ _ _ h => h) (Or.inl ⟨by rfl, ?_⟩) ?_ ?_
     rotate_left
     ·intro w'
      go_simp
      with_reducible rfl
     rotate_left
     ·simp only [Act.put, List.setIfInBounds_toArray, List.set_cons_zero, List.set_cons_succ, i64_w, i32_w]
      rfl
     refine pure_ (i := 4) (N := some 19) (v := ?_) (a' := ?_) #[true, true, true, true, true, false, false, false, false, false, false, false, false, false, false, false, false] rfl rfl (any_of HT_.out (by kernel_rfl)) (fun _ _ _ h => h) (Or.inl ⟨by rfl, ?_⟩) ?_ ?_
     rotate_left
     ·intro w'
      go_simp
      with_reducible rfl
     rotate_left
     ·simp only [Act.put, List.setIfInBounds_toArray, List.set_cons_zero, List.set_cons_succ, i64_w, i32_w]
      rfl
     refine pure_ (i := 9) (N := some 24) (v := ?_) (a' := ?_) #[true, true, true, true, true, false, false, false, false, true, false, false, false, false, false, false, false] rfl rfl (any_of HT_.out (by kernel_rfl)) (fun _ _ _ h => h) (Or.inl ⟨by rfl, ?_⟩) ?_ ?_
     rotate_left
     ·intro w'
      go_simp
      with_reducible rfl
     rotate_left
     ·simp only [Act.put, List.setIfInBounds_toArray, List.set_cons_zero, List.set_cons_succ, i64_w, i32_w]
      rfl
     refine pure_ (i := 10) (N := some 25) (v := ?_) (a' := ?_) #[true, true, true, true, true, false, false, false, false, true, true, false, false, false, false, false, false] rfl rfl (any_of HT_.out (by kernel_rfl)) (fun _ _ _ h => h) (Or.inl ⟨by rfl, ?_⟩) ?_ ?_
     rotate_left
     ·intro w'
      go_simp
      with_reducible rfl
     rotate_left
     ·simp only [Act.put, List.setIfInBounds_toArray, List.set_cons_zero, List.set_cons_succ, i64_w, i32_w]
      rfl
     refine pure_ (i := 11) (N := some 26) (v := ?_) (a' := ?_) #[true, true, true, true, true, false, false, false, false, true, true, true, false, false, false, false, false] rfl rfl (any_of HT_.out (by kernel_rfl)) (fun _ _ _ h => h) (Or.inl ⟨by rfl, ?_⟩) ?_ ?_
     rotate_left
     ·intro w'
      go_simp
      with_reducible rfl
     rotate_left
     ·simp only [Act.put, List.setIfInBounds_toArray, List.set_cons_zero, List.set_cons_succ, i64_w, i32_w]
      rfl
     refine pure_ (i := 12) (N := some 27) (v := ?_) (a' := ?_) #[true, true, true, true, true, false, false, false, false, true, true, true, true, false, false, false, false] rfl rfl (any_of HT_.out (by kernel_rfl)) (fun _ _ _ h => h) (Or.inl ⟨by rfl, ?_⟩) ?_ ?_
     rotate_left
     ·intro w'
      go_simp
      with_reducible rfl
     rotate_left
     ·simp only [Act.put, List.setIfInBounds_toArray, List.set_cons_zero, List.set_cons_succ, i64_w, i32_w]
      rfl
     refine take_ (i := 5) (N := some 20) (v := ?_) (a' := ?_) #[true, true, true, true, true, true, false, false, false, true, true, true, true, false, false, false, false] rfl rfl (take_ofW HT_.out HW_.out (by kernel_rfl)) (fun _ _ _ h => h) (Or.inl ⟨by rfl, ?_⟩) hHeld ?_ ?_
     rotate_left
     ·rintro w' ⟨s0, s1, s2, s3⟩
      go_simp
      with_reducible rfl
     rotate_left
     ·simp only [Act.put, List.setIfInBounds_toArray, List.set_cons_zero, List.set_cons_succ, i64_w, i32_w]
      rfl
     refine take_ (i := 13) (N := some 28) (v := ?_) (a' := ?_) #[true, true, true, true, true, true, false, false, false, true, true, true, true, true, false, false, false] rfl rfl (take_ofW HT_.out HW_.out (by kernel_rfl)) (fun _ _ _ h => h) (Or.inl ⟨by rfl, ?_⟩) hHeld ?_ ?_
     rotate_left
     ·rintro w' ⟨s0, s1, s2, s3⟩
      go_simp
      with_reducible rfl
     rotate_left
     ·simp only [Act.put, List.setIfInBounds_toArray, List.set_cons_zero, List.set_cons_succ, i64_w, i32_w]
      rfl
     refine one_ (i := 6) (N := some 21) #[true, true, true, true, true, true, true, false, false, true, true, true, true, true, false, false, false] rfl rfl (one_of HT_.out (by kernel_rfl)) (by decide) (fun K hK => ?_)
     refine goes_ Tryd.func27 (by kernel_rfl) rfl #[.string ((rd_T39 l0 x4_1).f0)] (by rfl) rfl rfl (by (try simp only [List.map_toArray, List.map_cons, List.map_nil]); first | done | rfl | (simp only [List.length_drop, List.length_take]; rfl)) ?_
     with_reducible refine (exequaturref01_Quote.calls k1 ((rd_T39 l0 x4_1).f0) t228 _ A6.out).mono ?_
     rintro e w12 ⟨rfl, hb⟩
     refine ⟨_, rfl, ?_⟩
     have n0_ := Aside0.mk (below_step (by repeat (first | (with_reducible first | exact HB.out | apply below_alloc | apply pw_below_drewN | apply below_drew1) | exact HB.out)) hb)
     clear HB
     have HB := n0_
     clear n0_; (try clear hb); (try clear hb2); (try clear hk); (try clear hi)
     refine hK.out _ _ ⟨((HB.out.cell (World.block_lt_of_cell? w _ hw227_0)).trans hw227_0), ((HB.out.cell (World.block_lt_of_cell? w _ hw227_1)).trans hw227_1), ((HB.out.cell (World.block_lt_of_cell? w _ hw229_0)).trans hw229_0), ((HB.out.cell (World.block_lt_of_cell? w _ hw229_1)).trans hw229_1)⟩ (fun hHeld => ?_)
     clear hK K
     refine norm_ (a' := ?_) ?_ ?_
     rotate_left
     ·show Act.put _ (some 21) _ = _
      simp only [Act.put, List.setIfInBounds_toArray, List.set_cons_zero, List.set_cons_succ, i64_w, i32_w]
      rfl
     refine pure_ (i := 7) (N := some 22) (v := ?_) (a' := ?_) #[true, true, true, true, true, true, true, true, false, true, true, true, true, true, false, false, false] rfl rfl (any_of HT_.out (by kernel_rfl)) (fun _ _ _ h => h) (Or.inl ⟨by rfl, ?_⟩) ?_ ?_
     rotate_left
     ·intro w'
      go_simp
      with_reducible rfl
     rotate_left
     ·simp only [Act.put, List.setIfInBounds_toArray, List.set_cons_zero, List.set_cons_succ, i64_w, i32_w]
      rfl
     refine pure_ (i := 8) (N := some 23) (v := ?_) (a' := ?_) #[true, true, true, true, true, true, true, true, true, true, true, true, true, true, false, false, false] rfl rfl (any_of HT_.out (by kernel_rfl)) (fun _ _ _ h => h) (Or.inl ⟨by rfl, ?_⟩) ?_ ?_
     rotate_left
     ·intro w'
      go_simp
      with_reducible rfl
     rotate_left
     ·simp only [Act.put, List.setIfInBounds_toArray, List.set_cons_zero, List.set_cons_succ, i64_w, i32_w]
      rfl
     refine one_ (i := 14) (N := some 29) #[true, true, true, true, true, true, true, true, true, true, true, true, true, true, true, false, false] rfl rfl (one_of HT_.out (by kernel_rfl)) (by decide) (fun K hK => ?_)
     refine goes_ Tryd.func27 (by kernel_rfl) rfl #[.string ((rd_T39 l0 x4_1).f1)] (by rfl) rfl rfl (by (try simp only [List.map_toArray, List.map_cons, List.map_nil]); first | done | rfl | (simp only [List.length_drop, List.length_take]; rfl)) ?_
     with_reducible refine (exequaturref01_Quote.calls k1 ((rd_T39 l0 x4_1).f1) t230 _ A9.out).mono ?_
     rintro e w13 ⟨rfl, hb⟩
     refine ⟨_, rfl, ?_⟩
     have n0_ := Aside0.mk (below_step (by repeat (first | (with_reducible first | exact HB.out | apply below_alloc | apply pw_below_drewN | apply below_drew1) | exact HB.out)) hb)
     clear HB
     have HB := n0_
     clear n0_; (try clear hb); (try clear hb2); (try clear hk); (try clear hi)
     refine hK.out _ _ ⟨((HB.out.cell (World.block_lt_of_cell? w _ hw227_0)).trans hw227_0), ((HB.out.cell (World.block_lt_of_cell? w _ hw227_1)).trans hw227_1), ((HB.out.cell (World.block_lt_of_cell? w _ hw229_0)).trans hw229_0), ((HB.out.cell (World.block_lt_of_cell? w _ hw229_1)).trans hw229_1)⟩ (fun hHeld => ?_)
     clear hK K
     refine norm_ (a' := ?_) ?_ ?_
     rotate_left
     ·show Act.put _ (some 29) _ = _
      simp only [Act.put, List.setIfInBounds_toArray, List.set_cons_zero, List.set_cons_succ, i64_w, i32_w]
      rfl
     refine pure_ (i := 15) (N := some 30) (v := ?_) (a' := ?_) #[true, true, true, true, true, true, true, true, true, true, true, true, true, true, true, true, false] rfl rfl (any_of HT_.out (by kernel_rfl)) (fun _ _ _ h => h) (Or.inl ⟨by rfl, ?_⟩) ?_ ?_
     rotate_left
     ·intro w'
      go_simp
      with_reducible rfl
     rotate_left
     ·simp only [Act.put, List.setIfInBounds_toArray, List.set_cons_zero, List.set_cons_succ, i64_w, i32_w]
      rfl
     refine pure_ (i := 16) (N := some 3) (v := ?_) (a' := ?_) #[true, true, true, true, true, true, true, true, true, true, true, true, true, true, true, true, true] rfl rfl (any_of HT_.out (by kernel_rfl)) (fun _ _ _ h => h) (Or.inl ⟨by rfl, ?_⟩) ?_ ?_
     rotate_left
     ·intro w'
      go_simp
      with_reducible rfl
     rotate_left
     ·simp only [Act.put, List.setIfInBounds_toArray, List.set_cons_zero, List.set_cons_succ, i64_w, i32_w]
      rfl
     refine done_ (done_of HT_.out (by kernel_rfl)) ?_
     try go_wp2
     go_roundg k1
     case measure => have := HK1.out; omega
     case rel => exact ⟨((((x3_1 ++ (⟨#[38]⟩ : ByteArray)) ++ t228) ++ (⟨#[61]⟩ : ByteArray)) ++ t230), (wrap64 (x4_1 + 1)), (by first | rfl | (simp; done) | (simp [*]; done) | (refine congrArg Value.bool ?_; rw [Bool.eq_iff_iff]; simp; done)), (by first | rfl | (simp; done) | (simp [*]; done) | (refine congrArg Value.bool ?_; rw [Bool.eq_iff_iff]; simp; done)), H', ⟨by have := HK1.out; omega⟩, ⟨by repeat (first | (with_reducible first | exact HB.out | apply below_alloc | apply pw_below_drewN | apply below_drew1) | exact HB.out)⟩⟩
    ·rw [if_neg c3] at H
     have c3b0 : decide (0 < x4_1) = false := decide_eq_false c3
     clear c3
     by_cases c14 : 0 ≤ x4_1
     rotate_left
     ·rw [if_neg c14] at H; exact absurd H (by simp)
     rw [if_pos c14] at H
     have c14b0 : decide (0 ≤ x4_1) = true := decide_eq_true c14
     clear c14
     replace H := Option.bind_eq_some_iff.mp H
     obtain ⟨t232, A150, H⟩ := H
     replace H : (if x3_1.size + t232.size ≤ 9223372036854775807 then (if (x3_1 ++ t232).size + 1 ≤ 9223372036854775807 then ((exequaturref01_Quote.f k1 ((rd_T39 l0 x4_1).f1)).bind fun t234 => (if ((x3_1 ++ t232) ++ (⟨#[61]⟩ : ByteArray)).size + t234.size ≤ 9223372036854775807 then (exequaturref01_Build.l0 k1 l0 (((x3_1 ++ t232) ++ (⟨#[61]⟩ : ByteArray)) ++ t234) (wrap64 (x4_1 + 1))) else (none))) else (none)) else (none)) = some r := H
     have A15 := Aside0.mk A150
     clear A150
     by_cases c16 : x3_1.size + t232.size ≤ 9223372036854775807
     rotate_left
     ·rw [if_neg c16] at H; exact absurd H (by simp)
     rw [if_pos c16] at H
     have c16b0 := eq_true c16
     have c16b1 : decide (x3_1.size + t232.size ≤ 9223372036854775807) = true := decide_eq_true c16
     try have c16b2 : (9223372036854775807 < x3_1.size + t232.size) = False := eq_false (Nat.not_lt.2 c16)
     try have c16b3 : (9223372036854775807 < x3_1.size + t232.size) = False := eq_false (Nat.not_lt.2 (by have h_ := c16; simp only [ByteArray.size_append] at h_; exact h_))
     by_cases c17 : (x3_1 ++ t232).size + 1 ≤ 9223372036854775807
     rotate_left
     ·rw [if_neg c17] at H; exact absurd H (by simp)
     rw [if_pos c17] at H
     have c17b0 := eq_true c17
     have c17b1 : decide ((x3_1 ++ t232).size + 1 ≤ 9223372036854775807) = true := decide_eq_true c17
     try have c17b2 : (9223372036854775807 < (x3_1 ++ t232).size + 1) = False := eq_false (Nat.not_lt.2 c17)
     try have c17b3 : (9223372036854775807 < x3_1.size + t232.size + 1) = False := eq_false (Nat.not_lt.2 (by have h_ := c17; simp only [ByteArray.size_append] at h_; exact h_))
     replace H := Option.bind_eq_some_iff.mp H
     obtain ⟨t234, A180, H⟩ := H
     replace H : (if ((x3_1 ++ t232) ++ (⟨#[61]⟩ : ByteArray)).size + t234.size ≤ 9223372036854775807 then (exequaturref01_Build.l0 k1 l0 (((x3_1 ++ t232) ++ (⟨#[61]⟩ : ByteArray)) ++ t234) (wrap64 (x4_1 + 1))) else (none)) = some r := H
     have A18 := Aside0.mk A180
     clear A180
     by_cases c19 : ((x3_1 ++ t232) ++ (⟨#[61]⟩ : ByteArray)).size + t234.size ≤ 9223372036854775807
     rotate_left
     ·rw [if_neg c19] at H; exact absurd H (by simp)
     rw [if_pos c19] at H
     have c19b0 := eq_true c19
     have c19b1 : decide (((x3_1 ++ t232) ++ (⟨#[61]⟩ : ByteArray)).size + t234.size ≤ 9223372036854775807) = true := decide_eq_true c19
     try have c19b2 : (9223372036854775807 < ((x3_1 ++ t232) ++ (⟨#[61]⟩ : ByteArray)).size + t234.size) = False := eq_false (Nat.not_lt.2 c19)
     try have c19b3 : (9223372036854775807 < x3_1.size + t232.size + 1 + t234.size) = False := eq_false (Nat.not_lt.2 (by have h_ := c19; simp only [ByteArray.size_append] at h_; exact h_))
     have H' := Aside0.mk H
     clear H
     try go_wp2
     have n0_ := Aside0.mk (below_drew1 HB.out)
     clear HB
     have HB := n0_
     clear n0_
     have p231 : 0 ≤ (x4_1 : Int) := of_decide_eq_true (by first | (with_reducible assumption) | assumption)
     have q231 : x4_1 < (l0.length : Int) := of_decide_eq_true (by first | (with_reducible assumption) | assumption)
     obtain ⟨ad231, e231, hx231_0, hx231_1⟩ := at_T39 HR0.out x4_1 p231 q231
     have hw231_1 := hx231_1
     have hw231_0 := hx231_0
     cases e231
     replace hx231_0 := (HB.out.cell (World.block_lt_of_cell? w _ hx231_0)).trans hx231_0
     replace hx231_1 := (HB.out.cell (World.block_lt_of_cell? w _ hx231_1)).trans hx231_1
     replace p231 := eq_true p231
     replace q231 := eq_true q231
     have p233 : 0 ≤ (x4_1 : Int) := of_decide_eq_true (by first | (with_reducible assumption) | assumption)
     have q233 : x4_1 < (l0.length : Int) := of_decide_eq_true (by first | (with_reducible assumption) | assumption)
     obtain ⟨ad233, e233, hx233_0, hx233_1⟩ := at_T39 HR0.out x4_1 p233 q233
     have hw233_1 := hx233_1
     have hw233_0 := hx233_0
     obtain rfl : ad231 = ad233 := (by injection e233)
     replace hx233_0 := (HB.out.cell (World.block_lt_of_cell? w _ hx233_0)).trans hx233_0
     replace hx233_1 := (HB.out.cell (World.block_lt_of_cell? w _ hx233_1)).trans hx233_1
     replace p233 := eq_true p233
     replace q233 := eq_true q233
     refine start_ (n := 17) (S := fun w' => w'.cell? (ad231.add ((x4_1).toNat * 2)) = some (.string ((rd_T39 l0 x4_1).f0)) ∧ w'.cell? ⟨(ad231.add ((x4_1).toNat * 2)).block, (ad231.add ((x4_1).toNat * 2)).off + 1, none⟩ = some (.string ((rd_T39 l0 x4_1).f1)) ∧ w'.cell? (ad231.add ((x4_1).toNat * 2)) = some (.string ((rd_T39 l0 x4_1).f0)) ∧ w'.cell? ⟨(ad231.add ((x4_1).toNat * 2)).block, (ad231.add ((x4_1).toNat * 2)).off + 1, none⟩ = some (.string ((rd_T39 l0 x4_1).f1))) (ds := []) #[false, false, false, false, false, false, false, false, false, false, false, false, false, false, false, false, false] (by kernel_rfl) rfl rfl ⟨((HB.out.cell (World.block_lt_of_cell? w _ hw231_0)).trans hw231_0), ((HB.out.cell (World.block_lt_of_cell? w _ hw231_1)).trans hw231_1), ((HB.out.cell (World.block_lt_of_cell? w _ hw233_0)).trans hw233_0), ((HB.out.cell (World.block_lt_of_cell? w _ hw233_1)).trans hw233_1)⟩ (fun hHeld => ?_); refine with_tabW exequaturref01_Build.tab7 exequaturref01_Build.bits7 (fun HT_ HW_ => ?_)
     generalize wr.drew = w20 at HB hx231_0 hx231_1 hx233_0 hx233_1 hHeld ⊢
     refine pure_ (i := 0) (N := some 15) (v := ?_) (a' := ?_) #[true, false, false, false, false, false, false, false, false, false, false, false, false, false, false, false, false] rfl rfl (any_of HT_.out (by kernel_rfl)) (fun _ _ _ h => h) (Or.inl ⟨by rfl, ?_⟩) ?_ ?_
     rotate_left
     ·intro w'
      go_simp
      with_reducible rfl
     rotate_left
     ·simp only [Act.put, List.setIfInBounds_toArray, List.set_cons_zero, List.set_cons_succ, i64_w, i32_w]
      rfl
     refine pure_ (i := 1) (N := some 16) (v := ?_) (a' := ?_) #[true, true, false, false, false, false, false, false, false, false, false, false, false, false, false, false, false] rfl rfl (any_of HT_.out (by kernel_rfl)) (fun _ _ _ h => h) (Or.inl ⟨by rfl, ?_⟩) ?_ ?_
     rotate_left
     ·intro w'
      go_simp
      with_reducible rfl
     rotate_left
     ·simp only [Act.put, List.setIfInBounds_toArray, List.set_cons_zero, List.set_cons_succ, i64_w, i32_w]
      rfl
     refine pure_ (i := 2) (N := some 17) (v := ?_) (a' := ?_) #[true, true, true, false, false, false, false, false, false, false, false, false, false, false, false, false, false] rfl rfl (any_of HT_.out (by kernel_rfl)) (fun _ _ _ h => h) (Or.inl ⟨by rfl, ?_⟩) ?_ ?_
     rotate_left
     ·intro w'
      go_simp
      with_reducible rfl
     rotate_left
     ·simp only [Act.put, List.setIfInBounds_toArray, List.set_cons_zero, List.set_cons_succ, i64_w, i32_w]
      rfl
     refine pure_ (i := 3) (N := some 18) (v := ?_) (a' := ?_) #[true, true, true, true, false, false, false, false, false, false, false, false, false, false, false, false, false] rfl rfl (any_of HT_.out (by kernel_rfl)) (fun _ _ _ h => h) (Or.inl ⟨by rfl, ?_⟩) ?_ ?_
     rotate_left
     ·intro w'
      go_simp
      with_reducible rfl
     rotate_left
     ·simp only [Act.put, List.setIfInBounds_toArray, List.set_cons_zero, List.set_cons_succ, i64_w, i32_w]
      rfl
     refine pure_ (i := 4) (N := some 19) (v := ?_) (a' := ?_) #[true, true, true, true, true, false, false, false, false, false, false, false, false, false, false, false, false] rfl rfl (any_of HT_.out (by kernel_rfl)) (fun _ _ _ h => h) (Or.inl ⟨by rfl, ?_⟩) ?_ ?_
     rotate_left
     ·intro w'
      go_simp
      with_reducible rfl
     rotate_left
     ·simp only [Act.put, List.setIfInBounds_toArray, List.set_cons_zero, List.set_cons_succ, i64_w, i32_w]
      rfl
     refine pure_ (i := 9) (N := some 24) (v := ?_) (a' := ?_) #[true, true, true, true, true, false, false, false, false, true, false, false, false, false, false, false, false] rfl rfl (any_of HT_.out (by kernel_rfl)) (fun _ _ _ h => h) (Or.inl ⟨by rfl, ?_⟩) ?_ ?_
     rotate_left
     ·intro w'
      go_simp
      with_reducible rfl
     rotate_left
     ·simp only [Act.put, List.setIfInBounds_toArray, List.set_cons_zero, List.set_cons_succ, i64_w, i32_w]
      rfl
     refine pure_ (i := 10) (N := some 25) (v := ?_) (a' := ?_) #[true, true, true, true, true, false, false, false, false, true, true, false, false, false, false, false, false] rfl rfl (any_of HT_.out (by kernel_rfl)) (fun _ _ _ h => h) (Or.inl ⟨by rfl, ?_⟩) ?_ ?_
     rotate_left
     ·intro w'
      go_simp
      with_reducible rfl
     rotate_left
     ·simp only [Act.put, List.setIfInBounds_toArray, List.set_cons_zero, List.set_cons_succ, i64_w, i32_w]
      rfl
     refine pure_ (i := 11) (N := some 26) (v := ?_) (a' := ?_) #[true, true, true, true, true, false, false, false, false, true, true, true, false, false, false, false, false] rfl rfl (any_of HT_.out (by kernel_rfl)) (fun _ _ _ h => h) (Or.inl ⟨by rfl, ?_⟩) ?_ ?_
     rotate_left
     ·intro w'
      go_simp
      with_reducible rfl
     rotate_left
     ·simp only [Act.put, List.setIfInBounds_toArray, List.set_cons_zero, List.set_cons_succ, i64_w, i32_w]
      rfl
     refine pure_ (i := 12) (N := some 27) (v := ?_) (a' := ?_) #[true, true, true, true, true, false, false, false, false, true, true, true, true, false, false, false, false] rfl rfl (any_of HT_.out (by kernel_rfl)) (fun _ _ _ h => h) (Or.inl ⟨by rfl, ?_⟩) ?_ ?_
     rotate_left
     ·intro w'
      go_simp
      with_reducible rfl
     rotate_left
     ·simp only [Act.put, List.setIfInBounds_toArray, List.set_cons_zero, List.set_cons_succ, i64_w, i32_w]
      rfl
     refine take_ (i := 5) (N := some 20) (v := ?_) (a' := ?_) #[true, true, true, true, true, true, false, false, false, true, true, true, true, false, false, false, false] rfl rfl (take_ofW HT_.out HW_.out (by kernel_rfl)) (fun _ _ _ h => h) (Or.inl ⟨by rfl, ?_⟩) hHeld ?_ ?_
     rotate_left
     ·rintro w' ⟨s0, s1, s2, s3⟩
      go_simp
      with_reducible rfl
     rotate_left
     ·simp only [Act.put, List.setIfInBounds_toArray, List.set_cons_zero, List.set_cons_succ, i64_w, i32_w]
      rfl
     refine take_ (i := 13) (N := some 28) (v := ?_) (a' := ?_) #[true, true, true, true, true, true, false, false, false, true, true, true, true, true, false, false, false] rfl rfl (take_ofW HT_.out HW_.out (by kernel_rfl)) (fun _ _ _ h => h) (Or.inl ⟨by rfl, ?_⟩) hHeld ?_ ?_
     rotate_left
     ·rintro w' ⟨s0, s1, s2, s3⟩
      go_simp
      with_reducible rfl
     rotate_left
     ·simp only [Act.put, List.setIfInBounds_toArray, List.set_cons_zero, List.set_cons_succ, i64_w, i32_w]
      rfl
     refine one_ (i := 6) (N := some 21) #[true, true, true, true, true, true, true, false, false, true, true, true, true, true, false, false, false] rfl rfl (one_of HT_.out (by kernel_rfl)) (by decide) (fun K hK => ?_)
     refine goes_ Tryd.func27 (by kernel_rfl) rfl #[.string ((rd_T39 l0 x4_1).f0)] (by rfl) rfl rfl (by (try simp only [List.map_toArray, List.map_cons, List.map_nil]); first | done | rfl | (simp only [List.length_drop, List.length_take]; rfl)) ?_
     with_reducible refine (exequaturref01_Quote.calls k1 ((rd_T39 l0 x4_1).f0) t232 _ A15.out).mono ?_
     rintro e w21 ⟨rfl, hb⟩
     refine ⟨_, rfl, ?_⟩
     have n0_ := Aside0.mk (below_step (by repeat (first | (with_reducible first | exact HB.out | apply below_alloc | apply pw_below_drewN | apply below_drew1) | exact HB.out)) hb)
     clear HB
     have HB := n0_
     clear n0_; (try clear hb); (try clear hb2); (try clear hk); (try clear hi)
     refine hK.out _ _ ⟨((HB.out.cell (World.block_lt_of_cell? w _ hw231_0)).trans hw231_0), ((HB.out.cell (World.block_lt_of_cell? w _ hw231_1)).trans hw231_1), ((HB.out.cell (World.block_lt_of_cell? w _ hw233_0)).trans hw233_0), ((HB.out.cell (World.block_lt_of_cell? w _ hw233_1)).trans hw233_1)⟩ (fun hHeld => ?_)
     clear hK K
     refine norm_ (a' := ?_) ?_ ?_
     rotate_left
     ·show Act.put _ (some 21) _ = _
      simp only [Act.put, List.setIfInBounds_toArray, List.set_cons_zero, List.set_cons_succ, i64_w, i32_w]
      rfl
     refine pure_ (i := 7) (N := some 22) (v := ?_) (a' := ?_) #[true, true, true, true, true, true, true, true, false, true, true, true, true, true, false, false, false] rfl rfl (any_of HT_.out (by kernel_rfl)) (fun _ _ _ h => h) (Or.inl ⟨by rfl, ?_⟩) ?_ ?_
     rotate_left
     ·intro w'
      go_simp
      with_reducible rfl
     rotate_left
     ·simp only [Act.put, List.setIfInBounds_toArray, List.set_cons_zero, List.set_cons_succ, i64_w, i32_w]
      rfl
     refine pure_ (i := 8) (N := some 23) (v := ?_) (a' := ?_) #[true, true, true, true, true, true, true, true, true, true, true, true, true, true, false, false, false] rfl rfl (any_of HT_.out (by kernel_rfl)) (fun _ _ _ h => h) (Or.inl ⟨by rfl, ?_⟩) ?_ ?_
     rotate_left
     ·intro w'
      go_simp
      with_reducible rfl
     rotate_left
     ·simp only [Act.put, List.setIfInBounds_toArray, List.set_cons_zero, List.set_cons_succ, i64_w, i32_w]
      rfl
     refine one_ (i := 14) (N := some 29) #[true, true, true, true, true, true, true, true, true, true, true, true, true, true, true, false, false] rfl rfl (one_of HT_.out (by kernel_rfl)) (by decide) (fun K hK => ?_)
     refine goes_ Tryd.func27 (by kernel_rfl) rfl #[.string ((rd_T39 l0 x4_1).f1)] (by rfl) rfl rfl (by (try simp only [List.map_toArray, List.map_cons, List.map_nil]); first | done | rfl | (simp only [List.length_drop, List.length_take]; rfl)) ?_
     with_reducible refine (exequaturref01_Quote.calls k1 ((rd_T39 l0 x4_1).f1) t234 _ A18.out).mono ?_
     rintro e w22 ⟨rfl, hb⟩
     refine ⟨_, rfl, ?_⟩
     have n0_ := Aside0.mk (below_step (by repeat (first | (with_reducible first | exact HB.out | apply below_alloc | apply pw_below_drewN | apply below_drew1) | exact HB.out)) hb)
     clear HB
     have HB := n0_
     clear n0_; (try clear hb); (try clear hb2); (try clear hk); (try clear hi)
     refine hK.out _ _ ⟨((HB.out.cell (World.block_lt_of_cell? w _ hw231_0)).trans hw231_0), ((HB.out.cell (World.block_lt_of_cell? w _ hw231_1)).trans hw231_1), ((HB.out.cell (World.block_lt_of_cell? w _ hw233_0)).trans hw233_0), ((HB.out.cell (World.block_lt_of_cell? w _ hw233_1)).trans hw233_1)⟩ (fun hHeld => ?_)
     clear hK K
     refine norm_ (a' := ?_) ?_ ?_
     rotate_left
     ·show Act.put _ (some 29) _ = _
      simp only [Act.put, List.setIfInBounds_toArray, List.set_cons_zero, List.set_cons_succ, i64_w, i32_w]
      rfl
     refine pure_ (i := 15) (N := some 30) (v := ?_) (a' := ?_) #[true, true, true, true, true, true, true, true, true, true, true, true, true, true, true, true, false] rfl rfl (any_of HT_.out (by kernel_rfl)) (fun _ _ _ h => h) (Or.inl ⟨by rfl, ?_⟩) ?_ ?_
     rotate_left
     ·intro w'
      go_simp
      with_reducible rfl
     rotate_left
     ·simp only [Act.put, List.setIfInBounds_toArray, List.set_cons_zero, List.set_cons_succ, i64_w, i32_w]
      rfl
     refine pure_ (i := 16) (N := some 3) (v := ?_) (a' := ?_) #[true, true, true, true, true, true, true, true, true, true, true, true, true, true, true, true, true] rfl rfl (any_of HT_.out (by kernel_rfl)) (fun _ _ _ h => h) (Or.inl ⟨by rfl, ?_⟩) ?_ ?_
     rotate_left
     ·intro w'
      go_simp
      with_reducible rfl
     rotate_left
     ·simp only [Act.put, List.setIfInBounds_toArray, List.set_cons_zero, List.set_cons_succ, i64_w, i32_w]
      rfl
     refine done_ (done_of HT_.out (by kernel_rfl)) ?_
     try go_wp2
     go_roundg k1
     case measure => have := HK1.out; omega
     case rel => exact ⟨(((x3_1 ++ t232) ++ (⟨#[61]⟩ : ByteArray)) ++ t234), (wrap64 (x4_1 + 1)), (by first | rfl | (simp; done) | (simp [*]; done) | (refine congrArg Value.bool ?_; rw [Bool.eq_iff_iff]; simp; done)), (by first | rfl | (simp; done) | (simp [*]; done) | (refine congrArg Value.bool ?_; rw [Bool.eq_iff_iff]; simp; done)), H', ⟨by have := HK1.out; omega⟩, ⟨by repeat (first | (with_reducible first | exact HB.out | apply below_alloc | apply pw_below_drewN | apply below_drew1) | exact HB.out)⟩⟩
   ·rw [if_neg c2] at H
    have c2b0 : decide (x4_1 < (l0.length : Int)) = false := decide_eq_false c2
    clear c2
    obtain rfl := Option.some.inj H
    go_wp2
    go_ret
    first | (exact ⟨by first | rfl | (simp [errW_none, errW_some] <;> rfl) | (simp [*, errW_none, errW_some] <;> rfl), by repeat (first | (with_reducible first | exact HB.out | apply below_alloc | apply pw_below_drewN | apply below_drew1) | exact HB.out)⟩) | (focus (exfalso; simp_all; done))
    all_goals (first | (exfalso; simp_all <;> omega) | (go_ret; exact ⟨by first | rfl | (simp [errW_none, errW_some] <;> rfl) | (simp [*, errW_none, errW_some] <;> rfl), by repeat (first | (with_reducible first | exact HB.out | apply below_alloc | apply pw_below_drewN | apply below_drew1) | exact HB.out)⟩))

end Go.Proofs.YtmhaaggmfgojbaaDoor.X

/-! HRefB -/
namespace Go.Proofs.YtmhaaggmfgojbaaDoor.X
open Go.RowKit Go.Proofs.YtmhaaggmfgojbaaDoorW.PrintWords Go.Proofs.YtmhaaggmfgojbaaDoor.Spec
set_option linter.unusedVariables false
set_option linter.unusedSimpArgs false

/-! Build -/
def pairL (p : Pr) : List UInt8 := quoteL (bl p.f0) ++ 61 :: quoteL (bl p.f1)
def buildL (l : List Pr) : List UInt8 := Lib.join (l.map pairL) [38]
theorem pairL_length (p : Pr) : (pairL p).length ≤ 3 * psz p + 1 := by
 have h1 := quoteL_length (bl p.f0)
 have h2 := quoteL_length (bl p.f1)
 rw [bl_length] at h1 h2
 simp only [pairL, psz, List.length_append, List.length_cons]
 omega
theorem join_snoc (xs : List (List UInt8)) (x sep : List UInt8) (h : xs ≠ []) : Lib.join (xs ++ [x]) sep = Lib.join xs sep ++ (sep ++ x) := by
 cases xs with
 | nil => exact absurd rfl h
 | cons y r => rw [List.cons_append, Lib.join_cons, Lib.join_cons]; simp [Lib.joinTail]
theorem buildL_snoc (l : List Pr) (p : Pr) : buildL (l ++ [p]) = if l = [] then pairL p else buildL l ++ 38 :: pairL p := by
 unfold buildL
 split
 ·rename_i h; subst h; simp [Lib.join_one]
 ·rename_i h; rw [List.map_append, List.map_cons, List.map_nil, join_snoc _ _ _ (by simpa using h)]; simp
theorem buildL_cons (p q : Pr) (r : List Pr) : buildL (p :: q :: r) = pairL p ++ 38 :: buildL (q :: r) := by
 simp [buildL, Lib.join, List.intercalate, List.intersperse]
theorem buildL_one (p : Pr) : buildL [p] = pairL p := by simp [buildL, Lib.join_one]
theorem buildL_length (M : Nat) (l : List Pr) (h : ∀ p ∈ l, psz p ≤ M) : (buildL l).length ≤ l.length * (3 * M + 2) := by
 induction l with
 | nil => simp [buildL, Lib.join_nil]
 | cons p r ih =>
  have hp := pairL_length p
  have hm := h p List.mem_cons_self
  cases r with
  | nil => rw [buildL_one]; simp; omega
  | cons q r =>
   rw [buildL_cons]
   have := ih (fun p hp => h p (List.mem_cons_of_mem _ hp))
   simp only [List.length_append, List.length_cons, Nat.succ_mul, Nat.add_mul, Nat.one_mul] at this ⊢
   omega
def pairS (p : Pr) : ByteArray := (ba (quoteL (bl p.f0)) ++ (⟨#[61]⟩ : ByteArray)) ++ ba (quoteL (bl p.f1))
theorem bl_pairS (p : Pr) : bl (pairS p) = pairL p := by
 unfold pairS pairL
 rw [bl_append, bl_append, bl_ba, bl_ba, show bl (⟨#[61]⟩ : ByteArray) = [61] from rfl, List.append_assoc]; rfl
theorem size_app (a b : ByteArray) : (a ++ b).size = a.size + b.size := ByteArray.size_append
theorem rbuild_from (l : List Pr) (hs : ∀ p ∈ l, psz p ≤ 1048576) (hl : l.length ≤ 1048576) : ∀ n i, i + n = l.length → Ev (fun k => exequaturref01_Build.l0 k l (ba (buildL (l.take i))) (i : Int)) (ba (buildL l)) := by
 intro n
 induction n with
 | zero =>
  intro i hi
  refine Ev.step (fun k => by rw [exequaturref01_Build.l0]) ?_
  rw [List.take_of_length_le (by omega)]
  exact Ev.if_neg (by omega) (Ev.some _)
 | succ n ih =>
  intro i hi
  have hlt : i < l.length := by omega
  refine Ev.step (fun k => by rw [exequaturref01_Build.l0]) ?_
  obtain ⟨p, hp⟩ : ∃ p, l[i] = p := ⟨_, rfl⟩
  have hps := hs p (hp ▸ List.getElem_mem hlt)
  unfold psz at hps
  rw [rd_pr _ _ hlt, hp, w64 (by omega) (by omega)]
  have q0 := quoteL_length (bl p.f0)
  have q1 := quoteL_length (bl p.f1)
  rw [bl_length] at q0 q1
  have hbl := buildL_length 1048576 (l.take i) (fun p hp => hs p (List.mem_of_mem_take hp))
  rw [List.length_take, Nat.min_eq_left (by omega)] at hbl
  have hb2 : i * (3 * 1048576 + 2) ≤ 1048576 * (3 * 1048576 + 2) := Nat.mul_le_mul_right _ (by omega)
  have hbb : (buildL (l.take i)).length ≤ 3298537000000 := by omega
  clear hbl hb2
  have hrec := ih (i + 1) (by omega)
  rw [List.take_succ_eq_append_getElem hlt, buildL_snoc, hp] at hrec
  have z38 : (⟨#[38]⟩ : ByteArray).size = 1 := rfl
  have z61 : (⟨#[61]⟩ : ByteArray).size = 1 := rfl
  refine Ev.if_pos (by omega) ?_
  by_cases hi0 : i = 0
  ·subst hi0
   refine Ev.if_neg (by omega) (Ev.if_pos (by omega) ?_)
   refine Ev.bind (ref_Quote p.f0 (by omega)) (Ev.if_pos ?_ (Ev.if_pos ?_ (Ev.bind (ref_Quote p.f1 (by omega)) (Ev.if_pos ?_ ?_))))
   ·simp only [size_ba]; omega
   ·simp only [size_app, size_ba]; omega
   ·simp only [size_app, size_ba, z61]; omega
   ·have e : ((ba (buildL (l.take 0)) ++ ba (quoteL (bl p.f0))) ++ (⟨#[61]⟩ : ByteArray)) ++ ba (quoteL (bl p.f1)) = ba (pairL p) := by
     apply bl_inj
     simp only [bl_append, bl_ba, show bl (⟨#[61]⟩ : ByteArray) = [61] from rfl, pairL]
     simp [buildL, Lib.join_nil]
    rw [e]
    simpa using hrec
  ·refine Ev.if_pos (by omega) (Ev.if_pos ?_ (Ev.if_pos (by omega) ?_))
   ·simp only [size_ba]; omega
   refine Ev.bind (ref_Quote p.f0 (by omega)) (Ev.if_pos ?_ (Ev.if_pos ?_ (Ev.bind (ref_Quote p.f1 (by omega)) (Ev.if_pos ?_ ?_))))
   ·simp only [size_app, size_ba, z38]; omega
   ·simp only [size_app, size_ba, z38]; omega
   ·simp only [size_app, size_ba, z38, z61]; omega
   ·have hne : l.take i ≠ [] := by
     intro h
     have := congrArg List.length h
     rw [List.length_take, List.length_nil] at this; omega
    have e : (((ba (buildL (l.take i)) ++ (⟨#[38]⟩ : ByteArray)) ++ ba (quoteL (bl p.f0))) ++ (⟨#[61]⟩ : ByteArray)) ++ ba (quoteL (bl p.f1)) = ba (buildL (l.take i) ++ 38 :: pairL p) := by
     apply bl_inj
     simp only [bl_append, bl_ba, show bl (⟨#[61]⟩ : ByteArray) = [61] from rfl, show bl (⟨#[38]⟩ : ByteArray) = [38] from rfl, pairL]
     simp
    rw [e]
    rw [if_neg hne] at hrec
    exact hrec
theorem ref_Build (l : List Pr) (hs : ∀ p ∈ l, psz p ≤ 1048576) (hl : l.length ≤ 1048576) : Ev (fun k => exequaturref01_Build.f k l) (ba (buildL l)) := rbuild_from l hs hl l.length 0 (by simp)

end Go.Proofs.YtmhaaggmfgojbaaDoor.X

/-! HRefP -/
namespace Go.Proofs.YtmhaaggmfgojbaaDoor.X
open Go.RowKit Go.Proofs.YtmhaaggmfgojbaaDoorW.PrintWords Go.Proofs.YtmhaaggmfgojbaaDoor.Spec
set_option linter.unusedVariables false
set_option linter.unusedSimpArgs false

/-! parts that are pairs' forms -/
theorem splitL_hit (c : UInt8) (x r : List UInt8) (h : c ∉ x) : splitL c (x ++ c :: r) = x :: splitL c r := by
 induction x with
 | nil => simp [splitL]
 | cons y x ih =>
  simp only [List.mem_cons, not_or] at h
  rw [List.cons_append, splitL, if_neg (fun e => h.1 e.symm), ih h.2]
theorem splitL_miss (c : UInt8) (x : List UInt8) (h : c ∉ x) : splitL c x = [x] := by
 rw [splitL_eq, if_neg h, pre_of_not_mem h]
theorem pre_hit (c : UInt8) (x r : List UInt8) (h : c ∉ x) : pre c (x ++ c :: r) = x := by
 induction x with
 | nil => simp [pre]
 | cons y x ih =>
  simp only [List.mem_cons, not_or] at h
  have := ih h.2
  unfold pre at *
  rw [List.cons_append, List.takeWhile_cons, if_pos (bne_iff_ne.2 (fun e => h.1 e.symm)), this]
theorem post_hit (c : UInt8) (x r : List UInt8) (h : c ∉ x) : post c (x ++ c :: r) = r := by
 induction x with
 | nil => simp [post]
 | cons y x ih =>
  simp only [List.mem_cons, not_or] at h
  have := ih h.2
  unfold post at *
  rw [List.cons_append, List.dropWhile_cons, if_pos (bne_iff_ne.2 (fun e => h.1 e.symm)), this]
theorem quote1_fin : ∀ n : Fin 256, 38 ∉ quote1 n.val.toUInt8 ∧ 61 ∉ quote1 n.val.toUInt8 := by decide +kernel
theorem quote1_no (c : UInt8) : 38 ∉ quote1 c ∧ 61 ∉ quote1 c := by
 have h := quote1_fin ⟨c.toNat, c.toNat_lt⟩
 simp only [back8] at h
 exact h
theorem quoteL_no (l : List UInt8) : 38 ∉ quoteL l ∧ 61 ∉ quoteL l := by
 constructor <;> intro h <;> obtain ⟨c, _, hc⟩ := List.mem_flatMap.1 h
 ·exact (quote1_no c).1 hc
 ·exact (quote1_no c).2 hc
theorem unq1_fin : ∀ n : Fin 256, unquoteL (quote1 n.val.toUInt8) = some [n.val.toUInt8] := by decide +kernel
theorem plain_fin2 : ∀ n : Fin 256, plainc n.val.toUInt8 = true → n.val.toUInt8 ≠ 37 ∧ n.val.toUInt8 ≠ 43 := by decide +kernel
theorem great_fin2 : ∀ n : Fin 16, digv (greatc n.val) = (n.val : Int) := by decide +kernel
theorem unq_quote1 (c : UInt8) (r : List UInt8) : unquoteL (quote1 c ++ r) = (unquoteL r).map (c :: ·) := by
 unfold quote1
 split
 ·rename_i h
  have h2 := plain_fin2 ⟨c.toNat, c.toNat_lt⟩
  simp only [back8] at h2
  have h3 := h2 h
  rw [List.singleton_append, unq_plain c r h3.1, if_neg h3.2]
 ·have h256 := c.toNat_lt
  have d1 := great_fin2 ⟨c.toNat / 16, by omega⟩
  have d2 := great_fin2 ⟨c.toNat % 16, by omega⟩
  simp only at d1 d2
  show unquoteL (37 :: greatc (c.toNat / 16) :: greatc (c.toNat % 16) :: r) = _
  rw [unq_ok _ _ _ (by omega) (by omega), d1, d2]
  have : (16 * ((c.toNat / 16 : Nat) : Int).toNat + ((c.toNat % 16 : Nat) : Int).toNat).toUInt8 = c := by
   rw [show 16 * ((c.toNat / 16 : Nat) : Int).toNat + ((c.toNat % 16 : Nat) : Int).toNat = c.toNat from by omega, back8]
  rw [this]
theorem unq_quote (l : List UInt8) : unquoteL (quoteL l) = some l := by
 induction l with
 | nil => rfl
 | cons c r ih => rw [show quoteL (c :: r) = quote1 c ++ quoteL r from by simp [quoteL], unq_quote1, ih]; rfl
theorem pairL_no (p : Pr) : 38 ∉ pairL p := by
 unfold pairL
 have h0 := (quoteL_no (bl p.f0)).1
 have h1 := (quoteL_no (bl p.f1)).1
 simp only [List.mem_append, List.mem_cons, not_or]
 exact ⟨h0, by decide, h1⟩
theorem pair1_pairL (p : Pr) : pair1 (ba (pairL p)) = some p := by
 unfold pair1
 rw [bl_ba, pairL, pre_hit _ _ _ (quoteL_no _).2, post_hit _ _ _ (quoteL_no _).2, unq_quote, unq_quote]
 simp
/-- a form's pairs, behind those that are there -/
def formL (acc : Option (List Pr)) (l : List UInt8) : Option (List Pr) := ((splitL 38 l).map ba).foldl formStep acc
theorem formOf_L (s : ByteArray) : formOf (spParts 38 s) = formL (some []) (bl s) := rfl
theorem formL_amp (acc : Option (List Pr)) (r : List UInt8) : formL acc (38 :: r) = formL acc r := by
 unfold formL
 rw [splitL, if_pos rfl, List.map_cons, List.foldl_cons]
 congr 1
theorem formL_nil (acc : Option (List Pr)) : formL acc [] = acc := by
 unfold formL
 simp [splitL, formStep]
theorem formL_hit (acc : List Pr) (x r : List UInt8) (p : Pr) (h : 38 ∉ x) (hx : x ≠ []) (hp : pair1 (ba x) = some p) : formL (some acc) (x ++ 38 :: r) = formL (some (acc ++ [p])) r := by
 unfold formL
 rw [splitL_hit _ _ _ h, List.map_cons, List.foldl_cons]
 congr 1
 unfold formStep
 rw [if_neg (by rw [size_ba]; exact fun e => hx (List.length_eq_zero_iff.1 e)), hp]; rfl
theorem formL_last (acc : List Pr) (x : List UInt8) (p : Pr) (h : 38 ∉ x) (hx : x ≠ []) (hp : pair1 (ba x) = some p) : formL (some acc) x = some (acc ++ [p]) := by
 unfold formL
 rw [splitL_miss _ _ h]
 simp only [List.map_cons, List.map_nil, List.foldl_cons, List.foldl_nil]
 unfold formStep
 rw [if_neg (by rw [size_ba]; exact fun e => hx (List.length_eq_zero_iff.1 e)), hp]; rfl
theorem pairL_ne (p : Pr) : pairL p ≠ [] := by unfold pairL; simp
theorem formL_build (l acc : List Pr) : formL (some acc) (buildL l) = some (acc ++ l) := by
 induction l generalizing acc with
 | nil => rw [show buildL [] = [] from rfl, formL_nil]; simp
 | cons p r ih =>
  cases r with
  | nil => rw [buildL_one, formL_last acc _ p (pairL_no p) (pairL_ne p) (pair1_pairL p)]
  | cons q r =>
   rw [buildL_cons, formL_hit acc _ _ p (pairL_no p) (pairL_ne p) (pair1_pairL p), ih]
   simp
theorem parse_build (l : List Pr) : pairs_Parse.f (ba (buildL l)) = some (if 4096 < (buildL l).length ∨ 64 < l.length then ([], 3) else (l, 0)) := by
 rw [parse_f, formOf_L, bl_ba, formL_build, size_ba, List.nil_append]
 unfold formFin
 by_cases h1 : 4096 < (buildL l).length <;> by_cases h2 : 64 < l.length <;> simp [h1, h2]
end Go.Proofs.YtmhaaggmfgojbaaDoor.X
