-- Lean text made by xprint.py (ours) out of the seat's translation. Lean checks it.
import Derived.Test.YtjagjfmkfiikaaaDoorX0
import Derived.Test.YtjagjfmkfiikaaaDoorX5
import Derived.Test.YtjagjfmkfiikaaaDoorX7
namespace Go.Proofs.YtjagjfmkfiikaaaDoor.X
open Go.RowKit Go.Proofs.YtjagjfmkfiikaaaDoorW.PrintWords Go.Proofs.YtjagjfmkfiikaaaDoorW.PrintLast Go.Proofs.YtjagjfmkfiikaaaDoorW.PrintMore
attribute [local go_sem] max2_int min2_int max_two min_two max_three min_three max_four min_four   -- for this text's walks alone
set_option linter.unusedVariables false
set_option linter.unusedSimpArgs false

/-! ### exequaturlaw03_UriAgain: function 5 -/
mutual
def exequaturlaw03_UriAgain.j0 : Nat → List (S25) → List (S25) → Bool → Option (Bool)
  | 0, _, _, _ => none
  | k + 1, x0, x1, x23 => if x23 = true then ((exequaturlaw03_answers.f k).bind fun t212 => (some t212)) else (exequaturlaw03_UriAgain.l0 k x0 x1 0)
def exequaturlaw03_UriAgain.l0 : Nat → List (S25) → List (S25) → Int → Option (Bool)
  | 0, _, _, _ => none
  | k + 1, x0, x1, x5 => if x5 < (x0.length : Int) then (exequaturlaw03_UriAgain.j2 k x0 x1 x5 true) else (exequaturlaw03_UriAgain.j2 k x0 x1 x5 (decide (x5 < (x1.length : Int))))
def exequaturlaw03_UriAgain.j2 : Nat → List (S25) → List (S25) → Int → Bool → Option (Bool)
  | 0, _, _, _, _ => none
  | k + 1, x0, x1, x5, x34 => if x34 = true then (if x5 < (x0.length : Int) then (if 0 ≤ x5 then (if (wrap64 ((((rd_T25 x0 x5).f0).size : Int) + (((rd_T25 x0 x5).f1).size : Int))) > 100 then ((exequaturlaw03_answers.f k).bind fun t215 => (some t215)) else (if x5 < (x1.length : Int) then (if (wrap64 ((((rd_T25 x1 x5).f0).size : Int) + (((rd_T25 x1 x5).f1).size : Int))) > 100 then ((exequaturlaw03_answers.f k).bind fun t218 => (some t218)) else (exequaturlaw03_UriAgain.l0 k x0 x1 (wrap64 (x5 + 1)))) else (exequaturlaw03_UriAgain.l0 k x0 x1 (wrap64 (x5 + 1))))) else (none)) else (if x5 < (x1.length : Int) then (if 0 ≤ x5 then (if (wrap64 ((((rd_T25 x1 x5).f0).size : Int) + (((rd_T25 x1 x5).f1).size : Int))) > 100 then ((exequaturlaw03_answers.f k).bind fun t221 => (some t221)) else (exequaturlaw03_UriAgain.l0 k x0 x1 (wrap64 (x5 + 1)))) else (none)) else (exequaturlaw03_UriAgain.l0 k x0 x1 (wrap64 (x5 + 1))))) else ((exequaturlaw03_answers.f k).bind fun t222 => (if t222 = true then ((uri_With.f k (⟨#[104, 116, 116, 112, 58, 47, 47, 97]⟩ : ByteArray) x0).bind fun t223 => ((uri_With.f k t223 x1).bind fun t224 => ((some (([] : List (S25)) : List (S25))).bind fun y225 => (if y225.length + x0.length < 4398046511104 then ((some (y225 ++ x0 : List (S25))).bind fun y228 => (if y228.length + x1.length < 4398046511104 then ((uri_With.f k (⟨#[104, 116, 116, 112, 58, 47, 47, 97]⟩ : ByteArray) (y228 ++ x1)).bind fun t234 => (some (t224.toList == t234.toList))) else (none))) else (none))))) else (some false)))
end
def exequaturlaw03_UriAgain.f (k : Nat) (l0 : List (S25)) (l1 : List (S25)) : Option (Bool) := if (l0.length : Int) = 0 then (exequaturlaw03_UriAgain.j0 k l0 l1 true) else (if (l1.length : Int) = 0 then (exequaturlaw03_UriAgain.j0 k l0 l1 true) else (if (l0.length : Int) > 20 then (exequaturlaw03_UriAgain.j0 k l0 l1 true) else (exequaturlaw03_UriAgain.j0 k l0 l1 (decide ((l1.length : Int) > 20)))))
theorem exequaturlaw03_UriAgain.mono_l : ∀ k, (∀ y0 y1 y2, LeO (exequaturlaw03_UriAgain.j0 k y0 y1 y2) (exequaturlaw03_UriAgain.j0 (k + 1) y0 y1 y2)) ∧ (∀ y0 y1 y2, LeO (exequaturlaw03_UriAgain.l0 k y0 y1 y2) (exequaturlaw03_UriAgain.l0 (k + 1) y0 y1 y2)) ∧ (∀ y0 y1 y2 y3, LeO (exequaturlaw03_UriAgain.j2 k y0 y1 y2 y3) (exequaturlaw03_UriAgain.j2 (k + 1) y0 y1 y2 y3))
  | 0 => ⟨fun _ _ _ r h => by simp [exequaturlaw03_UriAgain.j0] at h, fun _ _ _ r h => by simp [exequaturlaw03_UriAgain.l0] at h, fun _ _ _ _ r h => by simp [exequaturlaw03_UriAgain.j2] at h⟩
  | k + 1 => by
    obtain ⟨ih0, ih1, ih2⟩ := exequaturlaw03_UriAgain.mono_l k
    refine ⟨?_, ?_, ?_⟩
    · intro y0 y1 y2
      unfold exequaturlaw03_UriAgain.j0
      repeat' first
      | (with_reducible exact ih0 _ _ _)
      | (with_reducible exact ih1 _ _ _)
      | (with_reducible exact ih2 _ _ _ _)
      | (with_reducible exact exequaturlaw03_answers.mono _)
      | (with_reducible exact uri_With.mono _ _ _)
      | (with_reducible exact LeO.refl _)
      | (with_reducible exact LeO.none _)
      | (with_reducible refine LeO.ite ?_ ?_)
      | (with_reducible refine LeO.bind ?_ (fun _ => ?_))
      | exact ih0 _ _ _
      | exact ih1 _ _ _
      | exact ih2 _ _ _ _
      | exact exequaturlaw03_answers.mono _
      | exact uri_With.mono _ _ _
      | exact LeO.none _
      | refine LeO.ite ?_ ?_
      | refine LeO.bind ?_ (fun _ => ?_)
    · intro y0 y1 y2
      unfold exequaturlaw03_UriAgain.l0
      repeat' first
      | (with_reducible exact ih0 _ _ _)
      | (with_reducible exact ih1 _ _ _)
      | (with_reducible exact ih2 _ _ _ _)
      | (with_reducible exact exequaturlaw03_answers.mono _)
      | (with_reducible exact uri_With.mono _ _ _)
      | (with_reducible exact LeO.refl _)
      | (with_reducible exact LeO.none _)
      | (with_reducible refine LeO.ite ?_ ?_)
      | (with_reducible refine LeO.bind ?_ (fun _ => ?_))
      | exact ih0 _ _ _
      | exact ih1 _ _ _
      | exact ih2 _ _ _ _
      | exact exequaturlaw03_answers.mono _
      | exact uri_With.mono _ _ _
      | exact LeO.none _
      | refine LeO.ite ?_ ?_
      | refine LeO.bind ?_ (fun _ => ?_)
    · intro y0 y1 y2 y3
      unfold exequaturlaw03_UriAgain.j2
      repeat' first
      | (with_reducible exact ih0 _ _ _)
      | (with_reducible exact ih1 _ _ _)
      | (with_reducible exact ih2 _ _ _ _)
      | (with_reducible exact exequaturlaw03_answers.mono _)
      | (with_reducible exact uri_With.mono _ _ _)
      | (with_reducible exact LeO.refl _)
      | (with_reducible exact LeO.none _)
      | (with_reducible refine LeO.ite ?_ ?_)
      | (with_reducible refine LeO.bind ?_ (fun _ => ?_))
      | exact ih0 _ _ _
      | exact ih1 _ _ _
      | exact ih2 _ _ _ _
      | exact exequaturlaw03_answers.mono _
      | exact uri_With.mono _ _ _
      | exact LeO.none _
      | refine LeO.ite ?_ ?_
      | refine LeO.bind ?_ (fun _ => ?_)
theorem exequaturlaw03_UriAgain.mono : ∀ a0 a1 k, LeO (exequaturlaw03_UriAgain.f k a0 a1) (exequaturlaw03_UriAgain.f (k + 1) a0 a1) := by
  intro a0 a1 k
  obtain ⟨ih0, ih1, ih2⟩ := exequaturlaw03_UriAgain.mono_l k
  unfold exequaturlaw03_UriAgain.f
  repeat' first
      | (with_reducible exact ih0 _ _ _)
      | (with_reducible exact ih1 _ _ _)
      | (with_reducible exact ih2 _ _ _ _)
      | (with_reducible exact exequaturlaw03_answers.mono _)
      | (with_reducible exact uri_With.mono _ _ _)
      | (with_reducible exact LeO.refl _)
      | (with_reducible exact LeO.none _)
      | (with_reducible refine LeO.ite ?_ ?_)
      | (with_reducible refine LeO.bind ?_ (fun _ => ?_))
      | exact ih0 _ _ _
      | exact ih1 _ _ _
      | exact ih2 _ _ _ _
      | exact exequaturlaw03_answers.mono _
      | exact uri_With.mono _ _ _
      | exact LeO.none _
      | refine LeO.ite ?_ ?_
      | refine LeO.bind ?_ (fun _ => ?_)
set_option maxHeartbeats 8000000 in
set_option maxRecDepth 100000 in
theorem exequaturlaw03_UriAgain.calls (k : Nat) (A0 : Option Addr) (c0 : Nat) (l0 : List (S25)) (A1 : Option Addr) (c1 : Nat) (l1 : List (S25)) (r : Bool) (w : World) (hr0 : Kd.C k25 w A0 l0.length l0) (hc0 : l0.length ≤ c0) (hr1 : Kd.C k25 w A1 l1.length l1) (hc1 : l1.length ≤ c1) (h : exequaturlaw03_UriAgain.f k l0 l1 = some r) (hG : GOK w := by first | assumption | exact hG | exact GOK.drewN _ hG | exact GOK.below hG (by repeat (first | (with_reducible first | exact HB.out | apply below_alloc | apply pw_below_drewN | apply below_drew1) | exact HB.out))) :
    Calls Tryd.prog 5 #[.slice A0 l0.length c0, .slice A1 l1.length c1] w fun e w' => e = .returned (.bool r) ∧ Below w.heap.size w w' := by
  have HR0 := Aside0.mk hr0
  have HC0 := Aside0.mk hc0
  clear hr0 hc0
  have HR1 := Aside0.mk hr1
  have HC1 := Aside0.mk hc1
  clear hr1 hc1
  have HB := Aside0.mk (Below.refl w.heap.size w)
  have H : (if (l0.length : Int) = 0 then (exequaturlaw03_UriAgain.j0 k l0 l1 true) else (if (l1.length : Int) = 0 then (exequaturlaw03_UriAgain.j0 k l0 l1 true) else (if (l0.length : Int) > 20 then (exequaturlaw03_UriAgain.j0 k l0 l1 true) else (exequaturlaw03_UriAgain.j0 k l0 l1 (decide ((l1.length : Int) > 20)))))) = some r := h
  clear h
  have HC3 := Aside0.mk H
  clear H
  go_enter Tryd.func5, Tryd.ntmps5
  go_upto_region 1 with (fail)
  repeat (go_quiet (fail); go_upto_region 1 with (fail))
  go_cut [23] (fun v23 wc => ∃ (kq : Nat) (x23_2 : Bool), v23 = .bool x23_2 ∧ Aside0 (exequaturlaw03_UriAgain.j0 kq l0 l1 x23_2 = some r) ∧ Aside0 (kq ≤ k) ∧ Aside0 (Below w.heap.size w wc))
  case first =>
    have H := HC3.out
    clear HC3
    by_cases c4 : (l0.length : Int) = 0
    · rw [if_pos c4] at H
      have c4b0 : ((l0.length : Int) == 0) = true := beq_iff_eq.mpr c4
      have c4b1 : ((l0.length : Int) != 0) = false := bne_eq_false_iff_eq.mpr c4
      clear c4
      (first | rw [c4b0] | (simp only [i64_w, i32_w]; rw [c4b0]) | skip)
      have H' := Aside0.mk H
      clear H
      go_wp2
      repeat (go_quiet (fail); try go_wp2)
      go_meet
      case rel => exact ⟨_, (true), (by first | rfl | (simp; done) | (simp [*]; done) | (refine congrArg Value.bool ?_; rw [Bool.eq_iff_iff]; simp; done)), H', ⟨by first | omega | exact Nat.le_refl _⟩, ⟨by repeat (first | (with_reducible first | exact HB.out | apply below_alloc | apply pw_below_drewN | apply below_drew1) | exact HB.out)⟩⟩
    · rw [if_neg c4] at H
      have c4b0 : ((l0.length : Int) == 0) = false := beq_eq_false_iff_ne.mpr c4
      have c4b1 : ((l0.length : Int) != 0) = true := bne_iff_ne.mpr c4
      have c4b2 : ¬ (l0 = []) := fun h_ => c4 (by rw [h_]; rfl)
      (first | rw [c4b0] | (simp only [i64_w, i32_w]; rw [c4b0]) | skip)
      by_cases c5 : (l1.length : Int) = 0
      · rw [if_pos c5] at H
        have c5b0 : ((l1.length : Int) == 0) = true := beq_iff_eq.mpr c5
        have c5b1 : ((l1.length : Int) != 0) = false := bne_eq_false_iff_eq.mpr c5
        clear c5
        have H' := Aside0.mk H
        clear H
        go_wp2
        repeat (go_quiet (fail); try go_wp2)
        go_meet
        case rel => exact ⟨_, (true), (by first | rfl | (simp; done) | (simp [*]; done) | (refine congrArg Value.bool ?_; rw [Bool.eq_iff_iff]; simp; done)), H', ⟨by first | omega | exact Nat.le_refl _⟩, ⟨by repeat (first | (with_reducible first | exact HB.out | apply below_alloc | apply pw_below_drewN | apply below_drew1) | exact HB.out)⟩⟩
      · rw [if_neg c5] at H
        have c5b0 : ((l1.length : Int) == 0) = false := beq_eq_false_iff_ne.mpr c5
        have c5b1 : ((l1.length : Int) != 0) = true := bne_iff_ne.mpr c5
        have c5b2 : ¬ (l1 = []) := fun h_ => c5 (by rw [h_]; rfl)
        by_cases c6 : (l0.length : Int) > 20
        · rw [if_pos c6] at H
          have c6b0 : decide (20 < (l0.length : Int)) = true := decide_eq_true c6
          have c6b1 : decide (20 < l0.length) = true := decide_eq_true (by omega)
          clear c6
          have H' := Aside0.mk H
          clear H
          go_wp2
          repeat (go_quiet (fail); try go_wp2)
          go_meet
          case rel => exact ⟨_, (true), (by first | rfl | (simp; done) | (simp [*]; done) | (refine congrArg Value.bool ?_; rw [Bool.eq_iff_iff]; simp; done)), H', ⟨by first | omega | exact Nat.le_refl _⟩, ⟨by repeat (first | (with_reducible first | exact HB.out | apply below_alloc | apply pw_below_drewN | apply below_drew1) | exact HB.out)⟩⟩
        · rw [if_neg c6] at H
          have c6b0 : decide (20 < (l0.length : Int)) = false := decide_eq_false c6
          have c6b1 : decide (20 < l0.length) = false := decide_eq_false (by omega)
          clear c6
          have H' := Aside0.mk H
          clear H
          go_wp2
          repeat (go_quiet (fail); try go_wp2)
          go_meet
          case rel => exact ⟨_, (decide ((l1.length : Int) > 20)), (by first | rfl | (simp; done) | (simp [*]; done) | (refine congrArg Value.bool ?_; rw [Bool.eq_iff_iff]; simp; done)), H', ⟨by first | omega | exact Nat.le_refl _⟩, ⟨by repeat (first | (with_reducible first | exact HB.out | apply below_alloc | apply pw_below_drewN | apply below_drew1) | exact HB.out)⟩⟩
  case rest =>
    clear HC3
    try clear c1
    try clear p2
    try clear c4
    try clear c4b0
    try clear c4b1
    try clear c4b2
    try clear c5
    try clear c5b0
    try clear c5b1
    try clear c5b2
    try clear c6
    try clear c6b0
    try clear c6b1
    obtain ⟨kq, x23_2, rfl, HA, HJ2, HB⟩ := hcut
    cases kq with
    | zero => exact absurd HA.out (by simp [exequaturlaw03_UriAgain.j0])
    | succ kj2 =>
      have H := HA.out
      clear HA
      simp only [exequaturlaw03_UriAgain.j0] at H
      by_cases c7 : x23_2 = true
      · subst c7
        have H1 : ((exequaturlaw03_answers.f kj2).bind fun t212 => (some t212)) = some r := by rw [if_pos rfl] at H; exact H
        clear H
        have H := H1
        clear H1
        replace H := Option.bind_eq_some_iff.mp H
        obtain ⟨t212, A80, H⟩ := H
        replace H : (some t212) = some r := H
        have A8 := Aside0.mk A80
        clear A80
        obtain rfl := Option.some.inj H
        go_wp2_with (first | (go_at_call 8; (with_reducible refine (exequaturlaw03_answers.calls kj2  t212 _ A8.out).mono ?_); rintro e w9 ⟨rfl, hb⟩; have n0_ := Aside0.mk (below_step (by repeat (first | (with_reducible first | exact HB.out | apply below_alloc | apply pw_below_drewN | apply below_drew1) | exact HB.out)) hb); clear HB; have HB := n0_; clear n0_; (try clear hb); (try clear hb2); (try clear hk); (try clear hi)))
        repeat (go_quiet (first | (go_at_call 8; (with_reducible refine (exequaturlaw03_answers.calls kj2  t212 _ A8.out).mono ?_); rintro e w9 ⟨rfl, hb⟩; have n0_ := Aside0.mk (below_step (by repeat (first | (with_reducible first | exact HB.out | apply below_alloc | apply pw_below_drewN | apply below_drew1) | exact HB.out)) hb); clear HB; have HB := n0_; clear n0_; (try clear hb); (try clear hb2); (try clear hk); (try clear hi))); try go_wp2_with (first | (go_at_call 8; (with_reducible refine (exequaturlaw03_answers.calls kj2  t212 _ A8.out).mono ?_); rintro e w9 ⟨rfl, hb⟩; have n0_ := Aside0.mk (below_step (by repeat (first | (with_reducible first | exact HB.out | apply below_alloc | apply pw_below_drewN | apply below_drew1) | exact HB.out)) hb); clear HB; have HB := n0_; clear n0_; (try clear hb); (try clear hb2); (try clear hk); (try clear hi))))
        go_ret
        exact ⟨by first | rfl | (simp [errW_none, errW_some] <;> rfl) | (simp [*, errW_none, errW_some] <;> rfl), by repeat (first | (with_reducible first | exact HB.out | apply below_alloc | apply pw_below_drewN | apply below_drew1) | exact HB.out)⟩
        all_goals (first | (exfalso; simp_all <;> omega) | (go_ret; exact ⟨by first | rfl | (simp [errW_none, errW_some] <;> rfl) | (simp [*, errW_none, errW_some] <;> rfl), by repeat (first | (with_reducible first | exact HB.out | apply below_alloc | apply pw_below_drewN | apply below_drew1) | exact HB.out)⟩))
      · replace c7 := Bool.eq_false_iff.mpr c7
        subst c7
        have H1 : (exequaturlaw03_UriAgain.l0 kj2 l0 l1 0) = some r := by rw [if_neg (show ¬ (false = true) by decide)] at H; exact H
        clear H
        have H := H1
        clear H1
        have H' := Aside0.mk H
        clear H
        go_wp2
        repeat (go_quiet (fail); try go_wp2)
        go_loopg [5] kj2 (fun kq v5 w' => ∃ (x5_2 : Int), v5 = .int .i64 x5_2 ∧ Aside0 (exequaturlaw03_UriAgain.l0 kq l0 l1 x5_2 = some r) ∧ Aside0 (kq ≤ kj2) ∧ Aside0 (Below w.heap.size w w'))
        case atStart => exact ⟨(0), (by first | rfl | (simp; done) | (simp [*]; done) | (refine congrArg Value.bool ?_; rw [Bool.eq_iff_iff]; simp; done)), H', ⟨Nat.le_refl _⟩, ⟨by repeat (first | (with_reducible first | exact HB.out | apply below_alloc | apply pw_below_drewN | apply below_drew1) | exact HB.out)⟩⟩
        case round =>
          clear H'
          try clear c1
          try clear p2
          try clear c4
          try clear c4b0
          try clear c4b1
          try clear c4b2
          try clear c5
          try clear c5b0
          try clear c5b1
          try clear c5b2
          try clear c6
          try clear c6b0
          try clear c6b1
          try clear c7
          try clear p2
          obtain ⟨x5_2, rfl, HA, HK2, HB⟩ := hrel
          cases gk with
          | zero => exact absurd HA.out (by simp [exequaturlaw03_UriAgain.l0])
          | succ k2 =>
            have H := HA.out
            clear HA
            simp only [exequaturlaw03_UriAgain.l0] at H
            have HC10 := Aside0.mk H
            clear H
            go_upto_region 4 with (fail)
            repeat (go_quiet (fail); go_upto_region 4 with (fail))
            go_cut [34] (fun v34 wc => ∃ (kq : Nat) (x34_9 : Bool), v34 = .bool x34_9 ∧ Aside0 (exequaturlaw03_UriAgain.j2 kq l0 l1 x5_2 x34_9 = some r) ∧ Aside0 (kq ≤ k2) ∧ Aside0 (Below w.heap.size w wc))
            case first =>
              have H := HC10.out
              clear HC10
              by_cases c11 : x5_2 < (l0.length : Int)
              · rw [if_pos c11] at H
                have c11b0 : decide (x5_2 < (l0.length : Int)) = true := decide_eq_true c11
                clear c11
                (first | rw [c11b0] | (simp only [i64_w, i32_w]; rw [c11b0]) | skip)
                have H' := Aside0.mk H
                clear H
                go_wp2
                repeat (go_quiet (fail); try go_wp2)
                go_meet
                case rel => exact ⟨_, (true), (by first | rfl | (simp; done) | (simp [*]; done) | (refine congrArg Value.bool ?_; rw [Bool.eq_iff_iff]; simp; done)), H', ⟨by have := HJ2.out; have := HK2.out; first | omega | exact Nat.le_refl _⟩, ⟨by repeat (first | (with_reducible first | exact HB.out | apply below_alloc | apply pw_below_drewN | apply below_drew1) | exact HB.out)⟩⟩
              · rw [if_neg c11] at H
                have c11b0 : decide (x5_2 < (l0.length : Int)) = false := decide_eq_false c11
                clear c11
                (first | rw [c11b0] | (simp only [i64_w, i32_w]; rw [c11b0]) | skip)
                have H' := Aside0.mk H
                clear H
                go_wp2
                repeat (go_quiet (fail); try go_wp2)
                go_meet
                case rel => exact ⟨_, (decide (x5_2 < (l1.length : Int))), (by first | rfl | (simp; done) | (simp [*]; done) | (refine congrArg Value.bool ?_; rw [Bool.eq_iff_iff]; simp; done)), H', ⟨by have := HJ2.out; have := HK2.out; first | omega | exact Nat.le_refl _⟩, ⟨by repeat (first | (with_reducible first | exact HB.out | apply below_alloc | apply pw_below_drewN | apply below_drew1) | exact HB.out)⟩⟩
            case rest =>
              clear HC10
              try clear c1
              try clear p2
              try clear c4
              try clear c4b0
              try clear c4b1
              try clear c4b2
              try clear c5
              try clear c5b0
              try clear c5b1
              try clear c5b2
              try clear c6
              try clear c6b0
              try clear c6b1
              try clear c7
              try clear c11
              try clear c11b0
              try clear p2
              obtain ⟨kq, x34_9, rfl, HA, HJ9, HB⟩ := hcut
              cases kq with
              | zero => exact absurd HA.out (by simp [exequaturlaw03_UriAgain.j2])
              | succ kj9 =>
                have H := HA.out
                clear HA
                simp only [exequaturlaw03_UriAgain.j2] at H
                by_cases c12 : x34_9 = true
                · subst c12
                  have H1 : (if x5_2 < (l0.length : Int) then (if 0 ≤ x5_2 then (if (wrap64 ((((rd_T25 l0 x5_2).f0).size : Int) + (((rd_T25 l0 x5_2).f1).size : Int))) > 100 then ((exequaturlaw03_answers.f kj9).bind fun t215 => (some t215)) else (if x5_2 < (l1.length : Int) then (if (wrap64 ((((rd_T25 l1 x5_2).f0).size : Int) + (((rd_T25 l1 x5_2).f1).size : Int))) > 100 then ((exequaturlaw03_answers.f kj9).bind fun t218 => (some t218)) else (exequaturlaw03_UriAgain.l0 kj9 l0 l1 (wrap64 (x5_2 + 1)))) else (exequaturlaw03_UriAgain.l0 kj9 l0 l1 (wrap64 (x5_2 + 1))))) else (none)) else (if x5_2 < (l1.length : Int) then (if 0 ≤ x5_2 then (if (wrap64 ((((rd_T25 l1 x5_2).f0).size : Int) + (((rd_T25 l1 x5_2).f1).size : Int))) > 100 then ((exequaturlaw03_answers.f kj9).bind fun t221 => (some t221)) else (exequaturlaw03_UriAgain.l0 kj9 l0 l1 (wrap64 (x5_2 + 1)))) else (none)) else (exequaturlaw03_UriAgain.l0 kj9 l0 l1 (wrap64 (x5_2 + 1))))) = some r := by rw [if_pos rfl] at H; exact H
                  clear H
                  have H := H1
                  clear H1
                  by_cases c13 : x5_2 < (l0.length : Int)
                  · rw [if_pos c13] at H
                    have c13b0 : decide (x5_2 < (l0.length : Int)) = true := decide_eq_true c13
                    clear c13
                    by_cases c14 : 0 ≤ x5_2
                    · rw [if_pos c14] at H
                      have c14b0 : decide (0 ≤ x5_2) = true := decide_eq_true c14
                      clear c14
                      by_cases c15 : (wrap64 ((((rd_T25 l0 x5_2).f0).size : Int) + (((rd_T25 l0 x5_2).f1).size : Int))) > 100
                      · rw [if_pos c15] at H
                        have c15b0 : decide (100 < (wrap64 ((((rd_T25 l0 x5_2).f0).size : Int) + (((rd_T25 l0 x5_2).f1).size : Int)))) = true := decide_eq_true c15
                        clear c15
                        replace H := Option.bind_eq_some_iff.mp H
                        obtain ⟨t215, A160, H⟩ := H
                        replace H : (some t215) = some r := H
                        have A16 := Aside0.mk A160
                        clear A160
                        obtain rfl := Option.some.inj H
                        have p213 : 0 ≤ (x5_2 : Int) := of_decide_eq_true (by first | (with_reducible assumption) | assumption)
                        have q213 : x5_2 < (l0.length : Int) := of_decide_eq_true (by first | (with_reducible assumption) | assumption)
                        obtain ⟨ad213, e213, hx213_0, hx213_1⟩ := at_T25 HR0.out x5_2 p213 q213
                        cases e213
                        replace hx213_0 := (HB.out.cell (World.block_lt_of_cell? w _ hx213_0)).trans hx213_0
                        replace hx213_1 := (HB.out.cell (World.block_lt_of_cell? w _ hx213_1)).trans hx213_1
                        replace p213 := eq_true p213
                        replace q213 := eq_true q213
                        have p214 : 0 ≤ (x5_2 : Int) := of_decide_eq_true (by first | (with_reducible assumption) | assumption)
                        have q214 : x5_2 < (l0.length : Int) := of_decide_eq_true (by first | (with_reducible assumption) | assumption)
                        obtain ⟨ad214, e214, hx214_0, hx214_1⟩ := at_T25 HR0.out x5_2 p214 q214
                        obtain rfl : ad213 = ad214 := (by injection e214)
                        replace hx214_0 := (HB.out.cell (World.block_lt_of_cell? w _ hx214_0)).trans hx214_0
                        replace hx214_1 := (HB.out.cell (World.block_lt_of_cell? w _ hx214_1)).trans hx214_1
                        replace p214 := eq_true p214
                        replace q214 := eq_true q214
                        go_wp2_with (first | (go_at_call 8; (with_reducible refine (exequaturlaw03_answers.calls kj9  t215 _ A16.out).mono ?_); rintro e w17 ⟨rfl, hb⟩; have n0_ := Aside0.mk (below_step (by repeat (first | (with_reducible first | exact HB.out | apply below_alloc | apply pw_below_drewN | apply below_drew1) | exact HB.out)) hb); clear HB; have HB := n0_; clear n0_; (try clear hb); (try clear hb2); (try clear hk); (try clear hi)))
                        repeat (go_quiet (first | (go_at_call 8; (with_reducible refine (exequaturlaw03_answers.calls kj9  t215 _ A16.out).mono ?_); rintro e w17 ⟨rfl, hb⟩; have n0_ := Aside0.mk (below_step (by repeat (first | (with_reducible first | exact HB.out | apply below_alloc | apply pw_below_drewN | apply below_drew1) | exact HB.out)) hb); clear HB; have HB := n0_; clear n0_; (try clear hb); (try clear hb2); (try clear hk); (try clear hi))); try go_wp2_with (first | (go_at_call 8; (with_reducible refine (exequaturlaw03_answers.calls kj9  t215 _ A16.out).mono ?_); rintro e w17 ⟨rfl, hb⟩; have n0_ := Aside0.mk (below_step (by repeat (first | (with_reducible first | exact HB.out | apply below_alloc | apply pw_below_drewN | apply below_drew1) | exact HB.out)) hb); clear HB; have HB := n0_; clear n0_; (try clear hb); (try clear hb2); (try clear hk); (try clear hi))))
                        go_ret
                        exact ⟨by first | rfl | (simp [errW_none, errW_some] <;> rfl) | (simp [*, errW_none, errW_some] <;> rfl), by repeat (first | (with_reducible first | exact HB.out | apply below_alloc | apply pw_below_drewN | apply below_drew1) | exact HB.out)⟩
                        all_goals (first | (exfalso; simp_all <;> omega) | (go_ret; exact ⟨by first | rfl | (simp [errW_none, errW_some] <;> rfl) | (simp [*, errW_none, errW_some] <;> rfl), by repeat (first | (with_reducible first | exact HB.out | apply below_alloc | apply pw_below_drewN | apply below_drew1) | exact HB.out)⟩))
                      · rw [if_neg c15] at H
                        have c15b0 : decide (100 < (wrap64 ((((rd_T25 l0 x5_2).f0).size : Int) + (((rd_T25 l0 x5_2).f1).size : Int)))) = false := decide_eq_false c15
                        clear c15
                        by_cases c18 : x5_2 < (l1.length : Int)
                        · rw [if_pos c18] at H
                          have c18b0 : decide (x5_2 < (l1.length : Int)) = true := decide_eq_true c18
                          clear c18
                          by_cases c19 : (wrap64 ((((rd_T25 l1 x5_2).f0).size : Int) + (((rd_T25 l1 x5_2).f1).size : Int))) > 100
                          · rw [if_pos c19] at H
                            have c19b0 : decide (100 < (wrap64 ((((rd_T25 l1 x5_2).f0).size : Int) + (((rd_T25 l1 x5_2).f1).size : Int)))) = true := decide_eq_true c19
                            clear c19
                            replace H := Option.bind_eq_some_iff.mp H
                            obtain ⟨t218, A200, H⟩ := H
                            replace H : (some t218) = some r := H
                            have A20 := Aside0.mk A200
                            clear A200
                            obtain rfl := Option.some.inj H
                            have p213 : 0 ≤ (x5_2 : Int) := of_decide_eq_true (by first | (with_reducible assumption) | assumption)
                            have q213 : x5_2 < (l0.length : Int) := of_decide_eq_true (by first | (with_reducible assumption) | assumption)
                            obtain ⟨ad213, e213, hx213_0, hx213_1⟩ := at_T25 HR0.out x5_2 p213 q213
                            cases e213
                            replace hx213_0 := (HB.out.cell (World.block_lt_of_cell? w _ hx213_0)).trans hx213_0
                            replace hx213_1 := (HB.out.cell (World.block_lt_of_cell? w _ hx213_1)).trans hx213_1
                            replace p213 := eq_true p213
                            replace q213 := eq_true q213
                            have p214 : 0 ≤ (x5_2 : Int) := of_decide_eq_true (by first | (with_reducible assumption) | assumption)
                            have q214 : x5_2 < (l0.length : Int) := of_decide_eq_true (by first | (with_reducible assumption) | assumption)
                            obtain ⟨ad214, e214, hx214_0, hx214_1⟩ := at_T25 HR0.out x5_2 p214 q214
                            obtain rfl : ad213 = ad214 := (by injection e214)
                            replace hx214_0 := (HB.out.cell (World.block_lt_of_cell? w _ hx214_0)).trans hx214_0
                            replace hx214_1 := (HB.out.cell (World.block_lt_of_cell? w _ hx214_1)).trans hx214_1
                            replace p214 := eq_true p214
                            replace q214 := eq_true q214
                            have p216 : 0 ≤ (x5_2 : Int) := of_decide_eq_true (by first | (with_reducible assumption) | assumption)
                            have q216 : x5_2 < (l1.length : Int) := of_decide_eq_true (by first | (with_reducible assumption) | assumption)
                            obtain ⟨ad216, e216, hx216_0, hx216_1⟩ := at_T25 HR1.out x5_2 p216 q216
                            cases e216
                            replace hx216_0 := (HB.out.cell (World.block_lt_of_cell? w _ hx216_0)).trans hx216_0
                            replace hx216_1 := (HB.out.cell (World.block_lt_of_cell? w _ hx216_1)).trans hx216_1
                            replace p216 := eq_true p216
                            replace q216 := eq_true q216
                            have p217 : 0 ≤ (x5_2 : Int) := of_decide_eq_true (by first | (with_reducible assumption) | assumption)
                            have q217 : x5_2 < (l1.length : Int) := of_decide_eq_true (by first | (with_reducible assumption) | assumption)
                            obtain ⟨ad217, e217, hx217_0, hx217_1⟩ := at_T25 HR1.out x5_2 p217 q217
                            obtain rfl : ad216 = ad217 := (by injection e217)
                            replace hx217_0 := (HB.out.cell (World.block_lt_of_cell? w _ hx217_0)).trans hx217_0
                            replace hx217_1 := (HB.out.cell (World.block_lt_of_cell? w _ hx217_1)).trans hx217_1
                            replace p217 := eq_true p217
                            replace q217 := eq_true q217
                            go_wp2_with (first | (go_at_call 8; (with_reducible refine (exequaturlaw03_answers.calls kj9  t218 _ A20.out).mono ?_); rintro e w21 ⟨rfl, hb⟩; have n0_ := Aside0.mk (below_step (by repeat (first | (with_reducible first | exact HB.out | apply below_alloc | apply pw_below_drewN | apply below_drew1) | exact HB.out)) hb); clear HB; have HB := n0_; clear n0_; (try clear hb); (try clear hb2); (try clear hk); (try clear hi)))
                            repeat (go_quiet (first | (go_at_call 8; (with_reducible refine (exequaturlaw03_answers.calls kj9  t218 _ A20.out).mono ?_); rintro e w21 ⟨rfl, hb⟩; have n0_ := Aside0.mk (below_step (by repeat (first | (with_reducible first | exact HB.out | apply below_alloc | apply pw_below_drewN | apply below_drew1) | exact HB.out)) hb); clear HB; have HB := n0_; clear n0_; (try clear hb); (try clear hb2); (try clear hk); (try clear hi))); try go_wp2_with (first | (go_at_call 8; (with_reducible refine (exequaturlaw03_answers.calls kj9  t218 _ A20.out).mono ?_); rintro e w21 ⟨rfl, hb⟩; have n0_ := Aside0.mk (below_step (by repeat (first | (with_reducible first | exact HB.out | apply below_alloc | apply pw_below_drewN | apply below_drew1) | exact HB.out)) hb); clear HB; have HB := n0_; clear n0_; (try clear hb); (try clear hb2); (try clear hk); (try clear hi))))
                            go_ret
                            exact ⟨by first | rfl | (simp [errW_none, errW_some] <;> rfl) | (simp [*, errW_none, errW_some] <;> rfl), by repeat (first | (with_reducible first | exact HB.out | apply below_alloc | apply pw_below_drewN | apply below_drew1) | exact HB.out)⟩
                            all_goals (first | (exfalso; simp_all <;> omega) | (go_ret; exact ⟨by first | rfl | (simp [errW_none, errW_some] <;> rfl) | (simp [*, errW_none, errW_some] <;> rfl), by repeat (first | (with_reducible first | exact HB.out | apply below_alloc | apply pw_below_drewN | apply below_drew1) | exact HB.out)⟩))
                          · rw [if_neg c19] at H
                            have c19b0 : decide (100 < (wrap64 ((((rd_T25 l1 x5_2).f0).size : Int) + (((rd_T25 l1 x5_2).f1).size : Int)))) = false := decide_eq_false c19
                            clear c19
                            have H' := Aside0.mk H
                            clear H
                            have p213 : 0 ≤ (x5_2 : Int) := of_decide_eq_true (by first | (with_reducible assumption) | assumption)
                            have q213 : x5_2 < (l0.length : Int) := of_decide_eq_true (by first | (with_reducible assumption) | assumption)
                            obtain ⟨ad213, e213, hx213_0, hx213_1⟩ := at_T25 HR0.out x5_2 p213 q213
                            cases e213
                            replace hx213_0 := (HB.out.cell (World.block_lt_of_cell? w _ hx213_0)).trans hx213_0
                            replace hx213_1 := (HB.out.cell (World.block_lt_of_cell? w _ hx213_1)).trans hx213_1
                            replace p213 := eq_true p213
                            replace q213 := eq_true q213
                            have p214 : 0 ≤ (x5_2 : Int) := of_decide_eq_true (by first | (with_reducible assumption) | assumption)
                            have q214 : x5_2 < (l0.length : Int) := of_decide_eq_true (by first | (with_reducible assumption) | assumption)
                            obtain ⟨ad214, e214, hx214_0, hx214_1⟩ := at_T25 HR0.out x5_2 p214 q214
                            obtain rfl : ad213 = ad214 := (by injection e214)
                            replace hx214_0 := (HB.out.cell (World.block_lt_of_cell? w _ hx214_0)).trans hx214_0
                            replace hx214_1 := (HB.out.cell (World.block_lt_of_cell? w _ hx214_1)).trans hx214_1
                            replace p214 := eq_true p214
                            replace q214 := eq_true q214
                            have p216 : 0 ≤ (x5_2 : Int) := of_decide_eq_true (by first | (with_reducible assumption) | assumption)
                            have q216 : x5_2 < (l1.length : Int) := of_decide_eq_true (by first | (with_reducible assumption) | assumption)
                            obtain ⟨ad216, e216, hx216_0, hx216_1⟩ := at_T25 HR1.out x5_2 p216 q216
                            cases e216
                            replace hx216_0 := (HB.out.cell (World.block_lt_of_cell? w _ hx216_0)).trans hx216_0
                            replace hx216_1 := (HB.out.cell (World.block_lt_of_cell? w _ hx216_1)).trans hx216_1
                            replace p216 := eq_true p216
                            replace q216 := eq_true q216
                            have p217 : 0 ≤ (x5_2 : Int) := of_decide_eq_true (by first | (with_reducible assumption) | assumption)
                            have q217 : x5_2 < (l1.length : Int) := of_decide_eq_true (by first | (with_reducible assumption) | assumption)
                            obtain ⟨ad217, e217, hx217_0, hx217_1⟩ := at_T25 HR1.out x5_2 p217 q217
                            obtain rfl : ad216 = ad217 := (by injection e217)
                            replace hx217_0 := (HB.out.cell (World.block_lt_of_cell? w _ hx217_0)).trans hx217_0
                            replace hx217_1 := (HB.out.cell (World.block_lt_of_cell? w _ hx217_1)).trans hx217_1
                            replace p217 := eq_true p217
                            replace q217 := eq_true q217
                            go_wp2
                            repeat (go_quiet (fail); try go_wp2)
                            go_roundg kj9
                            case measure => have := HJ2.out; have := HK2.out; have := HJ9.out; omega
                            case rel => exact ⟨(wrap64 (x5_2 + 1)), (by first | rfl | (simp; done) | (simp [*]; done) | (refine congrArg Value.bool ?_; rw [Bool.eq_iff_iff]; simp; done)), H', ⟨by have := HJ2.out; have := HK2.out; have := HJ9.out; omega⟩, ⟨by repeat (first | (with_reducible first | exact HB.out | apply below_alloc | apply pw_below_drewN | apply below_drew1) | exact HB.out)⟩⟩
                        · rw [if_neg c18] at H
                          have c18b0 : decide (x5_2 < (l1.length : Int)) = false := decide_eq_false c18
                          clear c18
                          have H' := Aside0.mk H
                          clear H
                          have p213 : 0 ≤ (x5_2 : Int) := of_decide_eq_true (by first | (with_reducible assumption) | assumption)
                          have q213 : x5_2 < (l0.length : Int) := of_decide_eq_true (by first | (with_reducible assumption) | assumption)
                          obtain ⟨ad213, e213, hx213_0, hx213_1⟩ := at_T25 HR0.out x5_2 p213 q213
                          cases e213
                          replace hx213_0 := (HB.out.cell (World.block_lt_of_cell? w _ hx213_0)).trans hx213_0
                          replace hx213_1 := (HB.out.cell (World.block_lt_of_cell? w _ hx213_1)).trans hx213_1
                          replace p213 := eq_true p213
                          replace q213 := eq_true q213
                          have p214 : 0 ≤ (x5_2 : Int) := of_decide_eq_true (by first | (with_reducible assumption) | assumption)
                          have q214 : x5_2 < (l0.length : Int) := of_decide_eq_true (by first | (with_reducible assumption) | assumption)
                          obtain ⟨ad214, e214, hx214_0, hx214_1⟩ := at_T25 HR0.out x5_2 p214 q214
                          obtain rfl : ad213 = ad214 := (by injection e214)
                          replace hx214_0 := (HB.out.cell (World.block_lt_of_cell? w _ hx214_0)).trans hx214_0
                          replace hx214_1 := (HB.out.cell (World.block_lt_of_cell? w _ hx214_1)).trans hx214_1
                          replace p214 := eq_true p214
                          replace q214 := eq_true q214
                          go_wp2
                          repeat (go_quiet (fail); try go_wp2)
                          go_roundg kj9
                          case measure => have := HJ2.out; have := HK2.out; have := HJ9.out; omega
                          case rel => exact ⟨(wrap64 (x5_2 + 1)), (by first | rfl | (simp; done) | (simp [*]; done) | (refine congrArg Value.bool ?_; rw [Bool.eq_iff_iff]; simp; done)), H', ⟨by have := HJ2.out; have := HK2.out; have := HJ9.out; omega⟩, ⟨by repeat (first | (with_reducible first | exact HB.out | apply below_alloc | apply pw_below_drewN | apply below_drew1) | exact HB.out)⟩⟩
                    · rw [if_neg c14] at H
                      exact absurd H (by simp)
                  · rw [if_neg c13] at H
                    have c13b0 : decide (x5_2 < (l0.length : Int)) = false := decide_eq_false c13
                    clear c13
                    by_cases c22 : x5_2 < (l1.length : Int)
                    · rw [if_pos c22] at H
                      have c22b0 : decide (x5_2 < (l1.length : Int)) = true := decide_eq_true c22
                      clear c22
                      by_cases c23 : 0 ≤ x5_2
                      · rw [if_pos c23] at H
                        have c23b0 : decide (0 ≤ x5_2) = true := decide_eq_true c23
                        clear c23
                        by_cases c24 : (wrap64 ((((rd_T25 l1 x5_2).f0).size : Int) + (((rd_T25 l1 x5_2).f1).size : Int))) > 100
                        · rw [if_pos c24] at H
                          have c24b0 : decide (100 < (wrap64 ((((rd_T25 l1 x5_2).f0).size : Int) + (((rd_T25 l1 x5_2).f1).size : Int)))) = true := decide_eq_true c24
                          clear c24
                          replace H := Option.bind_eq_some_iff.mp H
                          obtain ⟨t221, A250, H⟩ := H
                          replace H : (some t221) = some r := H
                          have A25 := Aside0.mk A250
                          clear A250
                          obtain rfl := Option.some.inj H
                          have p219 : 0 ≤ (x5_2 : Int) := of_decide_eq_true (by first | (with_reducible assumption) | assumption)
                          have q219 : x5_2 < (l1.length : Int) := of_decide_eq_true (by first | (with_reducible assumption) | assumption)
                          obtain ⟨ad219, e219, hx219_0, hx219_1⟩ := at_T25 HR1.out x5_2 p219 q219
                          cases e219
                          replace hx219_0 := (HB.out.cell (World.block_lt_of_cell? w _ hx219_0)).trans hx219_0
                          replace hx219_1 := (HB.out.cell (World.block_lt_of_cell? w _ hx219_1)).trans hx219_1
                          replace p219 := eq_true p219
                          replace q219 := eq_true q219
                          have p220 : 0 ≤ (x5_2 : Int) := of_decide_eq_true (by first | (with_reducible assumption) | assumption)
                          have q220 : x5_2 < (l1.length : Int) := of_decide_eq_true (by first | (with_reducible assumption) | assumption)
                          obtain ⟨ad220, e220, hx220_0, hx220_1⟩ := at_T25 HR1.out x5_2 p220 q220
                          obtain rfl : ad219 = ad220 := (by injection e220)
                          replace hx220_0 := (HB.out.cell (World.block_lt_of_cell? w _ hx220_0)).trans hx220_0
                          replace hx220_1 := (HB.out.cell (World.block_lt_of_cell? w _ hx220_1)).trans hx220_1
                          replace p220 := eq_true p220
                          replace q220 := eq_true q220
                          go_wp2_with (first | (go_at_call 8; (with_reducible refine (exequaturlaw03_answers.calls kj9  t221 _ A25.out).mono ?_); rintro e w26 ⟨rfl, hb⟩; have n0_ := Aside0.mk (below_step (by repeat (first | (with_reducible first | exact HB.out | apply below_alloc | apply pw_below_drewN | apply below_drew1) | exact HB.out)) hb); clear HB; have HB := n0_; clear n0_; (try clear hb); (try clear hb2); (try clear hk); (try clear hi)))
                          repeat (go_quiet (first | (go_at_call 8; (with_reducible refine (exequaturlaw03_answers.calls kj9  t221 _ A25.out).mono ?_); rintro e w26 ⟨rfl, hb⟩; have n0_ := Aside0.mk (below_step (by repeat (first | (with_reducible first | exact HB.out | apply below_alloc | apply pw_below_drewN | apply below_drew1) | exact HB.out)) hb); clear HB; have HB := n0_; clear n0_; (try clear hb); (try clear hb2); (try clear hk); (try clear hi))); try go_wp2_with (first | (go_at_call 8; (with_reducible refine (exequaturlaw03_answers.calls kj9  t221 _ A25.out).mono ?_); rintro e w26 ⟨rfl, hb⟩; have n0_ := Aside0.mk (below_step (by repeat (first | (with_reducible first | exact HB.out | apply below_alloc | apply pw_below_drewN | apply below_drew1) | exact HB.out)) hb); clear HB; have HB := n0_; clear n0_; (try clear hb); (try clear hb2); (try clear hk); (try clear hi))))
                          go_ret
                          exact ⟨by first | rfl | (simp [errW_none, errW_some] <;> rfl) | (simp [*, errW_none, errW_some] <;> rfl), by repeat (first | (with_reducible first | exact HB.out | apply below_alloc | apply pw_below_drewN | apply below_drew1) | exact HB.out)⟩
                          all_goals (first | (exfalso; simp_all <;> omega) | (go_ret; exact ⟨by first | rfl | (simp [errW_none, errW_some] <;> rfl) | (simp [*, errW_none, errW_some] <;> rfl), by repeat (first | (with_reducible first | exact HB.out | apply below_alloc | apply pw_below_drewN | apply below_drew1) | exact HB.out)⟩))
                        · rw [if_neg c24] at H
                          have c24b0 : decide (100 < (wrap64 ((((rd_T25 l1 x5_2).f0).size : Int) + (((rd_T25 l1 x5_2).f1).size : Int)))) = false := decide_eq_false c24
                          clear c24
                          have H' := Aside0.mk H
                          clear H
                          have p219 : 0 ≤ (x5_2 : Int) := of_decide_eq_true (by first | (with_reducible assumption) | assumption)
                          have q219 : x5_2 < (l1.length : Int) := of_decide_eq_true (by first | (with_reducible assumption) | assumption)
                          obtain ⟨ad219, e219, hx219_0, hx219_1⟩ := at_T25 HR1.out x5_2 p219 q219
                          cases e219
                          replace hx219_0 := (HB.out.cell (World.block_lt_of_cell? w _ hx219_0)).trans hx219_0
                          replace hx219_1 := (HB.out.cell (World.block_lt_of_cell? w _ hx219_1)).trans hx219_1
                          replace p219 := eq_true p219
                          replace q219 := eq_true q219
                          have p220 : 0 ≤ (x5_2 : Int) := of_decide_eq_true (by first | (with_reducible assumption) | assumption)
                          have q220 : x5_2 < (l1.length : Int) := of_decide_eq_true (by first | (with_reducible assumption) | assumption)
                          obtain ⟨ad220, e220, hx220_0, hx220_1⟩ := at_T25 HR1.out x5_2 p220 q220
                          obtain rfl : ad219 = ad220 := (by injection e220)
                          replace hx220_0 := (HB.out.cell (World.block_lt_of_cell? w _ hx220_0)).trans hx220_0
                          replace hx220_1 := (HB.out.cell (World.block_lt_of_cell? w _ hx220_1)).trans hx220_1
                          replace p220 := eq_true p220
                          replace q220 := eq_true q220
                          go_wp2
                          repeat (go_quiet (fail); try go_wp2)
                          go_roundg kj9
                          case measure => have := HJ2.out; have := HK2.out; have := HJ9.out; omega
                          case rel => exact ⟨(wrap64 (x5_2 + 1)), (by first | rfl | (simp; done) | (simp [*]; done) | (refine congrArg Value.bool ?_; rw [Bool.eq_iff_iff]; simp; done)), H', ⟨by have := HJ2.out; have := HK2.out; have := HJ9.out; omega⟩, ⟨by repeat (first | (with_reducible first | exact HB.out | apply below_alloc | apply pw_below_drewN | apply below_drew1) | exact HB.out)⟩⟩
                      · rw [if_neg c23] at H
                        exact absurd H (by simp)
                    · rw [if_neg c22] at H
                      have c22b0 : decide (x5_2 < (l1.length : Int)) = false := decide_eq_false c22
                      clear c22
                      have H' := Aside0.mk H
                      clear H
                      go_wp2
                      repeat (go_quiet (fail); try go_wp2)
                      go_roundg kj9
                      case measure => have := HJ2.out; have := HK2.out; have := HJ9.out; omega
                      case rel => exact ⟨(wrap64 (x5_2 + 1)), (by first | rfl | (simp; done) | (simp [*]; done) | (refine congrArg Value.bool ?_; rw [Bool.eq_iff_iff]; simp; done)), H', ⟨by have := HJ2.out; have := HK2.out; have := HJ9.out; omega⟩, ⟨by repeat (first | (with_reducible first | exact HB.out | apply below_alloc | apply pw_below_drewN | apply below_drew1) | exact HB.out)⟩⟩
                · replace c12 := Bool.eq_false_iff.mpr c12
                  subst c12
                  have H1 : ((exequaturlaw03_answers.f kj9).bind fun t222 => (if t222 = true then ((uri_With.f kj9 (⟨#[104, 116, 116, 112, 58, 47, 47, 97]⟩ : ByteArray) l0).bind fun t223 => ((uri_With.f kj9 t223 l1).bind fun t224 => ((some (([] : List (S25)) : List (S25))).bind fun y225 => (if y225.length + l0.length < 4398046511104 then ((some (y225 ++ l0 : List (S25))).bind fun y228 => (if y228.length + l1.length < 4398046511104 then ((uri_With.f kj9 (⟨#[104, 116, 116, 112, 58, 47, 47, 97]⟩ : ByteArray) (y228 ++ l1)).bind fun t234 => (some (t224.toList == t234.toList))) else (none))) else (none))))) else (some false))) = some r := by rw [if_neg (show ¬ (false = true) by decide)] at H; exact H
                  clear H
                  have H := H1
                  clear H1
                  replace H := Option.bind_eq_some_iff.mp H
                  obtain ⟨t222, A270, H⟩ := H
                  replace H : (if t222 = true then ((uri_With.f kj9 (⟨#[104, 116, 116, 112, 58, 47, 47, 97]⟩ : ByteArray) l0).bind fun t223 => ((uri_With.f kj9 t223 l1).bind fun t224 => ((some (([] : List (S25)) : List (S25))).bind fun y225 => (if y225.length + l0.length < 4398046511104 then ((some (y225 ++ l0 : List (S25))).bind fun y228 => (if y228.length + l1.length < 4398046511104 then ((uri_With.f kj9 (⟨#[104, 116, 116, 112, 58, 47, 47, 97]⟩ : ByteArray) (y228 ++ l1)).bind fun t234 => (some (t224.toList == t234.toList))) else (none))) else (none))))) else (some false)) = some r := H
                  have A27 := Aside0.mk A270
                  clear A270
                  by_cases c28 : t222 = true
                  · subst c28
                    have H1 : ((uri_With.f kj9 (⟨#[104, 116, 116, 112, 58, 47, 47, 97]⟩ : ByteArray) l0).bind fun t223 => ((uri_With.f kj9 t223 l1).bind fun t224 => ((some (([] : List (S25)) : List (S25))).bind fun y225 => (if y225.length + l0.length < 4398046511104 then ((some (y225 ++ l0 : List (S25))).bind fun y228 => (if y228.length + l1.length < 4398046511104 then ((uri_With.f kj9 (⟨#[104, 116, 116, 112, 58, 47, 47, 97]⟩ : ByteArray) (y228 ++ l1)).bind fun t234 => (some (t224.toList == t234.toList))) else (none))) else (none))))) = some r := by rw [if_pos rfl] at H; exact H
                    clear H
                    have H := H1
                    clear H1
                    replace H := Option.bind_eq_some_iff.mp H
                    obtain ⟨t223, A290, H⟩ := H
                    replace H : ((uri_With.f kj9 t223 l1).bind fun t224 => ((some (([] : List (S25)) : List (S25))).bind fun y225 => (if y225.length + l0.length < 4398046511104 then ((some (y225 ++ l0 : List (S25))).bind fun y228 => (if y228.length + l1.length < 4398046511104 then ((uri_With.f kj9 (⟨#[104, 116, 116, 112, 58, 47, 47, 97]⟩ : ByteArray) (y228 ++ l1)).bind fun t234 => (some (t224.toList == t234.toList))) else (none))) else (none)))) = some r := H
                    have A29 := Aside0.mk A290
                    clear A290
                    replace H := Option.bind_eq_some_iff.mp H
                    obtain ⟨t224, A300, H⟩ := H
                    replace H : ((some (([] : List (S25)) : List (S25))).bind fun y225 => (if y225.length + l0.length < 4398046511104 then ((some (y225 ++ l0 : List (S25))).bind fun y228 => (if y228.length + l1.length < 4398046511104 then ((uri_With.f kj9 (⟨#[104, 116, 116, 112, 58, 47, 47, 97]⟩ : ByteArray) (y228 ++ l1)).bind fun t234 => (some (t224.toList == t234.toList))) else (none))) else (none))) = some r := H
                    have A30 := Aside0.mk A300
                    clear A300
                    obtain ⟨y225, hy225⟩ : ∃ y_ : List (S25), y_ = (([] : List (S25))) := ⟨_, rfl⟩
                    replace H : (if y225.length + l0.length < 4398046511104 then ((some (y225 ++ l0 : List (S25))).bind fun y228 => (if y228.length + l1.length < 4398046511104 then ((uri_With.f kj9 (⟨#[104, 116, 116, 112, 58, 47, 47, 97]⟩ : ByteArray) (y228 ++ l1)).bind fun t234 => (some (t224.toList == t234.toList))) else (none))) else (none)) = some r := by first | (rw [hy225]; with_reducible exact H) | (have H2_ := (Option.bind_some _ _).symm.trans H; rw [hy225]; with_reducible exact H2_) | (have H2_ := (Option.bind_some _ _).symm.trans H; with_reducible exact H2_) | with_reducible exact H | (rw [hy225]; exact H) | exact H
                    have Ny225 := Aside0.mk hy225
                    clear hy225
                    by_cases c31 : y225.length + l0.length < 4398046511104
                    · rw [if_pos c31] at H
                      have LMc31 := Aside0.mk c31
                      clear c31
                      obtain ⟨y228, hy228⟩ : ∃ y_ : List (S25), y_ = (y225 ++ l0) := ⟨_, rfl⟩
                      replace H : (if y228.length + l1.length < 4398046511104 then ((uri_With.f kj9 (⟨#[104, 116, 116, 112, 58, 47, 47, 97]⟩ : ByteArray) (y228 ++ l1)).bind fun t234 => (some (t224.toList == t234.toList))) else (none)) = some r := by first | (rw [hy228]; with_reducible exact H) | (have H2_ := (Option.bind_some _ _).symm.trans H; rw [hy228]; with_reducible exact H2_) | (have H2_ := (Option.bind_some _ _).symm.trans H; with_reducible exact H2_) | with_reducible exact H | (rw [hy228]; exact H) | exact H
                      have Ny228 := Aside0.mk hy228
                      clear hy228
                      by_cases c32 : y228.length + l1.length < 4398046511104
                      · rw [if_pos c32] at H
                        have LMc32 := Aside0.mk c32
                        clear c32
                        obtain ⟨y231, hy231⟩ : ∃ y_ : List (S25), y_ = (y228 ++ l1) := ⟨_, rfl⟩
                        replace H : ((uri_With.f kj9 (⟨#[104, 116, 116, 112, 58, 47, 47, 97]⟩ : ByteArray) y231).bind fun t234 => (some (t224.toList == t234.toList))) = some r := by first | (rw [hy231]; with_reducible exact H) | (have H2_ := (Option.bind_some _ _).symm.trans H; rw [hy231]; with_reducible exact H2_) | (have H2_ := (Option.bind_some _ _).symm.trans H; with_reducible exact H2_) | with_reducible exact H | (rw [hy231]; exact H) | exact H
                        have Ny231 := Aside0.mk hy231
                        clear hy231
                        replace H := Option.bind_eq_some_iff.mp H
                        obtain ⟨t234, A330, H⟩ := H
                        replace H : (some (t224.toList == t234.toList)) = some r := H
                        have A33 := Aside0.mk A330
                        clear A330
                        obtain rfl := Option.some.inj H
                        go_wp2_with (first | (go_at_call 8; (with_reducible refine (exequaturlaw03_answers.calls kj9  true _ A27.out).mono ?_); rintro e w34 ⟨rfl, hb⟩; have n0_ := Aside0.mk (below_step (by repeat (first | (with_reducible first | exact HB.out | apply below_alloc | apply pw_below_drewN | apply below_drew1) | exact HB.out)) hb); clear HB; have HB := n0_; clear n0_; (try clear hb); (try clear hb2); (try clear hk); (try clear hi)) | (go_at_call 9; (with_reducible refine (uri_With.calls kj9 (⟨#[104, 116, 116, 112, 58, 47, 47, 97]⟩ : ByteArray) _ _ l0 t223 _ ?side1 ?side2 A29.out).mono ?_); (case side1 => repeat (first | exact (Kd.C_below HR0.out HB.out) | (with_reducible refine Kd.C_alloc ?_ _) | (with_reducible refine Kd.C_drewN ?_ _) | (with_reducible refine Kd.C_drew ?_))); (case side2 => exact HC0.out); rintro e w35 ⟨rfl, hb⟩; have n0_ := Aside0.mk (below_step (by repeat (first | (with_reducible first | exact HB.out | apply below_alloc | apply pw_below_drewN | apply below_drew1) | exact HB.out)) hb); clear HB; have HB := n0_; clear n0_; (try clear hb); (try clear hb2); (try clear hk); (try clear hi)) | (go_at_call 9; (with_reducible refine (uri_With.calls kj9 t223 _ _ l1 t224 _ ?side1 ?side2 A30.out).mono ?_); (case side1 => repeat (first | exact (Kd.C_below HR1.out HB.out) | (with_reducible refine Kd.C_alloc ?_ _) | (with_reducible refine Kd.C_drewN ?_ _) | (with_reducible refine Kd.C_drew ?_))); (case side2 => exact HC1.out); rintro e w36 ⟨rfl, hb⟩; have n0_ := Aside0.mk (below_step (by repeat (first | (with_reducible first | exact HB.out | apply below_alloc | apply pw_below_drewN | apply below_drew1) | exact HB.out)) hb); clear HB; have HB := n0_; clear n0_; (try clear hb); (try clear hb2); (try clear hk); (try clear hi)) | ((with_reducible refine gate_dst (N := 86) rfl ?_); (try (refine gate_guard (by rfl) ?_; dsimp only)); refine Kd.R_lit k25 _ 25 ?hg (N := 86) ?hd (xs := ([] : List (S25))) (inner := []) (ok := fun _ => True) (okp := fun _ => True) ?hr ?hp (fun _ hk => hk) trivial (Below.refl _ _) (Nat.le_refl _) (by simp) ?_; (case hd => rfl); (case hg => rfl); (case hr => first | (go_simp; done) | (go_simp; rfl)); (case hp => exact (Reps.none _ _)); intro v226 w37 ho38 hb hg_ hnew_; clear hg_ hnew_; (first | rw [← Ny225.out] at ho38 | (simp only [Int.reduceToNat] at ho38; rw [← Ny225.out] at ho38)); have n0_ := Aside0.mk (Kd.R_lower ho38 (below_size (by repeat (first | (with_reducible first | exact HB.out | apply below_alloc | apply pw_below_drewN | apply below_drew1) | exact HB.out)))); have n1_ := Aside0.mk (below_step (by repeat (first | (with_reducible first | exact HB.out | apply below_alloc | apply pw_below_drewN | apply below_drew1) | exact HB.out)) hb); clear HB; have HO227 := n0_; have HB := n1_; clear n0_ n1_; clear hb ho38) | ((with_reducible refine gate_builtin (b := .append) (xs := #[.tmp 86, .tmp 87]) rfl ?_); (try (refine gate_guard (by rfl) ?_; dsimp only)); at_builtin; refine Kd.R_append_rows k25 (w0 := w) w.heap.size rfl (.tmp 86) (.tmp 87) 22 25 (.agg #[(.string ⟨#[]⟩), (.string ⟨#[]⟩)]) 32 rfl Tryd.underlying22 info25 rfl (by decide) (by omega) v226 y225 l0 _ _ _ (fun _ => True) (fun _ => False) rfl rfl ?aO ?aR (fun _ _ h => h) (fun _ h => h.elim) ?aF ?aB ?aS ?aL ?_; (case aR => repeat (first | exact (Kd.C_below HR0.out HB.out) | (with_reducible refine Kd.C_alloc ?_ _) | (with_reducible refine Kd.C_drewN ?_ _) | (with_reducible refine Kd.C_drew ?_))); (case aB => exact (by repeat (first | (with_reducible first | exact HB.out | apply below_alloc | apply pw_below_drewN | apply below_drew1) | exact HB.out))); (case aF => exact (fun _ _ => trivial)); (case aO => exact (by (with_reducible repeat (first | apply Kd.R_alloc | apply Kd.R_drewN | apply Kd.R_drew)); exact HO227.out)); (case aS => exact (below_size (by repeat (first | (with_reducible first | exact HB.out | apply below_alloc | apply pw_below_drewN | apply below_drew1) | exact HB.out)))); (case aL => have := LMc31.out; omega); intro v229 w39 ho hb hg hat; rw [← Ny228.out] at ho; have n0_ := Aside0.mk (hb); have n1_ := Aside0.mk (ho); clear HB; clear HO227; have HB := n0_; have HO230 := n1_; clear n0_ n1_; clear ho hb hg hat) | ((with_reducible refine gate_builtin (b := .append) (xs := #[.tmp 88, .tmp 89]) rfl ?_); (try (refine gate_guard (by rfl) ?_; dsimp only)); at_builtin; refine Kd.R_append_rows k25 (w0 := w) w.heap.size rfl (.tmp 88) (.tmp 89) 22 25 (.agg #[(.string ⟨#[]⟩), (.string ⟨#[]⟩)]) 32 rfl Tryd.underlying22 info25 rfl (by decide) (by omega) v229 y228 l1 _ _ _ (fun _ => True) (fun _ => False) rfl rfl ?aO ?aR (fun _ _ h => h) (fun _ h => h.elim) ?aF ?aB ?aS ?aL ?_; (case aR => repeat (first | exact (Kd.C_below HR1.out HB.out) | (with_reducible refine Kd.C_alloc ?_ _) | (with_reducible refine Kd.C_drewN ?_ _) | (with_reducible refine Kd.C_drew ?_))); (case aB => exact (by repeat (first | (with_reducible first | exact HB.out | apply below_alloc | apply pw_below_drewN | apply below_drew1) | exact HB.out))); (case aF => exact (fun _ _ => trivial)); (case aO => exact (by (with_reducible repeat (first | apply Kd.R_alloc | apply Kd.R_drewN | apply Kd.R_drew)); exact HO230.out)); (case aS => exact (below_size (by repeat (first | (with_reducible first | exact HB.out | apply below_alloc | apply pw_below_drewN | apply below_drew1) | exact HB.out)))); (case aL => have := LMc32.out; omega); intro v232 w40 ho hb hg hat; rw [← Ny231.out] at ho; have n0_ := Aside0.mk (hb); have n1_ := Aside0.mk (ho); clear HB; clear HO230; have HB := n0_; have HO233 := n1_; clear n0_ n1_; clear ho hb hg hat; obtain ⟨Ao41, co41, eo41⟩ := Kd.R_slice HO233.out; subst eo41) | (go_at_call 9; (with_reducible refine (uri_With.calls kj9 (⟨#[104, 116, 116, 112, 58, 47, 47, 97]⟩ : ByteArray) _ _ y231 t234 _ ?side1 ?side2 A33.out).mono ?_); (case side1 => repeat (first | exact (Kd.R_reads' HO233.out).2.2 | (with_reducible refine Kd.C_alloc ?_ _) | (with_reducible refine Kd.C_drewN ?_ _) | (with_reducible refine Kd.C_drew ?_))); (case side2 => exact (Kd.R_reads' HO233.out).2.1); rintro e w42 ⟨rfl, hb⟩; have n0_ := Aside0.mk (Kd.R_below (by (with_reducible repeat (first | apply Kd.R_alloc | apply Kd.R_drewN | apply Kd.R_drew)); exact HO233.out) hb); have n1_ := Aside0.mk (below_step (by repeat (first | (with_reducible first | exact HB.out | apply below_alloc | apply pw_below_drewN | apply below_drew1) | exact HB.out)) hb); clear HO233; clear HB; have HO233 := n0_; have HB := n1_; clear n0_ n1_; (try clear hb); (try clear hb2); (try clear hk); (try clear hi)))
                        repeat (go_quiet (first | (go_at_call 8; (with_reducible refine (exequaturlaw03_answers.calls kj9  true _ A27.out).mono ?_); rintro e w34 ⟨rfl, hb⟩; have n0_ := Aside0.mk (below_step (by repeat (first | (with_reducible first | exact HB.out | apply below_alloc | apply pw_below_drewN | apply below_drew1) | exact HB.out)) hb); clear HB; have HB := n0_; clear n0_; (try clear hb); (try clear hb2); (try clear hk); (try clear hi)) | (go_at_call 9; (with_reducible refine (uri_With.calls kj9 (⟨#[104, 116, 116, 112, 58, 47, 47, 97]⟩ : ByteArray) _ _ l0 t223 _ ?side1 ?side2 A29.out).mono ?_); (case side1 => repeat (first | exact (Kd.C_below HR0.out HB.out) | (with_reducible refine Kd.C_alloc ?_ _) | (with_reducible refine Kd.C_drewN ?_ _) | (with_reducible refine Kd.C_drew ?_))); (case side2 => exact HC0.out); rintro e w35 ⟨rfl, hb⟩; have n0_ := Aside0.mk (below_step (by repeat (first | (with_reducible first | exact HB.out | apply below_alloc | apply pw_below_drewN | apply below_drew1) | exact HB.out)) hb); clear HB; have HB := n0_; clear n0_; (try clear hb); (try clear hb2); (try clear hk); (try clear hi)) | (go_at_call 9; (with_reducible refine (uri_With.calls kj9 t223 _ _ l1 t224 _ ?side1 ?side2 A30.out).mono ?_); (case side1 => repeat (first | exact (Kd.C_below HR1.out HB.out) | (with_reducible refine Kd.C_alloc ?_ _) | (with_reducible refine Kd.C_drewN ?_ _) | (with_reducible refine Kd.C_drew ?_))); (case side2 => exact HC1.out); rintro e w36 ⟨rfl, hb⟩; have n0_ := Aside0.mk (below_step (by repeat (first | (with_reducible first | exact HB.out | apply below_alloc | apply pw_below_drewN | apply below_drew1) | exact HB.out)) hb); clear HB; have HB := n0_; clear n0_; (try clear hb); (try clear hb2); (try clear hk); (try clear hi)) | ((with_reducible refine gate_dst (N := 86) rfl ?_); (try (refine gate_guard (by rfl) ?_; dsimp only)); refine Kd.R_lit k25 _ 25 ?hg (N := 86) ?hd (xs := ([] : List (S25))) (inner := []) (ok := fun _ => True) (okp := fun _ => True) ?hr ?hp (fun _ hk => hk) trivial (Below.refl _ _) (Nat.le_refl _) (by simp) ?_; (case hd => rfl); (case hg => rfl); (case hr => first | (go_simp; done) | (go_simp; rfl)); (case hp => exact (Reps.none _ _)); intro v226 w37 ho38 hb hg_ hnew_; clear hg_ hnew_; (first | rw [← Ny225.out] at ho38 | (simp only [Int.reduceToNat] at ho38; rw [← Ny225.out] at ho38)); have n0_ := Aside0.mk (Kd.R_lower ho38 (below_size (by repeat (first | (with_reducible first | exact HB.out | apply below_alloc | apply pw_below_drewN | apply below_drew1) | exact HB.out)))); have n1_ := Aside0.mk (below_step (by repeat (first | (with_reducible first | exact HB.out | apply below_alloc | apply pw_below_drewN | apply below_drew1) | exact HB.out)) hb); clear HB; have HO227 := n0_; have HB := n1_; clear n0_ n1_; clear hb ho38) | ((with_reducible refine gate_builtin (b := .append) (xs := #[.tmp 86, .tmp 87]) rfl ?_); (try (refine gate_guard (by rfl) ?_; dsimp only)); at_builtin; refine Kd.R_append_rows k25 (w0 := w) w.heap.size rfl (.tmp 86) (.tmp 87) 22 25 (.agg #[(.string ⟨#[]⟩), (.string ⟨#[]⟩)]) 32 rfl Tryd.underlying22 info25 rfl (by decide) (by omega) v226 y225 l0 _ _ _ (fun _ => True) (fun _ => False) rfl rfl ?aO ?aR (fun _ _ h => h) (fun _ h => h.elim) ?aF ?aB ?aS ?aL ?_; (case aR => repeat (first | exact (Kd.C_below HR0.out HB.out) | (with_reducible refine Kd.C_alloc ?_ _) | (with_reducible refine Kd.C_drewN ?_ _) | (with_reducible refine Kd.C_drew ?_))); (case aB => exact (by repeat (first | (with_reducible first | exact HB.out | apply below_alloc | apply pw_below_drewN | apply below_drew1) | exact HB.out))); (case aF => exact (fun _ _ => trivial)); (case aO => exact (by (with_reducible repeat (first | apply Kd.R_alloc | apply Kd.R_drewN | apply Kd.R_drew)); exact HO227.out)); (case aS => exact (below_size (by repeat (first | (with_reducible first | exact HB.out | apply below_alloc | apply pw_below_drewN | apply below_drew1) | exact HB.out)))); (case aL => have := LMc31.out; omega); intro v229 w39 ho hb hg hat; rw [← Ny228.out] at ho; have n0_ := Aside0.mk (hb); have n1_ := Aside0.mk (ho); clear HB; clear HO227; have HB := n0_; have HO230 := n1_; clear n0_ n1_; clear ho hb hg hat) | ((with_reducible refine gate_builtin (b := .append) (xs := #[.tmp 88, .tmp 89]) rfl ?_); (try (refine gate_guard (by rfl) ?_; dsimp only)); at_builtin; refine Kd.R_append_rows k25 (w0 := w) w.heap.size rfl (.tmp 88) (.tmp 89) 22 25 (.agg #[(.string ⟨#[]⟩), (.string ⟨#[]⟩)]) 32 rfl Tryd.underlying22 info25 rfl (by decide) (by omega) v229 y228 l1 _ _ _ (fun _ => True) (fun _ => False) rfl rfl ?aO ?aR (fun _ _ h => h) (fun _ h => h.elim) ?aF ?aB ?aS ?aL ?_; (case aR => repeat (first | exact (Kd.C_below HR1.out HB.out) | (with_reducible refine Kd.C_alloc ?_ _) | (with_reducible refine Kd.C_drewN ?_ _) | (with_reducible refine Kd.C_drew ?_))); (case aB => exact (by repeat (first | (with_reducible first | exact HB.out | apply below_alloc | apply pw_below_drewN | apply below_drew1) | exact HB.out))); (case aF => exact (fun _ _ => trivial)); (case aO => exact (by (with_reducible repeat (first | apply Kd.R_alloc | apply Kd.R_drewN | apply Kd.R_drew)); exact HO230.out)); (case aS => exact (below_size (by repeat (first | (with_reducible first | exact HB.out | apply below_alloc | apply pw_below_drewN | apply below_drew1) | exact HB.out)))); (case aL => have := LMc32.out; omega); intro v232 w40 ho hb hg hat; rw [← Ny231.out] at ho; have n0_ := Aside0.mk (hb); have n1_ := Aside0.mk (ho); clear HB; clear HO230; have HB := n0_; have HO233 := n1_; clear n0_ n1_; clear ho hb hg hat; obtain ⟨Ao41, co41, eo41⟩ := Kd.R_slice HO233.out; subst eo41) | (go_at_call 9; (with_reducible refine (uri_With.calls kj9 (⟨#[104, 116, 116, 112, 58, 47, 47, 97]⟩ : ByteArray) _ _ y231 t234 _ ?side1 ?side2 A33.out).mono ?_); (case side1 => repeat (first | exact (Kd.R_reads' HO233.out).2.2 | (with_reducible refine Kd.C_alloc ?_ _) | (with_reducible refine Kd.C_drewN ?_ _) | (with_reducible refine Kd.C_drew ?_))); (case side2 => exact (Kd.R_reads' HO233.out).2.1); rintro e w42 ⟨rfl, hb⟩; have n0_ := Aside0.mk (Kd.R_below (by (with_reducible repeat (first | apply Kd.R_alloc | apply Kd.R_drewN | apply Kd.R_drew)); exact HO233.out) hb); have n1_ := Aside0.mk (below_step (by repeat (first | (with_reducible first | exact HB.out | apply below_alloc | apply pw_below_drewN | apply below_drew1) | exact HB.out)) hb); clear HO233; clear HB; have HO233 := n0_; have HB := n1_; clear n0_ n1_; (try clear hb); (try clear hb2); (try clear hk); (try clear hi))); try go_wp2_with (first | (go_at_call 8; (with_reducible refine (exequaturlaw03_answers.calls kj9  true _ A27.out).mono ?_); rintro e w34 ⟨rfl, hb⟩; have n0_ := Aside0.mk (below_step (by repeat (first | (with_reducible first | exact HB.out | apply below_alloc | apply pw_below_drewN | apply below_drew1) | exact HB.out)) hb); clear HB; have HB := n0_; clear n0_; (try clear hb); (try clear hb2); (try clear hk); (try clear hi)) | (go_at_call 9; (with_reducible refine (uri_With.calls kj9 (⟨#[104, 116, 116, 112, 58, 47, 47, 97]⟩ : ByteArray) _ _ l0 t223 _ ?side1 ?side2 A29.out).mono ?_); (case side1 => repeat (first | exact (Kd.C_below HR0.out HB.out) | (with_reducible refine Kd.C_alloc ?_ _) | (with_reducible refine Kd.C_drewN ?_ _) | (with_reducible refine Kd.C_drew ?_))); (case side2 => exact HC0.out); rintro e w35 ⟨rfl, hb⟩; have n0_ := Aside0.mk (below_step (by repeat (first | (with_reducible first | exact HB.out | apply below_alloc | apply pw_below_drewN | apply below_drew1) | exact HB.out)) hb); clear HB; have HB := n0_; clear n0_; (try clear hb); (try clear hb2); (try clear hk); (try clear hi)) | (go_at_call 9; (with_reducible refine (uri_With.calls kj9 t223 _ _ l1 t224 _ ?side1 ?side2 A30.out).mono ?_); (case side1 => repeat (first | exact (Kd.C_below HR1.out HB.out) | (with_reducible refine Kd.C_alloc ?_ _) | (with_reducible refine Kd.C_drewN ?_ _) | (with_reducible refine Kd.C_drew ?_))); (case side2 => exact HC1.out); rintro e w36 ⟨rfl, hb⟩; have n0_ := Aside0.mk (below_step (by repeat (first | (with_reducible first | exact HB.out | apply below_alloc | apply pw_below_drewN | apply below_drew1) | exact HB.out)) hb); clear HB; have HB := n0_; clear n0_; (try clear hb); (try clear hb2); (try clear hk); (try clear hi)) | ((with_reducible refine gate_dst (N := 86) rfl ?_); (try (refine gate_guard (by rfl) ?_; dsimp only)); refine Kd.R_lit k25 _ 25 ?hg (N := 86) ?hd (xs := ([] : List (S25))) (inner := []) (ok := fun _ => True) (okp := fun _ => True) ?hr ?hp (fun _ hk => hk) trivial (Below.refl _ _) (Nat.le_refl _) (by simp) ?_; (case hd => rfl); (case hg => rfl); (case hr => first | (go_simp; done) | (go_simp; rfl)); (case hp => exact (Reps.none _ _)); intro v226 w37 ho38 hb hg_ hnew_; clear hg_ hnew_; (first | rw [← Ny225.out] at ho38 | (simp only [Int.reduceToNat] at ho38; rw [← Ny225.out] at ho38)); have n0_ := Aside0.mk (Kd.R_lower ho38 (below_size (by repeat (first | (with_reducible first | exact HB.out | apply below_alloc | apply pw_below_drewN | apply below_drew1) | exact HB.out)))); have n1_ := Aside0.mk (below_step (by repeat (first | (with_reducible first | exact HB.out | apply below_alloc | apply pw_below_drewN | apply below_drew1) | exact HB.out)) hb); clear HB; have HO227 := n0_; have HB := n1_; clear n0_ n1_; clear hb ho38) | ((with_reducible refine gate_builtin (b := .append) (xs := #[.tmp 86, .tmp 87]) rfl ?_); (try (refine gate_guard (by rfl) ?_; dsimp only)); at_builtin; refine Kd.R_append_rows k25 (w0 := w) w.heap.size rfl (.tmp 86) (.tmp 87) 22 25 (.agg #[(.string ⟨#[]⟩), (.string ⟨#[]⟩)]) 32 rfl Tryd.underlying22 info25 rfl (by decide) (by omega) v226 y225 l0 _ _ _ (fun _ => True) (fun _ => False) rfl rfl ?aO ?aR (fun _ _ h => h) (fun _ h => h.elim) ?aF ?aB ?aS ?aL ?_; (case aR => repeat (first | exact (Kd.C_below HR0.out HB.out) | (with_reducible refine Kd.C_alloc ?_ _) | (with_reducible refine Kd.C_drewN ?_ _) | (with_reducible refine Kd.C_drew ?_))); (case aB => exact (by repeat (first | (with_reducible first | exact HB.out | apply below_alloc | apply pw_below_drewN | apply below_drew1) | exact HB.out))); (case aF => exact (fun _ _ => trivial)); (case aO => exact (by (with_reducible repeat (first | apply Kd.R_alloc | apply Kd.R_drewN | apply Kd.R_drew)); exact HO227.out)); (case aS => exact (below_size (by repeat (first | (with_reducible first | exact HB.out | apply below_alloc | apply pw_below_drewN | apply below_drew1) | exact HB.out)))); (case aL => have := LMc31.out; omega); intro v229 w39 ho hb hg hat; rw [← Ny228.out] at ho; have n0_ := Aside0.mk (hb); have n1_ := Aside0.mk (ho); clear HB; clear HO227; have HB := n0_; have HO230 := n1_; clear n0_ n1_; clear ho hb hg hat) | ((with_reducible refine gate_builtin (b := .append) (xs := #[.tmp 88, .tmp 89]) rfl ?_); (try (refine gate_guard (by rfl) ?_; dsimp only)); at_builtin; refine Kd.R_append_rows k25 (w0 := w) w.heap.size rfl (.tmp 88) (.tmp 89) 22 25 (.agg #[(.string ⟨#[]⟩), (.string ⟨#[]⟩)]) 32 rfl Tryd.underlying22 info25 rfl (by decide) (by omega) v229 y228 l1 _ _ _ (fun _ => True) (fun _ => False) rfl rfl ?aO ?aR (fun _ _ h => h) (fun _ h => h.elim) ?aF ?aB ?aS ?aL ?_; (case aR => repeat (first | exact (Kd.C_below HR1.out HB.out) | (with_reducible refine Kd.C_alloc ?_ _) | (with_reducible refine Kd.C_drewN ?_ _) | (with_reducible refine Kd.C_drew ?_))); (case aB => exact (by repeat (first | (with_reducible first | exact HB.out | apply below_alloc | apply pw_below_drewN | apply below_drew1) | exact HB.out))); (case aF => exact (fun _ _ => trivial)); (case aO => exact (by (with_reducible repeat (first | apply Kd.R_alloc | apply Kd.R_drewN | apply Kd.R_drew)); exact HO230.out)); (case aS => exact (below_size (by repeat (first | (with_reducible first | exact HB.out | apply below_alloc | apply pw_below_drewN | apply below_drew1) | exact HB.out)))); (case aL => have := LMc32.out; omega); intro v232 w40 ho hb hg hat; rw [← Ny231.out] at ho; have n0_ := Aside0.mk (hb); have n1_ := Aside0.mk (ho); clear HB; clear HO230; have HB := n0_; have HO233 := n1_; clear n0_ n1_; clear ho hb hg hat; obtain ⟨Ao41, co41, eo41⟩ := Kd.R_slice HO233.out; subst eo41) | (go_at_call 9; (with_reducible refine (uri_With.calls kj9 (⟨#[104, 116, 116, 112, 58, 47, 47, 97]⟩ : ByteArray) _ _ y231 t234 _ ?side1 ?side2 A33.out).mono ?_); (case side1 => repeat (first | exact (Kd.R_reads' HO233.out).2.2 | (with_reducible refine Kd.C_alloc ?_ _) | (with_reducible refine Kd.C_drewN ?_ _) | (with_reducible refine Kd.C_drew ?_))); (case side2 => exact (Kd.R_reads' HO233.out).2.1); rintro e w42 ⟨rfl, hb⟩; have n0_ := Aside0.mk (Kd.R_below (by (with_reducible repeat (first | apply Kd.R_alloc | apply Kd.R_drewN | apply Kd.R_drew)); exact HO233.out) hb); have n1_ := Aside0.mk (below_step (by repeat (first | (with_reducible first | exact HB.out | apply below_alloc | apply pw_below_drewN | apply below_drew1) | exact HB.out)) hb); clear HO233; clear HB; have HO233 := n0_; have HB := n1_; clear n0_ n1_; (try clear hb); (try clear hb2); (try clear hk); (try clear hi))))
                        go_ret
                        exact ⟨by first | rfl | (simp [errW_none, errW_some] <;> rfl) | (simp [*, errW_none, errW_some] <;> rfl), by repeat (first | (with_reducible first | exact HB.out | apply below_alloc | apply pw_below_drewN | apply below_drew1) | exact HB.out)⟩
                        all_goals (first | (exfalso; simp_all <;> omega) | (go_ret; exact ⟨by first | rfl | (simp [errW_none, errW_some] <;> rfl) | (simp [*, errW_none, errW_some] <;> rfl), by repeat (first | (with_reducible first | exact HB.out | apply below_alloc | apply pw_below_drewN | apply below_drew1) | exact HB.out)⟩))
                      · rw [if_neg c32] at H
                        exact absurd H (by simp)
                    · rw [if_neg c31] at H
                      exact absurd H (by simp)
                  · replace c28 := Bool.eq_false_iff.mpr c28
                    subst c28
                    have H1 : (some false) = some r := by rw [if_neg (show ¬ (false = true) by decide)] at H; exact H
                    clear H
                    have H := H1
                    clear H1
                    obtain rfl := Option.some.inj H
                    go_wp2_with (first | (go_at_call 8; (with_reducible refine (exequaturlaw03_answers.calls kj9  false _ A27.out).mono ?_); rintro e w43 ⟨rfl, hb⟩; have n0_ := Aside0.mk (below_step (by repeat (first | (with_reducible first | exact HB.out | apply below_alloc | apply pw_below_drewN | apply below_drew1) | exact HB.out)) hb); clear HB; have HB := n0_; clear n0_; (try clear hb); (try clear hb2); (try clear hk); (try clear hi)))
                    repeat (go_quiet (first | (go_at_call 8; (with_reducible refine (exequaturlaw03_answers.calls kj9  false _ A27.out).mono ?_); rintro e w43 ⟨rfl, hb⟩; have n0_ := Aside0.mk (below_step (by repeat (first | (with_reducible first | exact HB.out | apply below_alloc | apply pw_below_drewN | apply below_drew1) | exact HB.out)) hb); clear HB; have HB := n0_; clear n0_; (try clear hb); (try clear hb2); (try clear hk); (try clear hi))); try go_wp2_with (first | (go_at_call 8; (with_reducible refine (exequaturlaw03_answers.calls kj9  false _ A27.out).mono ?_); rintro e w43 ⟨rfl, hb⟩; have n0_ := Aside0.mk (below_step (by repeat (first | (with_reducible first | exact HB.out | apply below_alloc | apply pw_below_drewN | apply below_drew1) | exact HB.out)) hb); clear HB; have HB := n0_; clear n0_; (try clear hb); (try clear hb2); (try clear hk); (try clear hi))))
                    go_ret
                    exact ⟨by first | rfl | (simp [errW_none, errW_some] <;> rfl) | (simp [*, errW_none, errW_some] <;> rfl), by repeat (first | (with_reducible first | exact HB.out | apply below_alloc | apply pw_below_drewN | apply below_drew1) | exact HB.out)⟩
                    all_goals (first | (exfalso; simp_all <;> omega) | (go_ret; exact ⟨by first | rfl | (simp [errW_none, errW_some] <;> rfl) | (simp [*, errW_none, errW_some] <;> rfl), by repeat (first | (with_reducible first | exact HB.out | apply below_alloc | apply pw_below_drewN | apply below_drew1) | exact HB.out)⟩))

end Go.Proofs.YtjagjfmkfiikaaaDoor.X
