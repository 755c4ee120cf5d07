-- Lean text made by xprint.py (ours) out of the seat's translation. Lean checks it.
import Derived.Test.YtifejhbochkifaaGreatDoorX0
import Derived.Test.YtifejhbochkifaaGreatDoorX5
namespace Go.Proofs.YtifejhbochkifaaGreatDoor.X
open Go.RowKit Go.Proofs.YtifejhbochkifaaGreatDoorW.PrintWords Go.Proofs.YtifejhbochkifaaGreatDoorW.PrintLast Go.Proofs.YtifejhbochkifaaGreatDoorW.PrintMore
attribute [local go_sem] max2_int min2_int max_two min_two max_three min_three max_four min_four   -- for this text's walks alone
set_option linter.unusedVariables false
set_option linter.unusedSimpArgs false

/-! ### exequaturref01_word: function 52 -/
mutual
def exequaturref01_word.l0 : Nat → ByteArray → List Int → Int → Option (ByteArray × Int)
  | 0, _, _, _ => none
  | k + 1, x0, x4, x5 => if x5 < (x0.size : Int) then (if 0 ≤ x5 then (if (bt x0 x5) = 34 then (some (strOfNums x4, wrap64 (x5 + 1))) else (if (bt x0 x5) = 92 then (if (wrap64 (x5 + 1)) < (x0.size : Int) then (if 0 ≤ (wrap64 (x5 + 1)) then (if (bt x0 (wrap64 (x5 + 1))) = 34 then (exequaturref01_word.j1 k x0 x4 x5 true) else (exequaturref01_word.j1 k x0 x4 x5 ((bt x0 (wrap64 (x5 + 1))) == 92))) else (none)) else (exequaturref01_word.j1 k x0 x4 x5 false)) else (exequaturref01_word.j1 k x0 x4 x5 false))) else (none)) else (some ((⟨#[]⟩ : ByteArray), 0))
def exequaturref01_word.j1 : Nat → ByteArray → List Int → Int → Bool → Option (ByteArray × Int)
  | 0, _, _, _, _ => none
  | k + 1, x0, x4, x5, x30 => if x30 = true then (if 0 ≤ (wrap64 (x5 + 1)) then (if (wrap64 (x5 + 1)) < (x0.size : Int) then (if x4.length < 140737488355328 then (exequaturref01_word.l0 k x0 (x4 ++ [bt x0 (wrap64 (x5 + 1))]) (wrap64 ((wrap64 (x5 + 1)) + 1))) else (none)) else (none)) else (none)) else (if 0 ≤ x5 then (if x5 < (x0.size : Int) then (if (bt x0 x5) = 92 then (if (wrap64 (x5 + 5)) < (x0.size : Int) then (if 0 ≤ (wrap64 (x5 + 1)) then (if (wrap64 (x5 + 1)) ≤ (wrap64 (x5 + 4)) then (if (wrap64 (x5 + 4)) ≤ (x0.size : Int) then (if (x0.extract ((wrap64 (x5 + 1)) : Int).toNat ((wrap64 (x5 + 4)) : Int).toNat).toList = ([117, 48, 48] : List UInt8) then (if 0 ≤ (wrap64 (x5 + 4)) then (if (wrap64 (x5 + 4)) < (x0.size : Int) then ((exequaturref01_hex.f k (bt x0 (wrap64 (x5 + 4)))).bind fun t122 => (if t122 ≥ 0 then (if 0 ≤ (wrap64 (x5 + 5)) then ((exequaturref01_hex.f k (bt x0 (wrap64 (x5 + 5)))).bind fun t123 => (exequaturref01_word.j2 k x0 x4 x5 (decide (t123 ≥ 0)))) else (none)) else (exequaturref01_word.j2 k x0 x4 x5 false))) else (none)) else (none)) else (exequaturref01_word.j2 k x0 x4 x5 false)) else (none)) else (none)) else (none)) else (exequaturref01_word.j2 k x0 x4 x5 false)) else (exequaturref01_word.j2 k x0 x4 x5 false)) else (none)) else (none))
def exequaturref01_word.j2 : Nat → ByteArray → List Int → Int → Bool → Option (ByteArray × Int)
  | 0, _, _, _, _ => none
  | k + 1, x0, x4, x5, x65 => if x65 = true then (if 0 ≤ (wrap64 (x5 + 4)) then (if (wrap64 (x5 + 4)) < (x0.size : Int) then ((exequaturref01_hex.f k (bt x0 (wrap64 (x5 + 4)))).bind fun t124 => (if 0 ≤ (wrap64 (x5 + 5)) then (if (wrap64 (x5 + 5)) < (x0.size : Int) then ((exequaturref01_hex.f k (bt x0 (wrap64 (x5 + 5)))).bind fun t125 => (if x4.length < 140737488355328 then (exequaturref01_word.l0 k x0 (x4 ++ [(wrap64 ((wrap64 (16 * t124)) + t125)) % 256]) (wrap64 ((wrap64 (x5 + 5)) + 1))) else (none))) else (none)) else (none))) else (none)) else (none)) else (if 0 ≤ x5 then (if x5 < (x0.size : Int) then (if (bt x0 x5) = 92 then (some ((⟨#[]⟩ : ByteArray), 0)) else (if x4.length < 140737488355328 then (exequaturref01_word.l0 k x0 (x4 ++ [bt x0 x5]) (wrap64 (x5 + 1))) else (none))) else (none)) else (none))
end
def exequaturref01_word.f (k : Nat) (a0 : ByteArray) : Option (ByteArray × Int) := (exequaturref01_begins.f a0 (⟨#[34]⟩ : ByteArray)).bind fun t118 => (if t118 = true then (exequaturref01_word.l0 k a0 ([] : List Int) 1) else (some ((⟨#[]⟩ : ByteArray), 0)))
theorem exequaturref01_word.mono_l : ∀ k, (∀ y0 y1 y2, LeO (exequaturref01_word.l0 k y0 y1 y2) (exequaturref01_word.l0 (k + 1) y0 y1 y2)) ∧ (∀ y0 y1 y2 y3, LeO (exequaturref01_word.j1 k y0 y1 y2 y3) (exequaturref01_word.j1 (k + 1) y0 y1 y2 y3)) ∧ (∀ y0 y1 y2 y3, LeO (exequaturref01_word.j2 k y0 y1 y2 y3) (exequaturref01_word.j2 (k + 1) y0 y1 y2 y3))
  | 0 => ⟨fun _ _ _ r h => by simp [exequaturref01_word.l0] at h, fun _ _ _ _ r h => by simp [exequaturref01_word.j1] at h, fun _ _ _ _ r h => by simp [exequaturref01_word.j2] at h⟩
  | k + 1 => by
    obtain ⟨ih0, ih1, ih2⟩ := exequaturref01_word.mono_l k
    refine ⟨?_, ?_, ?_⟩
    · intro y0 y1 y2
      unfold exequaturref01_word.l0
      repeat' first
      | (with_reducible exact ih0 _ _ _)
      | (with_reducible exact ih1 _ _ _ _)
      | (with_reducible exact ih2 _ _ _ _)
      | (with_reducible exact exequaturref01_hex.mono _ _)
      | (with_reducible exact LeO.refl _)
      | (with_reducible exact LeO.none _)
      | (with_reducible refine LeO.ite ?_ ?_)
      | (with_reducible refine LeO.bind ?_ (fun _ => ?_))
      | exact ih0 _ _ _
      | exact ih1 _ _ _ _
      | exact ih2 _ _ _ _
      | exact exequaturref01_hex.mono _ _
      | exact LeO.none _
      | refine LeO.ite ?_ ?_
      | refine LeO.bind ?_ (fun _ => ?_)
    · intro y0 y1 y2 y3
      unfold exequaturref01_word.j1
      repeat' first
      | (with_reducible exact ih0 _ _ _)
      | (with_reducible exact ih1 _ _ _ _)
      | (with_reducible exact ih2 _ _ _ _)
      | (with_reducible exact exequaturref01_hex.mono _ _)
      | (with_reducible exact LeO.refl _)
      | (with_reducible exact LeO.none _)
      | (with_reducible refine LeO.ite ?_ ?_)
      | (with_reducible refine LeO.bind ?_ (fun _ => ?_))
      | exact ih0 _ _ _
      | exact ih1 _ _ _ _
      | exact ih2 _ _ _ _
      | exact exequaturref01_hex.mono _ _
      | exact LeO.none _
      | refine LeO.ite ?_ ?_
      | refine LeO.bind ?_ (fun _ => ?_)
    · intro y0 y1 y2 y3
      unfold exequaturref01_word.j2
      repeat' first
      | (with_reducible exact ih0 _ _ _)
      | (with_reducible exact ih1 _ _ _ _)
      | (with_reducible exact ih2 _ _ _ _)
      | (with_reducible exact exequaturref01_hex.mono _ _)
      | (with_reducible exact LeO.refl _)
      | (with_reducible exact LeO.none _)
      | (with_reducible refine LeO.ite ?_ ?_)
      | (with_reducible refine LeO.bind ?_ (fun _ => ?_))
      | exact ih0 _ _ _
      | exact ih1 _ _ _ _
      | exact ih2 _ _ _ _
      | exact exequaturref01_hex.mono _ _
      | exact LeO.none _
      | refine LeO.ite ?_ ?_
      | refine LeO.bind ?_ (fun _ => ?_)
theorem exequaturref01_word.mono : ∀ a0 k, LeO (exequaturref01_word.f k a0) (exequaturref01_word.f (k + 1) a0) := by
  intro a0 k
  obtain ⟨ih0, ih1, ih2⟩ := exequaturref01_word.mono_l k
  unfold exequaturref01_word.f
  repeat' first
      | (with_reducible exact ih0 _ _ _)
      | (with_reducible exact ih1 _ _ _ _)
      | (with_reducible exact ih2 _ _ _ _)
      | (with_reducible exact exequaturref01_hex.mono _ _)
      | (with_reducible exact LeO.refl _)
      | (with_reducible exact LeO.none _)
      | (with_reducible refine LeO.ite ?_ ?_)
      | (with_reducible refine LeO.bind ?_ (fun _ => ?_))
      | exact ih0 _ _ _
      | exact ih1 _ _ _ _
      | exact ih2 _ _ _ _
      | exact exequaturref01_hex.mono _ _
      | exact LeO.none _
      | refine LeO.ite ?_ ?_
      | refine LeO.bind ?_ (fun _ => ?_)
def exequaturref01_word.T14 : Bool × List (List Nat × List Nat) := (true, [([], []), ([], []), ([], []), ([2], [2]), ([1, 3], [1, 3]), ([4], [4]), ([5], [5]), ([], []), ([], []), ([8], [8]), ([7, 9], [7, 9]), ([10, 5], [10]), ([6, 11], [6, 11]), ([12], [12]), ([13], [13]), ([0, 14, 11], [0, 14]), ([15, 15, 0, 1, 2, 3, 4, 5, 6, 7, 8, 9, 10, 11, 12, 13, 14, 15], [0, 15])])
def exequaturref01_word.B14 : List Nat := [0, 0, 0, 4, 14, 30, 62, 0, 0, 256, 896, 1982, 4094, 8190, 16382, 32767, 65535]
theorem exequaturref01_word.tab14 : rtab .any (opsOf Tryz.f52 14) = exequaturref01_word.T14 := by kernel_rfl
theorem exequaturref01_word.bits14 : waitsOk exequaturref01_word.T14.2 exequaturref01_word.B14 = true := by kernel_rfl
set_option maxHeartbeats 8000000 in
set_option maxRecDepth 100000 in
theorem exequaturref01_word.calls (k : Nat) (a0 : ByteArray) (r1 : ByteArray) (r2 : Int) (w : World) (h : exequaturref01_word.f k a0 = some (r1, r2)) :
  Calls Tryz.prog 52 #[.string a0] w fun e w' => e = .returned (.tuple #[.string r1, .int .i64 r2]) ∧ Below w.heap.size w w' := by
 have HB := Aside0.mk (Below.refl w.heap.size w)
 have H : ((exequaturref01_begins.f a0 (⟨#[34]⟩ : ByteArray)).bind fun t118 => (if t118 = true then (exequaturref01_word.l0 k a0 ([] : List Int) 1) else (some ((⟨#[]⟩ : ByteArray), 0)))) = some (r1, r2) := h
 clear h
 replace H := Option.bind_eq_some_iff.mp H
 obtain ⟨t118, A20, H⟩ := H
 replace H : (if t118 = true then (exequaturref01_word.l0 k a0 ([] : List Int) 1) else (some ((⟨#[]⟩ : ByteArray), 0))) = some (r1, r2) := H
 have A2 := Aside0.mk A20
 clear A20
 by_cases c3 : t118 = true
 ·subst c3
  have H1 : (exequaturref01_word.l0 k a0 ([] : List Int) 1) = some (r1, r2) := by rw [if_pos rfl] at H; exact H
  clear H
  have H := H1
  clear H1
  have H' := Aside0.mk H
  clear H
  go_enter Tryz.func52, Tryz.ntmps52
  go_wp2_with (first | ((with_reducible refine gate_callee (f := 51) rfl ?_); refine goesL_ (some 7) rfl rfl Tryz.func51 (by kernel_rfl) rfl #[.string a0, .string (⟨#[34]⟩ : ByteArray)] rfl (by (try simp only [List.map_toArray, List.map_cons, List.map_nil]); first | done | rfl | (simp only [List.length_drop, List.length_take]; rfl)) ?_; (with_reducible refine (exequaturref01_begins.calls a0 (⟨#[34]⟩ : ByteArray) true _ A2.out).mono ?_); rintro e w' ⟨rfl, ⟨nd, rfl⟩⟩; refine ⟨_, rfl, ?_⟩))
  go_loopg [4, 5] k (fun kq v4 v5 w' => ∃ (x4_1 : List Int) (x5_1 : Int), v5 = .int .i64 x5_1 ∧ Aside0 (exequaturref01_word.l0 kq a0 x4_1 x5_1 = some (r1, r2)) ∧ Aside0 (kq ≤ k) ∧ Aside0 (Kd.R (Kd.int .u8) 5 w' w.heap.size (fun _ => True) v4 x4_1) ∧ Aside0 (Below w.heap.size w w'))
  case atStart => exact ⟨(([] : List Int)), (1), (by first | rfl | (simp; done) | (simp [*]; done) | (refine congrArg Value.bool ?_; rw [Bool.eq_iff_iff]; simp; done)), H', ⟨Nat.le_refl _⟩, ⟨by first | exact Kd.R_nil _ _ _ _ _ | exact Kd.N_nil _ _ _ _ _ | exact Kd.V_nil _ _ _ _ _ | exact Kd.Q_nil _ _ _ _ _ | exact Kd.S_nil _ _ _ _ _⟩, ⟨by repeat (first | (with_reducible first | exact HB.out | apply below_alloc | apply pw_below_drewN | apply below_drew1) | exact HB.out)⟩⟩
  case round =>
   clear H'
   try clear p2; try clear c3
   obtain ⟨x4_1, x5_1, rfl, HA, HK1, HO_4, HB⟩ := hrel
   cases gk with
   | zero => exact absurd HA.out (by simp [exequaturref01_word.l0])
   | succ k1 =>
    have H := HA.out
    clear HA
    simp only [exequaturref01_word.l0] at H
    by_cases c4 : x5_1 < (a0.size : Int)
    ·rw [if_pos c4] at H
     have c4b0 : decide (x5_1 < (a0.size : Int)) = true := decide_eq_true c4
     clear c4
     by_cases c5 : 0 ≤ x5_1
     rotate_left
     ·rw [if_neg c5] at H; exact absurd H (by simp)
     rw [if_pos c5] at H
     have c5b0 : decide (0 ≤ x5_1) = true := decide_eq_true c5
     clear c5
     by_cases c7 : (bt a0 x5_1) = 34
     ·rw [if_pos c7] at H
      have c7b0 : ((bt a0 x5_1) == 34) = true := beq_iff_eq.mpr c7
      have c7b1 : ((bt a0 x5_1) != 34) = false := bne_eq_false_iff_eq.mpr c7
      clear c7
      simp only [Option.some.injEq, Prod.mk.injEq] at H
      obtain ⟨rfl, rfl⟩ := H
      have p6 : 0 ≤ (x5_1 : Int) := of_decide_eq_true (by first | (with_reducible assumption) | assumption)
      have q6 : x5_1 < (a0.size : Int) := of_decide_eq_true (by first | (with_reducible assumption) | assumption)
      have hx6 := bt_at a0 x5_1
      replace p6 := eq_true p6
      replace q6 := eq_true q6
      have hcv8 := own_string (P := Tryz.prog) Tryz.underlying77 Tryz.underlying5 Tryz.underlying9 (Kd.own_of_R HO_4.out)
      go_wp2
      go_ret2
      first | (exact ⟨by first | rfl | (simp [errW_none, errW_some] <;> rfl) | (simp [*, errW_none, errW_some] <;> rfl), by repeat (first | (with_reducible first | exact HB.out | apply below_alloc | apply pw_below_drewN | apply below_drew1) | exact HB.out)⟩) | (focus (exfalso; simp_all; done))
      all_goals (first | (exfalso; simp_all <;> omega) | (go_ret; exact ⟨by first | rfl | (simp [errW_none, errW_some] <;> rfl) | (simp [*, errW_none, errW_some] <;> rfl), by repeat (first | (with_reducible first | exact HB.out | apply below_alloc | apply pw_below_drewN | apply below_drew1) | exact HB.out)⟩))
     ·rw [if_neg c7] at H
      have c7b0 : ((bt a0 x5_1) == 34) = false := beq_eq_false_iff_ne.mpr c7
      have c7b1 : ((bt a0 x5_1) != 34) = true := bne_iff_ne.mpr c7
      have HC9 := Aside0.mk H
      clear H
      have p6 : 0 ≤ (x5_1 : Int) := of_decide_eq_true (by first | (with_reducible assumption) | assumption)
      have q6 : x5_1 < (a0.size : Int) := of_decide_eq_true (by first | (with_reducible assumption) | assumption)
      have hx6 := bt_at a0 x5_1
      replace p6 := eq_true p6
      replace q6 := eq_true q6
      go_upto_region 10 with (fail)
      go_cut [30] (fun v30 wc => ∃ (kq : Nat) (x30_8 : Bool), v30 = .bool x30_8 ∧ Aside0 (exequaturref01_word.j1 kq a0 x4_1 x5_1 x30_8 = some (r1, r2)) ∧ Aside0 (kq ≤ k1) ∧ Aside0 (Kd.R (Kd.int .u8) 5 wc w.heap.size (fun _ => True) u4 x4_1) ∧ Aside0 (Below w.heap.size w wc))
      case first =>
       have H := HC9.out
       clear HC9
       by_cases c11 : (bt a0 x5_1) = 92
       ·rw [if_pos c11] at H
        have c11b0 : ((bt a0 x5_1) == 92) = true := beq_iff_eq.mpr c11
        have c11b1 : ((bt a0 x5_1) != 92) = false := bne_eq_false_iff_eq.mpr c11
        clear c11
        (first | rw [c11b0] | (simp only [i64_w, i32_w]; rw [c11b0]) | skip)
        by_cases c12 : (wrap64 (x5_1 + 1)) < (a0.size : Int)
        ·rw [if_pos c12] at H
         have c12b0 : decide ((wrap64 (x5_1 + 1)) < (a0.size : Int)) = true := decide_eq_true c12
         clear c12
         obtain ⟨ji13, hji13⟩ : ∃ j_ : Int, (wrap64 (x5_1 + 1)) = j_ := ⟨_, rfl⟩
         replace H : (if 0 ≤ (ji13) then (if (bt a0 (ji13)) = 34 then (exequaturref01_word.j1 k1 a0 x4_1 x5_1 true) else (exequaturref01_word.j1 k1 a0 x4_1 x5_1 ((bt a0 (ji13)) == 92))) else (none)) = some (r1, r2) := by first | (rw [hji13] at H; exact H) | (simp only [hji13] at H ⊢; exact H)
         (try rw [hji13] at c12b0)
         have hji13w : (IntKind.i64.wrap (x5_1 + 1)) = ji13 := (i64_w _).trans hji13
         by_cases c14 : 0 ≤ (ji13)
         rotate_left
         ·rw [if_neg c14] at H; exact absurd H (by simp)
         rw [if_pos c14] at H
         have c14b0 : decide (0 ≤ (ji13)) = true := decide_eq_true c14
         clear c14
         by_cases c16 : (bt a0 (ji13)) = 34
         ·rw [if_pos c16] at H
          have c16b0 : ((bt a0 (ji13)) == 34) = true := beq_iff_eq.mpr c16
          have c16b1 : ((bt a0 (ji13)) != 34) = false := bne_eq_false_iff_eq.mpr c16
          clear c16
          have H' := Aside0.mk H
          clear H
          have p10 : 0 ≤ (x5_1 : Int) := of_decide_eq_true (by first | (with_reducible assumption) | assumption)
          have q10 : x5_1 < (a0.size : Int) := of_decide_eq_true (by first | (with_reducible assumption) | assumption)
          have hx10 := bt_at a0 x5_1
          replace p10 := eq_true p10
          replace q10 := eq_true q10
          have p15 : 0 ≤ ((ji13) : Int) := of_decide_eq_true (by first | (with_reducible assumption) | assumption)
          have q15 : (ji13) < (a0.size : Int) := of_decide_eq_true (by first | (with_reducible assumption) | assumption)
          have hx15 := bt_at a0 (ji13)
          replace p15 := eq_true p15
          replace q15 := eq_true q15
          go_wp2
          go_meet
          case rel => exact ⟨_, (true), (by first | rfl | (simp; done) | (simp [*]; done) | (refine congrArg Value.bool ?_; rw [Bool.eq_iff_iff]; simp; done)), H', ⟨by have := HK1.out; first | omega | exact Nat.le_refl _⟩, ⟨by (with_reducible repeat (first | apply Kd.R_alloc | apply Kd.R_drewN | apply Kd.R_drew)); exact HO_4.out⟩, ⟨by repeat (first | (with_reducible first | exact HB.out | apply below_alloc | apply pw_below_drewN | apply below_drew1) | exact HB.out)⟩⟩
         ·rw [if_neg c16] at H
          have c16b0 : ((bt a0 (ji13)) == 34) = false := beq_eq_false_iff_ne.mpr c16
          have c16b1 : ((bt a0 (ji13)) != 34) = true := bne_iff_ne.mpr c16
          have H' := Aside0.mk H
          clear H
          have p10 : 0 ≤ (x5_1 : Int) := of_decide_eq_true (by first | (with_reducible assumption) | assumption)
          have q10 : x5_1 < (a0.size : Int) := of_decide_eq_true (by first | (with_reducible assumption) | assumption)
          have hx10 := bt_at a0 x5_1
          replace p10 := eq_true p10
          replace q10 := eq_true q10
          have p15 : 0 ≤ ((ji13) : Int) := of_decide_eq_true (by first | (with_reducible assumption) | assumption)
          have q15 : (ji13) < (a0.size : Int) := of_decide_eq_true (by first | (with_reducible assumption) | assumption)
          have hx15 := bt_at a0 (ji13)
          replace p15 := eq_true p15
          replace q15 := eq_true q15
          have p17 : 0 ≤ ((ji13) : Int) := of_decide_eq_true (by first | (with_reducible assumption) | assumption)
          have q17 : (ji13) < (a0.size : Int) := of_decide_eq_true (by first | (with_reducible assumption) | assumption)
          have hx17 := bt_at a0 (ji13)
          replace p17 := eq_true p17
          replace q17 := eq_true q17
          go_wp2
          go_meet
          case rel => exact ⟨_, (((bt a0 (ji13)) == 92)), (by first | rfl | (simp; done) | (simp only [← hji13] <;> (first | rfl | simp)) | (simp [*]; done)), H', ⟨by have := HK1.out; first | omega | exact Nat.le_refl _⟩, ⟨by (with_reducible repeat (first | apply Kd.R_alloc | apply Kd.R_drewN | apply Kd.R_drew)); exact HO_4.out⟩, ⟨by repeat (first | (with_reducible first | exact HB.out | apply below_alloc | apply pw_below_drewN | apply below_drew1) | exact HB.out)⟩⟩
        ·rw [if_neg c12] at H
         have c12b0 : decide ((wrap64 (x5_1 + 1)) < (a0.size : Int)) = false := decide_eq_false c12
         clear c12
         have H' := Aside0.mk H
         clear H
         have p10 : 0 ≤ (x5_1 : Int) := of_decide_eq_true (by first | (with_reducible assumption) | assumption)
         have q10 : x5_1 < (a0.size : Int) := of_decide_eq_true (by first | (with_reducible assumption) | assumption)
         have hx10 := bt_at a0 x5_1
         replace p10 := eq_true p10
         replace q10 := eq_true q10
         go_wp2
         go_meet
         case rel => exact ⟨_, (false), (by first | rfl | (simp; done) | (simp [*]; done) | (refine congrArg Value.bool ?_; rw [Bool.eq_iff_iff]; simp; done)), H', ⟨by have := HK1.out; first | omega | exact Nat.le_refl _⟩, ⟨by (with_reducible repeat (first | apply Kd.R_alloc | apply Kd.R_drewN | apply Kd.R_drew)); exact HO_4.out⟩, ⟨by repeat (first | (with_reducible first | exact HB.out | apply below_alloc | apply pw_below_drewN | apply below_drew1) | exact HB.out)⟩⟩
       ·rw [if_neg c11] at H
        have c11b0 : ((bt a0 x5_1) == 92) = false := beq_eq_false_iff_ne.mpr c11
        have c11b1 : ((bt a0 x5_1) != 92) = true := bne_iff_ne.mpr c11
        (first | rw [c11b0] | (simp only [i64_w, i32_w]; rw [c11b0]) | skip)
        have H' := Aside0.mk H
        clear H
        have p10 : 0 ≤ (x5_1 : Int) := of_decide_eq_true (by first | (with_reducible assumption) | assumption)
        have q10 : x5_1 < (a0.size : Int) := of_decide_eq_true (by first | (with_reducible assumption) | assumption)
        have hx10 := bt_at a0 x5_1
        replace p10 := eq_true p10
        replace q10 := eq_true q10
        go_wp2
        go_meet
        case rel => exact ⟨_, (false), (by first | rfl | (simp; done) | (simp [*]; done) | (refine congrArg Value.bool ?_; rw [Bool.eq_iff_iff]; simp; done)), H', ⟨by have := HK1.out; first | omega | exact Nat.le_refl _⟩, ⟨by (with_reducible repeat (first | apply Kd.R_alloc | apply Kd.R_drewN | apply Kd.R_drew)); exact HO_4.out⟩, ⟨by repeat (first | (with_reducible first | exact HB.out | apply below_alloc | apply pw_below_drewN | apply below_drew1) | exact HB.out)⟩⟩
      case rest =>
       clear HC9; try clear c1; try clear p1; try clear q1; try clear hx1; try clear p2; try clear c3; try clear c4; try clear c4b0; try clear c5; try clear c5b0; try clear p6; try clear q6; try clear hx6; try clear c7; try clear c7b0; try clear c7b1; try clear hcv8; try clear p10; try clear q10; try clear hx10; try clear c11; try clear c11b0; try clear c11b1; try clear c12; try clear c12b0; try clear c14; try clear c14b0; try clear p15; try clear q15; try clear hx15; try clear c16; try clear c16b0; try clear c16b1; try clear p17; try clear q17; try clear hx17; try clear p10; try clear p15; try clear p17; try clear p2; try clear p6; try clear q10; try clear q15; try clear q17; try clear q6
       obtain ⟨kq, x30_8, rfl, HA, HJ8, HO_4, HB⟩ := hcut
       cases kq with
       | zero => exact absurd HA.out (by simp [exequaturref01_word.j1])
       | succ kj8 =>
        have H := HA.out
        clear HA
        simp only [exequaturref01_word.j1] at H
        by_cases c18 : x30_8 = true
        ·subst c18
         have H1 : (if 0 ≤ (wrap64 (x5_1 + 1)) then (if (wrap64 (x5_1 + 1)) < (a0.size : Int) then (if x4_1.length < 140737488355328 then (exequaturref01_word.l0 kj8 a0 (x4_1 ++ [bt a0 (wrap64 (x5_1 + 1))]) (wrap64 ((wrap64 (x5_1 + 1)) + 1))) else (none)) else (none)) else (none)) = some (r1, r2) := by rw [if_pos rfl] at H; exact H
         clear H
         have H := H1
         clear H1
         obtain ⟨ji19, hji19⟩ : ∃ j_ : Int, (wrap64 (x5_1 + 1)) = j_ := ⟨_, rfl⟩
         replace H : (if 0 ≤ (ji19) then (if (ji19) < (a0.size : Int) then (if x4_1.length < 140737488355328 then (exequaturref01_word.l0 kj8 a0 (x4_1 ++ [bt a0 (ji19)]) (wrap64 ((ji19) + 1))) else (none)) else (none)) else (none)) = some (r1, r2) := by first | (rw [hji19] at H; exact H) | (simp only [hji19] at H ⊢; exact H)
         have hji19w : (IntKind.i64.wrap (x5_1 + 1)) = ji19 := (i64_w _).trans hji19
         by_cases c20 : 0 ≤ (ji19)
         rotate_left
         ·rw [if_neg c20] at H; exact absurd H (by simp)
         rw [if_pos c20] at H
         have c20b0 : decide (0 ≤ (ji19)) = true := decide_eq_true c20
         clear c20
         by_cases c21 : (ji19) < (a0.size : Int)
         rotate_left
         ·rw [if_neg c21] at H; exact absurd H (by simp)
         rw [if_pos c21] at H
         have c21b0 : decide ((ji19) < (a0.size : Int)) = true := decide_eq_true c21
         clear c21
         by_cases c23 : x4_1.length < 140737488355328
         rotate_left
         ·rw [if_neg c23] at H; exact absurd H (by simp)
         rw [if_pos c23] at H
         have LMc23 := Aside0.mk c23
         clear c23
         obtain ⟨y119, hy119⟩ : ∃ y_ : List Int, y_ = (x4_1 ++ [bt a0 (ji19)]) := ⟨_, rfl⟩
         replace H : (exequaturref01_word.l0 kj8 a0 y119 (wrap64 ((ji19) + 1))) = some (r1, r2) := by first | (rw [hy119]; with_reducible exact H) | (have H2_ := (Option.bind_some _ _).symm.trans H; rw [hy119]; with_reducible exact H2_) | (have H2_ := (Option.bind_some _ _).symm.trans H; with_reducible exact H2_) | with_reducible exact H | (rw [hy119]; exact H) | exact H
         have Ny119 := Aside0.mk hy119
         clear hy119
         have H' := Aside0.mk H
         clear H
         have p22 : 0 ≤ ((ji19) : Int) := of_decide_eq_true (by first | (with_reducible assumption) | assumption)
         have q22 : (ji19) < (a0.size : Int) := of_decide_eq_true (by first | (with_reducible assumption) | assumption)
         have hx22 := bt_at a0 (ji19)
         replace p22 := eq_true p22
         replace q22 := eq_true q22
         go_wp2_with (first | ((with_reducible refine gate_builtin (b := .append) (xs := #[.tmp 56, .tmp 61]) rfl ?_); (try (refine gate_guard (by rfl) ?_; dsimp only)); at_builtin; refine Kd.R_append (Kd.int .u8) (w0 := w) w.heap.size rfl (.tmp 56) (.tmp 61) 77 5 (.int .u8 0) 1 rfl Tryz.underlying77 info5 rfl (by decide) (by omega) u4 x4_1 (bt a0 (ji19)) [.int .u8 (bt a0 (ji19))] (fun _ => True) (fun _ => False) rfl rfl ?aP (fun _ hk => hk.elim) ?aF ?aO ?aB ?aS ?aL ?_; (case aP => exact rfl); (case aB => exact (by repeat (first | (with_reducible first | exact HB.out | apply below_alloc | apply pw_below_drewN | apply below_drew1) | exact HB.out))); (case aF => exact (fun _ _ => trivial)); (case aO => exact (by (with_reducible repeat (first | apply Kd.R_alloc | apply Kd.R_drewN | apply Kd.R_drew)); exact HO_4.out)); (case aS => exact (below_size (by repeat (first | (with_reducible first | exact HB.out | apply below_alloc | apply pw_below_drewN | apply below_drew1) | exact HB.out)))); (case aL => have := LMc23.out; omega); intro v120 w24 ho hb hg hat; rw [← Ny119.out] at ho; have n0_ := Aside0.mk (hb); have n1_ := Aside0.mk (ho); clear HB; clear HO_4; have HB := n0_; have HO121 := n1_; clear n0_ n1_; clear ho hb hg hat))
         go_roundg kj8
         case measure => have := HK1.out; have := HJ8.out; omega
         case rel => exact ⟨(y119), (wrap64 ((ji19) + 1)), (by first | rfl | (simp; done) | (simp only [← hji19] <;> (first | rfl | simp)) | (simp [*]; done)), H', ⟨by have := HK1.out; have := HJ8.out; omega⟩, ⟨by (with_reducible repeat (first | apply Kd.R_alloc | apply Kd.R_drewN | apply Kd.R_drew)); exact HO121.out⟩, ⟨by repeat (first | (with_reducible first | exact HB.out | apply below_alloc | apply pw_below_drewN | apply below_drew1) | exact HB.out)⟩⟩
        ·replace c18 := Bool.eq_false_iff.mpr c18
         subst c18
         have H1 : (if 0 ≤ x5_1 then (if x5_1 < (a0.size : Int) then (if (bt a0 x5_1) = 92 then (if (wrap64 (x5_1 + 5)) < (a0.size : Int) then (if 0 ≤ (wrap64 (x5_1 + 1)) then (if (wrap64 (x5_1 + 1)) ≤ (wrap64 (x5_1 + 4)) then (if (wrap64 (x5_1 + 4)) ≤ (a0.size : Int) then (if (a0.extract ((wrap64 (x5_1 + 1)) : Int).toNat ((wrap64 (x5_1 + 4)) : Int).toNat).toList = ([117, 48, 48] : List UInt8) then (if 0 ≤ (wrap64 (x5_1 + 4)) then (if (wrap64 (x5_1 + 4)) < (a0.size : Int) then ((exequaturref01_hex.f kj8 (bt a0 (wrap64 (x5_1 + 4)))).bind fun t122 => (if t122 ≥ 0 then (if 0 ≤ (wrap64 (x5_1 + 5)) then ((exequaturref01_hex.f kj8 (bt a0 (wrap64 (x5_1 + 5)))).bind fun t123 => (exequaturref01_word.j2 kj8 a0 x4_1 x5_1 (decide (t123 ≥ 0)))) else (none)) else (exequaturref01_word.j2 kj8 a0 x4_1 x5_1 false))) else (none)) else (none)) else (exequaturref01_word.j2 kj8 a0 x4_1 x5_1 false)) else (none)) else (none)) else (none)) else (exequaturref01_word.j2 kj8 a0 x4_1 x5_1 false)) else (exequaturref01_word.j2 kj8 a0 x4_1 x5_1 false)) else (none)) else (none)) = some (r1, r2) := by rw [if_neg (show ¬ (false = true) by decide)] at H; exact H
         clear H
         have H := H1
         clear H1
         have HC25 := Aside0.mk H
         clear H
         go_upto_region 13 with (fail)
         go_cut [65] (fun v65 wc => ∃ (kq : Nat) (x65_24 : Bool), v65 = .bool x65_24 ∧ Aside0 (exequaturref01_word.j2 kq a0 x4_1 x5_1 x65_24 = some (r1, r2)) ∧ Aside0 (kq ≤ kj8) ∧ Aside0 (Kd.R (Kd.int .u8) 5 wc w.heap.size (fun _ => True) u4 x4_1) ∧ Aside0 (Below w.heap.size w wc))
         case first =>
          have H := HC25.out
          clear HC25
          by_cases c26 : 0 ≤ x5_1
          rotate_left
          ·rw [if_neg c26] at H; exact absurd H (by simp)
          rw [if_pos c26] at H
          have c26b0 : decide (0 ≤ x5_1) = true := decide_eq_true c26
          clear c26
          (first | rw [c26b0] | (simp only [i64_w, i32_w]; rw [c26b0]) | skip)
          by_cases c27 : x5_1 < (a0.size : Int)
          rotate_left
          ·rw [if_neg c27] at H; exact absurd H (by simp)
          rw [if_pos c27] at H
          have c27b0 : decide (x5_1 < (a0.size : Int)) = true := decide_eq_true c27
          clear c27
          by_cases c29 : (bt a0 x5_1) = 92
          ·rw [if_pos c29] at H
           have c29b0 : ((bt a0 x5_1) == 92) = true := beq_iff_eq.mpr c29
           have c29b1 : ((bt a0 x5_1) != 92) = false := bne_eq_false_iff_eq.mpr c29
           clear c29
           by_cases c30 : (wrap64 (x5_1 + 5)) < (a0.size : Int)
           ·rw [if_pos c30] at H
            have c30b0 : decide ((wrap64 (x5_1 + 5)) < (a0.size : Int)) = true := decide_eq_true c30
            clear c30
            obtain ⟨ji31, hji31⟩ : ∃ j_ : Int, (wrap64 (x5_1 + 1)) = j_ := ⟨_, rfl⟩
            replace H : (if 0 ≤ (ji31) then (if (ji31) ≤ (wrap64 (x5_1 + 4)) then (if (wrap64 (x5_1 + 4)) ≤ (a0.size : Int) then (if (a0.extract ((ji31) : Int).toNat ((wrap64 (x5_1 + 4)) : Int).toNat).toList = ([117, 48, 48] : List UInt8) then (if 0 ≤ (wrap64 (x5_1 + 4)) then (if (wrap64 (x5_1 + 4)) < (a0.size : Int) then ((exequaturref01_hex.f kj8 (bt a0 (wrap64 (x5_1 + 4)))).bind fun t122 => (if t122 ≥ 0 then (if 0 ≤ (wrap64 (x5_1 + 5)) then ((exequaturref01_hex.f kj8 (bt a0 (wrap64 (x5_1 + 5)))).bind fun t123 => (exequaturref01_word.j2 kj8 a0 x4_1 x5_1 (decide (t123 ≥ 0)))) else (none)) else (exequaturref01_word.j2 kj8 a0 x4_1 x5_1 false))) else (none)) else (none)) else (exequaturref01_word.j2 kj8 a0 x4_1 x5_1 false)) else (none)) else (none)) else (none)) = some (r1, r2) := by first | (rw [hji31] at H; exact H) | (simp only [hji31] at H ⊢; exact H)
            have hji31w : (IntKind.i64.wrap (x5_1 + 1)) = ji31 := (i64_w _).trans hji31
            by_cases c32 : 0 ≤ (ji31)
            rotate_left
            ·rw [if_neg c32] at H; exact absurd H (by simp)
            rw [if_pos c32] at H
            have c32b0 := eq_true c32
            have c32b1 : decide (0 ≤ (ji31)) = true := decide_eq_true c32
            clear c32
            by_cases c33 : (ji31) ≤ (wrap64 (x5_1 + 4))
            rotate_left
            ·rw [if_neg c33] at H; exact absurd H (by simp)
            rw [if_pos c33] at H
            have c33b0 := eq_true c33
            have c33b1 : decide ((ji31) ≤ (wrap64 (x5_1 + 4))) = true := decide_eq_true c33
            by_cases c34 : (wrap64 (x5_1 + 4)) ≤ (a0.size : Int)
            rotate_left
            ·rw [if_neg c34] at H; exact absurd H (by simp)
            rw [if_pos c34] at H
            have c34b0 := eq_true c34
            have c34b1 : decide ((wrap64 (x5_1 + 4)) ≤ (a0.size : Int)) = true := decide_eq_true c34
            by_cases c35 : (a0.extract ((ji31) : Int).toNat ((wrap64 (x5_1 + 4)) : Int).toNat).toList = ([117, 48, 48] : List UInt8)
            ·rw [if_pos c35] at H
             have c35b0 : ((a0.extract ((ji31) : Int).toNat ((wrap64 (x5_1 + 4)) : Int).toNat).toList == ([117, 48, 48] : List UInt8)) = true := beq_iff_eq.mpr c35
             have c35b1 : ((a0.extract ((ji31) : Int).toNat ((wrap64 (x5_1 + 4)) : Int).toNat).toList != ([117, 48, 48] : List UInt8)) = false := bne_eq_false_iff_eq.mpr c35
             clear c35
             obtain ⟨ji36, hji36⟩ : ∃ j_ : Int, (wrap64 (x5_1 + 4)) = j_ := ⟨_, rfl⟩
             replace H : (if 0 ≤ (ji36) then (if (ji36) < (a0.size : Int) then ((exequaturref01_hex.f kj8 (bt a0 (ji36))).bind fun t122 => (if t122 ≥ 0 then (if 0 ≤ (wrap64 (x5_1 + 5)) then ((exequaturref01_hex.f kj8 (bt a0 (wrap64 (x5_1 + 5)))).bind fun t123 => (exequaturref01_word.j2 kj8 a0 x4_1 x5_1 (decide (t123 ≥ 0)))) else (none)) else (exequaturref01_word.j2 kj8 a0 x4_1 x5_1 false))) else (none)) else (none)) = some (r1, r2) := by first | (rw [hji36] at H; exact H) | (simp only [hji36] at H ⊢; exact H)
             (try rw [hji36] at c33b0)
             (try rw [hji36] at c33b1)
             (try rw [hji36] at c33)
             (try rw [hji36] at c34b0)
             (try rw [hji36] at c34b1)
             (try rw [hji36] at c34)
             (try rw [hji36] at c35b0)
             (try rw [hji36] at c35b1)
             have hji36w : (IntKind.i64.wrap (x5_1 + 4)) = ji36 := (i64_w _).trans hji36
             by_cases c37 : 0 ≤ (ji36)
             rotate_left
             ·rw [if_neg c37] at H; exact absurd H (by simp)
             rw [if_pos c37] at H
             have c37b0 : decide (0 ≤ (ji36)) = true := decide_eq_true c37
             clear c37
             by_cases c38 : (ji36) < (a0.size : Int)
             rotate_left
             ·rw [if_neg c38] at H; exact absurd H (by simp)
             rw [if_pos c38] at H
             have c38b0 : decide ((ji36) < (a0.size : Int)) = true := decide_eq_true c38
             clear c38
             replace H := Option.bind_eq_some_iff.mp H
             obtain ⟨t122, A400, H⟩ := H
             replace H : (if t122 ≥ 0 then (if 0 ≤ (wrap64 (x5_1 + 5)) then ((exequaturref01_hex.f kj8 (bt a0 (wrap64 (x5_1 + 5)))).bind fun t123 => (exequaturref01_word.j2 kj8 a0 x4_1 x5_1 (decide (t123 ≥ 0)))) else (none)) else (exequaturref01_word.j2 kj8 a0 x4_1 x5_1 false)) = some (r1, r2) := H
             have A40 := Aside0.mk A400
             clear A400
             by_cases c41 : t122 ≥ 0
             ·rw [if_pos c41] at H
              have c41b0 : decide (0 ≤ t122) = true := decide_eq_true c41
              clear c41
              obtain ⟨ji42, hji42⟩ : ∃ j_ : Int, (wrap64 (x5_1 + 5)) = j_ := ⟨_, rfl⟩
              replace H : (if 0 ≤ (ji42) then ((exequaturref01_hex.f kj8 (bt a0 (ji42))).bind fun t123 => (exequaturref01_word.j2 kj8 a0 x4_1 x5_1 (decide (t123 ≥ 0)))) else (none)) = some (r1, r2) := by first | (rw [hji42] at H; exact H) | (simp only [hji42] at H ⊢; exact H)
              (try rw [hji42] at c30b0)
              (try rw [hji42] at A40)
              have hji42w : (IntKind.i64.wrap (x5_1 + 5)) = ji42 := (i64_w _).trans hji42
              by_cases c43 : 0 ≤ (ji42)
              rotate_left
              ·rw [if_neg c43] at H; exact absurd H (by simp)
              rw [if_pos c43] at H
              have c43b0 : decide (0 ≤ (ji42)) = true := decide_eq_true c43
              clear c43
              replace H := Option.bind_eq_some_iff.mp H
              obtain ⟨t123, A450, H⟩ := H
              replace H : (exequaturref01_word.j2 kj8 a0 x4_1 x5_1 (decide (t123 ≥ 0))) = some (r1, r2) := H
              have A45 := Aside0.mk A450
              clear A450
              have H' := Aside0.mk H
              clear H
              have p28 : 0 ≤ (x5_1 : Int) := of_decide_eq_true (by first | (with_reducible assumption) | assumption)
              have q28 : x5_1 < (a0.size : Int) := of_decide_eq_true (by first | (with_reducible assumption) | assumption)
              have hx28 := bt_at a0 x5_1
              replace p28 := eq_true p28
              replace q28 := eq_true q28
              have p39 : 0 ≤ ((ji36) : Int) := of_decide_eq_true (by first | (with_reducible assumption) | assumption)
              have q39 : (ji36) < (a0.size : Int) := of_decide_eq_true (by first | (with_reducible assumption) | assumption)
              have hx39 := bt_at a0 (ji36)
              replace p39 := eq_true p39
              replace q39 := eq_true q39
              go_wp2_with (first | (go_at_call 74; (with_reducible refine (exequaturref01_hex.calls kj8 (bt a0 (ji36)) t122 _ A40.out).mono ?_); rintro e w' ⟨rfl, ⟨nd, rfl⟩⟩; have p44 : 0 ≤ ((ji42) : Int) := of_decide_eq_true (by first | (with_reducible assumption) | assumption); have q44 : (ji42) < (a0.size : Int) := of_decide_eq_true (by first | (with_reducible assumption) | assumption); have hx44 := bt_at a0 (ji42); replace p44 := eq_true p44; replace q44 := eq_true q44) | (go_at_call 74; (with_reducible refine (exequaturref01_hex.calls kj8 (bt a0 (ji42)) t123 _ A45.out).mono ?_); rintro e w' ⟨rfl, ⟨nd, rfl⟩⟩))
              go_meet
              case rel => exact ⟨_, (decide (t123 ≥ 0)), (by first | rfl | (simp; done) | (simp [*]; done) | (refine congrArg Value.bool ?_; rw [Bool.eq_iff_iff]; simp; done)), H', ⟨by have := HK1.out; have := HJ8.out; first | omega | exact Nat.le_refl _⟩, ⟨by (with_reducible repeat (first | apply Kd.R_alloc | apply Kd.R_drewN | apply Kd.R_drew)); exact HO_4.out⟩, ⟨by repeat (first | (with_reducible first | exact HB.out | apply below_alloc | apply pw_below_drewN | apply below_drew1) | exact HB.out)⟩⟩
             ·rw [if_neg c41] at H
              have c41b0 : decide (0 ≤ t122) = false := decide_eq_false c41
              clear c41
              have H' := Aside0.mk H
              clear H
              have p28 : 0 ≤ (x5_1 : Int) := of_decide_eq_true (by first | (with_reducible assumption) | assumption)
              have q28 : x5_1 < (a0.size : Int) := of_decide_eq_true (by first | (with_reducible assumption) | assumption)
              have hx28 := bt_at a0 x5_1
              replace p28 := eq_true p28
              replace q28 := eq_true q28
              have p39 : 0 ≤ ((ji36) : Int) := of_decide_eq_true (by first | (with_reducible assumption) | assumption)
              have q39 : (ji36) < (a0.size : Int) := of_decide_eq_true (by first | (with_reducible assumption) | assumption)
              have hx39 := bt_at a0 (ji36)
              replace p39 := eq_true p39
              replace q39 := eq_true q39
              go_wp2_with (first | (go_at_call 74; (with_reducible refine (exequaturref01_hex.calls kj8 (bt a0 (ji36)) t122 _ A40.out).mono ?_); rintro e w' ⟨rfl, ⟨nd, rfl⟩⟩))
              go_meet
              case rel => exact ⟨_, (false), (by first | rfl | (simp; done) | (simp [*]; done) | (refine congrArg Value.bool ?_; rw [Bool.eq_iff_iff]; simp; done)), H', ⟨by have := HK1.out; have := HJ8.out; first | omega | exact Nat.le_refl _⟩, ⟨by (with_reducible repeat (first | apply Kd.R_alloc | apply Kd.R_drewN | apply Kd.R_drew)); exact HO_4.out⟩, ⟨by repeat (first | (with_reducible first | exact HB.out | apply below_alloc | apply pw_below_drewN | apply below_drew1) | exact HB.out)⟩⟩
            ·rw [if_neg c35] at H
             have c35b0 : ((a0.extract ((ji31) : Int).toNat ((wrap64 (x5_1 + 4)) : Int).toNat).toList == ([117, 48, 48] : List UInt8)) = false := beq_eq_false_iff_ne.mpr c35
             have c35b1 : ((a0.extract ((ji31) : Int).toNat ((wrap64 (x5_1 + 4)) : Int).toNat).toList != ([117, 48, 48] : List UInt8)) = true := bne_iff_ne.mpr c35
             have H' := Aside0.mk H
             clear H
             have p28 : 0 ≤ (x5_1 : Int) := of_decide_eq_true (by first | (with_reducible assumption) | assumption)
             have q28 : x5_1 < (a0.size : Int) := of_decide_eq_true (by first | (with_reducible assumption) | assumption)
             have hx28 := bt_at a0 x5_1
             replace p28 := eq_true p28
             replace q28 := eq_true q28
             go_wp2
             go_meet
             case rel => exact ⟨_, (false), (by first | rfl | (simp; done) | (simp [*]; done) | (refine congrArg Value.bool ?_; rw [Bool.eq_iff_iff]; simp; done)), H', ⟨by have := HK1.out; have := HJ8.out; first | omega | exact Nat.le_refl _⟩, ⟨by (with_reducible repeat (first | apply Kd.R_alloc | apply Kd.R_drewN | apply Kd.R_drew)); exact HO_4.out⟩, ⟨by repeat (first | (with_reducible first | exact HB.out | apply below_alloc | apply pw_below_drewN | apply below_drew1) | exact HB.out)⟩⟩
           ·rw [if_neg c30] at H
            have c30b0 : decide ((wrap64 (x5_1 + 5)) < (a0.size : Int)) = false := decide_eq_false c30
            clear c30
            have H' := Aside0.mk H
            clear H
            have p28 : 0 ≤ (x5_1 : Int) := of_decide_eq_true (by first | (with_reducible assumption) | assumption)
            have q28 : x5_1 < (a0.size : Int) := of_decide_eq_true (by first | (with_reducible assumption) | assumption)
            have hx28 := bt_at a0 x5_1
            replace p28 := eq_true p28
            replace q28 := eq_true q28
            go_wp2
            go_meet
            case rel => exact ⟨_, (false), (by first | rfl | (simp; done) | (simp [*]; done) | (refine congrArg Value.bool ?_; rw [Bool.eq_iff_iff]; simp; done)), H', ⟨by have := HK1.out; have := HJ8.out; first | omega | exact Nat.le_refl _⟩, ⟨by (with_reducible repeat (first | apply Kd.R_alloc | apply Kd.R_drewN | apply Kd.R_drew)); exact HO_4.out⟩, ⟨by repeat (first | (with_reducible first | exact HB.out | apply below_alloc | apply pw_below_drewN | apply below_drew1) | exact HB.out)⟩⟩
          ·rw [if_neg c29] at H
           have c29b0 : ((bt a0 x5_1) == 92) = false := beq_eq_false_iff_ne.mpr c29
           have c29b1 : ((bt a0 x5_1) != 92) = true := bne_iff_ne.mpr c29
           have H' := Aside0.mk H
           clear H
           have p28 : 0 ≤ (x5_1 : Int) := of_decide_eq_true (by first | (with_reducible assumption) | assumption)
           have q28 : x5_1 < (a0.size : Int) := of_decide_eq_true (by first | (with_reducible assumption) | assumption)
           have hx28 := bt_at a0 x5_1
           replace p28 := eq_true p28
           replace q28 := eq_true q28
           go_wp2
           go_meet
           case rel => exact ⟨_, (false), (by first | rfl | (simp; done) | (simp [*]; done) | (refine congrArg Value.bool ?_; rw [Bool.eq_iff_iff]; simp; done)), H', ⟨by have := HK1.out; have := HJ8.out; first | omega | exact Nat.le_refl _⟩, ⟨by (with_reducible repeat (first | apply Kd.R_alloc | apply Kd.R_drewN | apply Kd.R_drew)); exact HO_4.out⟩, ⟨by repeat (first | (with_reducible first | exact HB.out | apply below_alloc | apply pw_below_drewN | apply below_drew1) | exact HB.out)⟩⟩
         case rest =>
          clear HC25; try clear c1; try clear p1; try clear q1; try clear hx1; try clear c2; try clear p2; try clear q2; try clear hx2; try clear c3; try clear p3; try clear q3; try clear hx3; try clear c4; try clear c4b0; try clear p4; try clear q4; try clear hx4; try clear c5; try clear c5b0; try clear p6; try clear q6; try clear hx6; try clear c7; try clear c7b0; try clear c7b1; try clear hcv8; try clear p10; try clear q10; try clear hx10; try clear c11; try clear c11b0; try clear c11b1; try clear c12; try clear c12b0; try clear c14; try clear c14b0; try clear p15; try clear q15; try clear hx15; try clear c16; try clear c16b0; try clear c16b1; try clear p17; try clear q17; try clear hx17; try clear c18; try clear c20; try clear c20b0; try clear c21; try clear c21b0; try clear p22; try clear q22; try clear hx22; try clear c23; try clear c26; try clear c26b0; try clear c27; try clear c27b0; try clear p28; try clear q28; try clear hx28; try clear c29; try clear c29b0; try clear c29b1; try clear c30; try clear c30b0; try clear c32; try clear c32b0; try clear c32b1; try clear c33; try clear c33b0; try clear c33b1; try clear c34; try clear c34b0; try clear c34b1; try clear c35; try clear c35b0; try clear c35b1; try clear c37; try clear c37b0; try clear c38; try clear c38b0; try clear p39; try clear q39; try clear hx39; try clear c41; try clear c41b0; try clear c43; try clear c43b0; try clear p44; try clear q44; try clear hx44; try clear p1; try clear p10; try clear p15; try clear p17; try clear p2; try clear p22; try clear p28; try clear p39; try clear p44; try clear p6; try clear q1; try clear q10; try clear q15; try clear q17; try clear q22; try clear q28; try clear q39; try clear q44; try clear q6
          obtain ⟨kq, x65_24, rfl, HA, HJ24, HO_4, HB⟩ := hcut
          cases kq with
          | zero => exact absurd HA.out (by simp [exequaturref01_word.j2])
          | succ kj24 =>
           have H := HA.out
           clear HA
           simp only [exequaturref01_word.j2] at H
           by_cases c46 : x65_24 = true
           ·subst c46
            have H1 : (if 0 ≤ (wrap64 (x5_1 + 4)) then (if (wrap64 (x5_1 + 4)) < (a0.size : Int) then ((exequaturref01_hex.f kj24 (bt a0 (wrap64 (x5_1 + 4)))).bind fun t124 => (if 0 ≤ (wrap64 (x5_1 + 5)) then (if (wrap64 (x5_1 + 5)) < (a0.size : Int) then ((exequaturref01_hex.f kj24 (bt a0 (wrap64 (x5_1 + 5)))).bind fun t125 => (if x4_1.length < 140737488355328 then (exequaturref01_word.l0 kj24 a0 (x4_1 ++ [(wrap64 ((wrap64 (16 * t124)) + t125)) % 256]) (wrap64 ((wrap64 (x5_1 + 5)) + 1))) else (none))) else (none)) else (none))) else (none)) else (none)) = some (r1, r2) := by rw [if_pos rfl] at H; exact H
            clear H
            have H := H1
            clear H1
            obtain ⟨ji47, hji47⟩ : ∃ j_ : Int, (wrap64 (x5_1 + 4)) = j_ := ⟨_, rfl⟩
            replace H : (if 0 ≤ (ji47) then (if (ji47) < (a0.size : Int) then ((exequaturref01_hex.f kj24 (bt a0 (ji47))).bind fun t124 => (if 0 ≤ (wrap64 (x5_1 + 5)) then (if (wrap64 (x5_1 + 5)) < (a0.size : Int) then ((exequaturref01_hex.f kj24 (bt a0 (wrap64 (x5_1 + 5)))).bind fun t125 => (if x4_1.length < 140737488355328 then (exequaturref01_word.l0 kj24 a0 (x4_1 ++ [(wrap64 ((wrap64 (16 * t124)) + t125)) % 256]) (wrap64 ((wrap64 (x5_1 + 5)) + 1))) else (none))) else (none)) else (none))) else (none)) else (none)) = some (r1, r2) := by first | (rw [hji47] at H; exact H) | (simp only [hji47] at H ⊢; exact H)
            have hji47w : (IntKind.i64.wrap (x5_1 + 4)) = ji47 := (i64_w _).trans hji47
            by_cases c48 : 0 ≤ (ji47)
            rotate_left
            ·rw [if_neg c48] at H; exact absurd H (by simp)
            rw [if_pos c48] at H
            have c48b0 : decide (0 ≤ (ji47)) = true := decide_eq_true c48
            clear c48
            by_cases c49 : (ji47) < (a0.size : Int)
            rotate_left
            ·rw [if_neg c49] at H; exact absurd H (by simp)
            rw [if_pos c49] at H
            have c49b0 : decide ((ji47) < (a0.size : Int)) = true := decide_eq_true c49
            clear c49
            replace H := Option.bind_eq_some_iff.mp H
            obtain ⟨t124, A510, H⟩ := H
            replace H : (if 0 ≤ (wrap64 (x5_1 + 5)) then (if (wrap64 (x5_1 + 5)) < (a0.size : Int) then ((exequaturref01_hex.f kj24 (bt a0 (wrap64 (x5_1 + 5)))).bind fun t125 => (if x4_1.length < 140737488355328 then (exequaturref01_word.l0 kj24 a0 (x4_1 ++ [(wrap64 ((wrap64 (16 * t124)) + t125)) % 256]) (wrap64 ((wrap64 (x5_1 + 5)) + 1))) else (none))) else (none)) else (none)) = some (r1, r2) := H
            have A51 := Aside0.mk A510
            clear A510
            obtain ⟨ji52, hji52⟩ : ∃ j_ : Int, (wrap64 (x5_1 + 5)) = j_ := ⟨_, rfl⟩
            replace H : (if 0 ≤ (ji52) then (if (ji52) < (a0.size : Int) then ((exequaturref01_hex.f kj24 (bt a0 (ji52))).bind fun t125 => (if x4_1.length < 140737488355328 then (exequaturref01_word.l0 kj24 a0 (x4_1 ++ [(wrap64 ((wrap64 (16 * t124)) + t125)) % 256]) (wrap64 ((ji52) + 1))) else (none))) else (none)) else (none)) = some (r1, r2) := by first | (rw [hji52] at H; exact H) | (simp only [hji52] at H ⊢; exact H)
            (try rw [hji52] at A51)
            have hji52w : (IntKind.i64.wrap (x5_1 + 5)) = ji52 := (i64_w _).trans hji52
            by_cases c53 : 0 ≤ (ji52)
            rotate_left
            ·rw [if_neg c53] at H; exact absurd H (by simp)
            rw [if_pos c53] at H
            have c53b0 : decide (0 ≤ (ji52)) = true := decide_eq_true c53
            clear c53
            by_cases c54 : (ji52) < (a0.size : Int)
            rotate_left
            ·rw [if_neg c54] at H; exact absurd H (by simp)
            rw [if_pos c54] at H
            have c54b0 : decide ((ji52) < (a0.size : Int)) = true := decide_eq_true c54
            clear c54
            replace H := Option.bind_eq_some_iff.mp H
            obtain ⟨t125, A560, H⟩ := H
            replace H : (if x4_1.length < 140737488355328 then (exequaturref01_word.l0 kj24 a0 (x4_1 ++ [(wrap64 ((wrap64 (16 * t124)) + t125)) % 256]) (wrap64 ((ji52) + 1))) else (none)) = some (r1, r2) := H
            have A56 := Aside0.mk A560
            clear A560
            by_cases c57 : x4_1.length < 140737488355328
            rotate_left
            ·rw [if_neg c57] at H; exact absurd H (by simp)
            rw [if_pos c57] at H
            have LMc57 := Aside0.mk c57
            clear c57
            obtain ⟨y126, hy126⟩ : ∃ y_ : List Int, y_ = (x4_1 ++ [(wrap64 ((wrap64 (16 * t124)) + t125)) % 256]) := ⟨_, rfl⟩
            replace H : (exequaturref01_word.l0 kj24 a0 y126 (wrap64 ((ji52) + 1))) = some (r1, r2) := by first | (rw [hy126]; with_reducible exact H) | (have H2_ := (Option.bind_some _ _).symm.trans H; rw [hy126]; with_reducible exact H2_) | (have H2_ := (Option.bind_some _ _).symm.trans H; with_reducible exact H2_) | with_reducible exact H | (rw [hy126]; exact H) | exact H
            have Ny126 := Aside0.mk hy126
            clear hy126
            have H' := Aside0.mk H
            clear H
            try go_wp2
            have n0_ := Aside0.mk (Kd.R_drew HO_4.out)
            have n1_ := Aside0.mk (below_drew1 HB.out)
            clear HO_4; clear HB
            have HO_4 := n0_
            have HB := n1_
            clear n0_ n1_
            have p50 : 0 ≤ ((ji47) : Int) := of_decide_eq_true (by first | (with_reducible assumption) | assumption)
            have q50 : (ji47) < (a0.size : Int) := of_decide_eq_true (by first | (with_reducible assumption) | assumption)
            have hx50 := bt_at a0 (ji47)
            replace p50 := eq_true p50
            replace q50 := eq_true q50
            have p55 : 0 ≤ ((ji52) : Int) := of_decide_eq_true (by first | (with_reducible assumption) | assumption)
            have q55 : (ji52) < (a0.size : Int) := of_decide_eq_true (by first | (with_reducible assumption) | assumption)
            have hx55 := bt_at a0 (ji52)
            replace p55 := eq_true p55
            replace q55 := eq_true q55
            refine start_ (n := 17) (S := fun w' => True) (ds := []) #[false, false, false, false, false, false, false, false, false, false, false, false, false, false, false, false, false] (by kernel_rfl) rfl rfl trivial (fun hHeld => ?_); refine with_tabW exequaturref01_word.tab14 exequaturref01_word.bits14 (fun HT_ HW_ => ?_)
            generalize wc.drew = w58 at HO_4 HB hHeld ⊢
            refine pure_ (i := 0) (N := some 102) (v := ?_) (a' := ?_) #[true, false, false, false, false, false, false, false, false, false, false, false, false, false, false, false, false] rfl rfl (any_of HT_.out (by kernel_rfl)) (fun _ _ _ h => h) (Or.inl ⟨by rfl, ?_⟩) ?_ ?_
            rotate_left
            ·intro w'
             go_simp
             with_reducible rfl
            rotate_left
            ·simp only [Act.put, List.setIfInBounds_toArray, List.set_cons_zero, List.set_cons_succ, i64_w, i32_w]
             rfl
            refine pure_ (i := 1) (N := some 103) (v := ?_) (a' := ?_) #[true, true, false, false, false, false, false, false, false, false, false, false, false, false, false, false, false] rfl rfl (any_of HT_.out (by kernel_rfl)) (fun _ _ _ h => h) (Or.inl ⟨by rfl, ?_⟩) ?_ ?_
            rotate_left
            ·intro w'
             go_simp
             with_reducible rfl
            rotate_left
            ·simp only [Act.put, List.setIfInBounds_toArray, List.set_cons_zero, List.set_cons_succ, i64_w, i32_w]
             rfl
            refine pure_ (i := 2) (N := some 104) (v := ?_) (a' := ?_) #[true, true, true, false, false, false, false, false, false, false, false, false, false, false, false, false, false] rfl rfl (any_of HT_.out (by kernel_rfl)) (fun _ _ _ h => h) (Or.inl ⟨by rfl, ?_⟩) ?_ ?_
            rotate_left
            ·intro w'
             go_simp
             with_reducible rfl
            rotate_left
            ·simp only [Act.put, List.setIfInBounds_toArray, List.set_cons_zero, List.set_cons_succ, i64_w, i32_w]
             rfl
            refine pure_ (i := 3) (N := some 105) (v := ?_) (a' := ?_) #[true, true, true, true, false, false, false, false, false, false, false, false, false, false, false, false, false] rfl rfl (any_of HT_.out (by kernel_rfl)) (fun _ _ _ h => h) (Or.inl ⟨by rfl, ?_⟩) ?_ ?_
            rotate_left
            ·intro w'
             go_simp
             with_reducible rfl
            rotate_left
            ·simp only [Act.put, List.setIfInBounds_toArray, List.set_cons_zero, List.set_cons_succ, i64_w, i32_w]
             rfl
            refine pure_ (i := 7) (N := some 109) (v := ?_) (a' := ?_) #[true, true, true, true, false, false, false, true, false, false, false, false, false, false, false, false, false] rfl rfl (any_of HT_.out (by kernel_rfl)) (fun _ _ _ h => h) (Or.inl ⟨by rfl, ?_⟩) ?_ ?_
            rotate_left
            ·intro w'
             go_simp
             with_reducible rfl
            rotate_left
            ·simp only [Act.put, List.setIfInBounds_toArray, List.set_cons_zero, List.set_cons_succ, i64_w, i32_w]
             rfl
            refine pure_ (i := 8) (N := some 110) (v := ?_) (a' := ?_) #[true, true, true, true, false, false, false, true, true, false, false, false, false, false, false, false, false] rfl rfl (any_of HT_.out (by kernel_rfl)) (fun _ _ _ h => h) (Or.inl ⟨by rfl, ?_⟩) ?_ ?_
            rotate_left
            ·intro w'
             go_simp
             with_reducible rfl
            rotate_left
            ·simp only [Act.put, List.setIfInBounds_toArray, List.set_cons_zero, List.set_cons_succ, i64_w, i32_w]
             rfl
            refine pure_ (i := 9) (N := some 111) (v := ?_) (a' := ?_) #[true, true, true, true, false, false, false, true, true, true, false, false, false, false, false, false, false] rfl rfl (any_of HT_.out (by kernel_rfl)) (fun _ _ _ h => h) (Or.inl ⟨by rfl, ?_⟩) ?_ ?_
            rotate_left
            ·intro w'
             go_simp
             with_reducible rfl
            rotate_left
            ·simp only [Act.put, List.setIfInBounds_toArray, List.set_cons_zero, List.set_cons_succ, i64_w, i32_w]
             rfl
            refine take_ (i := 4) (N := some 106) (v := ?_) (a' := ?_) #[true, true, true, true, true, false, false, true, true, true, false, false, false, false, false, false, false] rfl rfl (take_ofW HT_.out HW_.out (by kernel_rfl)) (fun _ _ _ h => h) (Or.inl ⟨by rfl, ?_⟩) hHeld ?_ ?_
            rotate_left
            ·intro w' _
             go_simp
             with_reducible rfl
            rotate_left
            ·simp only [Act.put, List.setIfInBounds_toArray, List.set_cons_zero, List.set_cons_succ, i64_w, i32_w]
             rfl
            refine take_ (i := 10) (N := some 112) (v := ?_) (a' := ?_) #[true, true, true, true, true, false, false, true, true, true, true, false, false, false, false, false, false] rfl rfl (take_ofW HT_.out HW_.out (by kernel_rfl)) (fun _ _ _ h => h) (Or.inl ⟨by rfl, ?_⟩) hHeld ?_ ?_
            rotate_left
            ·intro w' _
             go_simp
             with_reducible rfl
            rotate_left
            ·simp only [Act.put, List.setIfInBounds_toArray, List.set_cons_zero, List.set_cons_succ, i64_w, i32_w]
             rfl
            refine one_ (i := 5) (N := some 107) #[true, true, true, true, true, true, false, true, true, true, true, false, false, false, false, false, false] rfl rfl (one_of HT_.out (by kernel_rfl)) (by decide) (fun K hK => ?_)
            refine goes_ Tryz.func74 (by kernel_rfl) rfl #[.int .u8 (bt a0 (ji47))] (by rfl) rfl rfl (by (try simp only [List.map_toArray, List.map_cons, List.map_nil]); first | done | (simp only [hji47]; rfl) | rfl | (simp only [List.length_drop, List.length_take]; rfl)) ?_
            with_reducible refine (exequaturref01_hex.calls kj24 (bt a0 (ji47)) t124 _ A51.out).mono ?_
            rintro e w' ⟨rfl, ⟨nd, rfl⟩⟩
            refine ⟨_, rfl, ?_⟩
            refine hK.out _ _ trivial (fun hHeld => ?_)
            clear hK K
            refine norm_ (a' := ?_) ?_ ?_
            rotate_left
            ·show Act.put _ (some 107) _ = _
             simp only [Act.put, List.setIfInBounds_toArray, List.set_cons_zero, List.set_cons_succ, i64_w, i32_w]
             rfl
            refine pure_ (i := 6) (N := some 108) (v := ?_) (a' := ?_) #[true, true, true, true, true, true, true, true, true, true, true, false, false, false, false, false, false] rfl rfl (any_of HT_.out (by kernel_rfl)) (fun _ _ _ h => h) (Or.inl ⟨by rfl, ?_⟩) ?_ ?_
            rotate_left
            ·intro w'
             go_simp
             with_reducible rfl
            rotate_left
            ·simp only [Act.put, List.setIfInBounds_toArray, List.set_cons_zero, List.set_cons_succ, i64_w, i32_w]
             rfl
            refine one_ (i := 11) (N := some 113) #[true, true, true, true, true, true, true, true, true, true, true, true, false, false, false, false, false] rfl rfl (one_of HT_.out (by kernel_rfl)) (by decide) (fun K hK => ?_)
            refine goes_ Tryz.func74 (by kernel_rfl) rfl #[.int .u8 (bt a0 (ji52))] (by rfl) rfl rfl (by (try simp only [List.map_toArray, List.map_cons, List.map_nil]); first | done | (simp only [hji52]; rfl) | rfl | (simp only [List.length_drop, List.length_take]; rfl)) ?_
            with_reducible refine (exequaturref01_hex.calls kj24 (bt a0 (ji52)) t125 _ A56.out).mono ?_
            rintro e w' ⟨rfl, ⟨nd, rfl⟩⟩
            refine ⟨_, rfl, ?_⟩
            refine hK.out _ _ trivial (fun hHeld => ?_)
            clear hK K
            refine norm_ (a' := ?_) ?_ ?_
            rotate_left
            ·show Act.put _ (some 113) _ = _
             simp only [Act.put, List.setIfInBounds_toArray, List.set_cons_zero, List.set_cons_succ, i64_w, i32_w]
             rfl
            refine pure_ (i := 12) (N := some 114) (v := ?_) (a' := ?_) #[true, true, true, true, true, true, true, true, true, true, true, true, true, false, false, false, false] rfl rfl (any_of HT_.out (by kernel_rfl)) (fun _ _ _ h => h) (Or.inl ⟨by rfl, ?_⟩) ?_ ?_
            rotate_left
            ·intro w'
             go_simp
             with_reducible rfl
            rotate_left
            ·simp only [Act.put, List.setIfInBounds_toArray, List.set_cons_zero, List.set_cons_succ, i64_w, i32_w]
             rfl
            refine pure_ (i := 13) (N := some 115) (v := ?_) (a' := ?_) #[true, true, true, true, true, true, true, true, true, true, true, true, true, true, false, false, false] rfl rfl (any_of HT_.out (by kernel_rfl)) (fun _ _ _ h => h) (Or.inl ⟨by rfl, ?_⟩) ?_ ?_
            rotate_left
            ·intro w'
             go_simp
             with_reducible rfl
            rotate_left
            ·simp only [Act.put, List.setIfInBounds_toArray, List.set_cons_zero, List.set_cons_succ, i64_w, i32_w]
             rfl
            refine one_ (i := 14) (N := some 116) #[true, true, true, true, true, true, true, true, true, true, true, true, true, true, true, false, false] rfl rfl (one_of HT_.out (by kernel_rfl)) (by decide) (fun K hK => ?_)
            refine value_ (w1 := ?_) (v := ?_) (by rfl) rfl ?_ ?_
            rotate_left 2
            ·go_simp
             constructor
             ·rfl
             ·rfl
            refine hK.out _ _ trivial (fun hHeld => ?_)
            clear hK K
            refine norm_ (a' := ?_) ?_ ?_
            rotate_left
            ·show Act.put _ (some 116) _ = _
             simp only [Act.put, List.setIfInBounds_toArray, List.set_cons_zero, List.set_cons_succ, i64_w, i32_w]
             rfl
            refine one_ (i := 15) (N := some 117) #[true, true, true, true, true, true, true, true, true, true, true, true, true, true, true, true, false] rfl rfl (one_of HT_.out (by kernel_rfl)) (by decide) (fun K hK => ?_)
            refine Kd.R_append_step (Kd.int .u8) (w0 := w) w.heap.size (by rfl) (.tmp 102) (.tmp 116) 77 5 (.int .u8 0) 1 rfl Tryz.underlying77 info5 rfl (by decide) (by omega) u4 x4_1 ((wrap64 ((wrap64 (16 * t124)) + t125)) % 256) [.int .u8 ((wrap64 ((wrap64 (16 * t124)) + t125)) % 256)] (fun _ => True) (fun _ => False) rfl rfl ?aP (fun _ hk => hk.elim) ?aF ?aO ?aB ?aS ?aL ?_
            (case aP => exact rfl)
            (case aB => exact (by repeat (first | (with_reducible first | exact HB.out | apply below_alloc | apply pw_below_drewN | apply below_drew1) | exact HB.out)))
            (case aF => exact (fun _ _ => trivial))
            (case aO => exact (by (with_reducible repeat (first | apply Kd.R_alloc | apply Kd.R_drewN | apply Kd.R_drew)); exact HO_4.out))
            (case aS => exact (below_size (by repeat (first | (with_reducible first | exact HB.out | apply below_alloc | apply pw_below_drewN | apply below_drew1) | exact HB.out))))
            (case aL => have := LMc57.out; omega)
            intro v127 w59 ho hb hg hat
            rw [← Ny126.out] at ho
            have n0_ := Aside0.mk (hb)
            have n1_ := Aside0.mk (ho)
            clear HB; clear HO_4
            have HB := n0_
            have HO128 := n1_
            clear n0_ n1_; clear ho hb hg hat
            refine hK.out _ _ trivial (fun hHeld => ?_)
            clear hK K
            refine norm_ (a' := ?_) ?_ ?_
            rotate_left
            ·show Act.put _ (some 117) _ = _
             simp only [Act.put, List.setIfInBounds_toArray, List.set_cons_zero, List.set_cons_succ, i64_w, i32_w]
             rfl
            refine pure_ (i := 16) (N := some 4) (v := ?_) (a' := ?_) #[true, true, true, true, true, true, true, true, true, true, true, true, true, true, true, true, true] rfl rfl (any_of HT_.out (by kernel_rfl)) (fun _ _ _ h => h) (Or.inl ⟨by rfl, ?_⟩) ?_ ?_
            rotate_left
            ·intro w'
             go_simp
             with_reducible rfl
            rotate_left
            ·simp only [Act.put, List.setIfInBounds_toArray, List.set_cons_zero, List.set_cons_succ, i64_w, i32_w]
             rfl
            refine done_ (done_of HT_.out (by kernel_rfl)) ?_
            try go_wp2
            go_roundg kj24
            case measure => have := HK1.out; have := HJ8.out; have := HJ24.out; omega
            case rel => exact ⟨(y126), (wrap64 ((ji52) + 1)), (by first | rfl | (simp; done) | (simp only [← hji52] <;> (first | rfl | simp)) | (simp [*]; done)), H', ⟨by have := HK1.out; have := HJ8.out; have := HJ24.out; omega⟩, ⟨by (with_reducible repeat (first | apply Kd.R_alloc | apply Kd.R_drewN | apply Kd.R_drew)); exact HO128.out⟩, ⟨by repeat (first | (with_reducible first | exact HB.out | apply below_alloc | apply pw_below_drewN | apply below_drew1) | exact HB.out)⟩⟩
           ·replace c46 := Bool.eq_false_iff.mpr c46
            subst c46
            have H1 : (if 0 ≤ x5_1 then (if x5_1 < (a0.size : Int) then (if (bt a0 x5_1) = 92 then (some ((⟨#[]⟩ : ByteArray), 0)) else (if x4_1.length < 140737488355328 then (exequaturref01_word.l0 kj24 a0 (x4_1 ++ [bt a0 x5_1]) (wrap64 (x5_1 + 1))) else (none))) else (none)) else (none)) = some (r1, r2) := by rw [if_neg (show ¬ (false = true) by decide)] at H; exact H
            clear H
            have H := H1
            clear H1
            by_cases c60 : 0 ≤ x5_1
            rotate_left
            ·rw [if_neg c60] at H; exact absurd H (by simp)
            rw [if_pos c60] at H
            have c60b0 : decide (0 ≤ x5_1) = true := decide_eq_true c60
            clear c60
            by_cases c61 : x5_1 < (a0.size : Int)
            rotate_left
            ·rw [if_neg c61] at H; exact absurd H (by simp)
            rw [if_pos c61] at H
            have c61b0 : decide (x5_1 < (a0.size : Int)) = true := decide_eq_true c61
            clear c61
            by_cases c63 : (bt a0 x5_1) = 92
            ·rw [if_pos c63] at H
             have c63b0 : ((bt a0 x5_1) == 92) = true := beq_iff_eq.mpr c63
             have c63b1 : ((bt a0 x5_1) != 92) = false := bne_eq_false_iff_eq.mpr c63
             clear c63
             simp only [Option.some.injEq, Prod.mk.injEq] at H
             obtain ⟨rfl, rfl⟩ := H
             have p62 : 0 ≤ (x5_1 : Int) := of_decide_eq_true (by first | (with_reducible assumption) | assumption)
             have q62 : x5_1 < (a0.size : Int) := of_decide_eq_true (by first | (with_reducible assumption) | assumption)
             have hx62 := bt_at a0 x5_1
             replace p62 := eq_true p62
             replace q62 := eq_true q62
             go_wp2
             go_ret2
             first | (exact ⟨by first | rfl | (simp [errW_none, errW_some] <;> rfl) | (simp [*, errW_none, errW_some] <;> rfl), by repeat (first | (with_reducible first | exact HB.out | apply below_alloc | apply pw_below_drewN | apply below_drew1) | exact HB.out)⟩) | (focus (exfalso; simp_all; done))
             all_goals (first | (exfalso; simp_all <;> omega) | (go_ret; exact ⟨by first | rfl | (simp [errW_none, errW_some] <;> rfl) | (simp [*, errW_none, errW_some] <;> rfl), by repeat (first | (with_reducible first | exact HB.out | apply below_alloc | apply pw_below_drewN | apply below_drew1) | exact HB.out)⟩))
            ·rw [if_neg c63] at H
             have c63b0 : ((bt a0 x5_1) == 92) = false := beq_eq_false_iff_ne.mpr c63
             have c63b1 : ((bt a0 x5_1) != 92) = true := bne_iff_ne.mpr c63
             by_cases c65 : x4_1.length < 140737488355328
             rotate_left
             ·rw [if_neg c65] at H; exact absurd H (by simp)
             rw [if_pos c65] at H
             have LMc65 := Aside0.mk c65
             clear c65
             obtain ⟨y129, hy129⟩ : ∃ y_ : List Int, y_ = (x4_1 ++ [bt a0 x5_1]) := ⟨_, rfl⟩
             replace H : (exequaturref01_word.l0 kj24 a0 y129 (wrap64 (x5_1 + 1))) = some (r1, r2) := by first | (rw [hy129]; with_reducible exact H) | (have H2_ := (Option.bind_some _ _).symm.trans H; rw [hy129]; with_reducible exact H2_) | (have H2_ := (Option.bind_some _ _).symm.trans H; with_reducible exact H2_) | with_reducible exact H | (rw [hy129]; exact H) | exact H
             have Ny129 := Aside0.mk hy129
             clear hy129
             have H' := Aside0.mk H
             clear H
             have p62 : 0 ≤ (x5_1 : Int) := of_decide_eq_true (by first | (with_reducible assumption) | assumption)
             have q62 : x5_1 < (a0.size : Int) := of_decide_eq_true (by first | (with_reducible assumption) | assumption)
             have hx62 := bt_at a0 x5_1
             replace p62 := eq_true p62
             replace q62 := eq_true q62
             have p64 : 0 ≤ (x5_1 : Int) := of_decide_eq_true (by first | (with_reducible assumption) | assumption)
             have q64 : x5_1 < (a0.size : Int) := of_decide_eq_true (by first | (with_reducible assumption) | assumption)
             have hx64 := bt_at a0 x5_1
             replace p64 := eq_true p64
             replace q64 := eq_true q64
             go_wp2_with (first | ((with_reducible refine gate_builtin (b := .append) (xs := #[.tmp 15, .tmp 19]) rfl ?_); (try (refine gate_guard (by rfl) ?_; dsimp only)); at_builtin; refine Kd.R_append (Kd.int .u8) (w0 := w) w.heap.size rfl (.tmp 15) (.tmp 19) 77 5 (.int .u8 0) 1 rfl Tryz.underlying77 info5 rfl (by decide) (by omega) u4 x4_1 (bt a0 x5_1) [.int .u8 (bt a0 x5_1)] (fun _ => True) (fun _ => False) rfl rfl ?aP (fun _ hk => hk.elim) ?aF ?aO ?aB ?aS ?aL ?_; (case aP => exact rfl); (case aB => exact (by repeat (first | (with_reducible first | exact HB.out | apply below_alloc | apply pw_below_drewN | apply below_drew1) | exact HB.out))); (case aF => exact (fun _ _ => trivial)); (case aO => exact (by (with_reducible repeat (first | apply Kd.R_alloc | apply Kd.R_drewN | apply Kd.R_drew)); exact HO_4.out)); (case aS => exact (below_size (by repeat (first | (with_reducible first | exact HB.out | apply below_alloc | apply pw_below_drewN | apply below_drew1) | exact HB.out)))); (case aL => have := LMc65.out; omega); intro v130 w66 ho hb hg hat; rw [← Ny129.out] at ho; have n0_ := Aside0.mk (hb); have n1_ := Aside0.mk (ho); clear HB; clear HO_4; have HB := n0_; have HO131 := n1_; clear n0_ n1_; clear ho hb hg hat))
             go_roundg kj24
             case measure => have := HK1.out; have := HJ8.out; have := HJ24.out; omega
             case rel => exact ⟨(y129), (wrap64 (x5_1 + 1)), (by first | rfl | (simp; done) | (simp [*]; done) | (refine congrArg Value.bool ?_; rw [Bool.eq_iff_iff]; simp; done)), H', ⟨by have := HK1.out; have := HJ8.out; have := HJ24.out; omega⟩, ⟨by (with_reducible repeat (first | apply Kd.R_alloc | apply Kd.R_drewN | apply Kd.R_drew)); exact HO131.out⟩, ⟨by repeat (first | (with_reducible first | exact HB.out | apply below_alloc | apply pw_below_drewN | apply below_drew1) | exact HB.out)⟩⟩
    ·rw [if_neg c4] at H
     have c4b0 : decide (x5_1 < (a0.size : Int)) = false := decide_eq_false c4
     clear c4
     simp only [Option.some.injEq, Prod.mk.injEq] at H
     obtain ⟨rfl, rfl⟩ := H
     go_wp2
     go_ret2
     first | (exact ⟨by first | rfl | (simp [errW_none, errW_some] <;> rfl) | (simp [*, errW_none, errW_some] <;> rfl), by repeat (first | (with_reducible first | exact HB.out | apply below_alloc | apply pw_below_drewN | apply below_drew1) | exact HB.out)⟩) | (focus (exfalso; simp_all; done))
     all_goals (first | (exfalso; simp_all <;> omega) | (go_ret; exact ⟨by first | rfl | (simp [errW_none, errW_some] <;> rfl) | (simp [*, errW_none, errW_some] <;> rfl), by repeat (first | (with_reducible first | exact HB.out | apply below_alloc | apply pw_below_drewN | apply below_drew1) | exact HB.out)⟩))
 ·replace c3 := Bool.eq_false_iff.mpr c3
  subst c3
  have H1 : (some ((⟨#[]⟩ : ByteArray), 0)) = some (r1, r2) := by rw [if_neg (show ¬ (false = true) by decide)] at H; exact H
  clear H
  have H := H1
  clear H1
  simp only [Option.some.injEq, Prod.mk.injEq] at H
  obtain ⟨rfl, rfl⟩ := H
  go_enter Tryz.func52, Tryz.ntmps52
  go_wp2_with (first | ((with_reducible refine gate_callee (f := 51) rfl ?_); refine goesL_ (some 7) rfl rfl Tryz.func51 (by kernel_rfl) rfl #[.string a0, .string (⟨#[34]⟩ : ByteArray)] rfl (by (try simp only [List.map_toArray, List.map_cons, List.map_nil]); first | done | rfl | (simp only [List.length_drop, List.length_take]; rfl)) ?_; (with_reducible refine (exequaturref01_begins.calls a0 (⟨#[34]⟩ : ByteArray) false _ A2.out).mono ?_); rintro e w' ⟨rfl, ⟨nd, rfl⟩⟩; refine ⟨_, rfl, ?_⟩))
  go_ret2
  first | (exact ⟨by first | rfl | (simp [errW_none, errW_some] <;> rfl) | (simp [*, errW_none, errW_some] <;> rfl), by repeat (first | (with_reducible first | exact HB.out | apply below_alloc | apply pw_below_drewN | apply below_drew1) | exact HB.out)⟩) | (focus (exfalso; simp_all; done))
  all_goals (first | (exfalso; simp_all <;> omega) | (go_ret; exact ⟨by first | rfl | (simp [errW_none, errW_some] <;> rfl) | (simp [*, errW_none, errW_some] <;> rfl), by repeat (first | (with_reducible first | exact HB.out | apply below_alloc | apply pw_below_drewN | apply below_drew1) | exact HB.out)⟩))

end Go.Proofs.YtifejhbochkifaaGreatDoor.X
