-- Lean text made by xprint.py (ours) out of the seat's translation. Lean checks it.
import Derived.Test.YtifejhbochkifaaGreatDoorX0
namespace Go.Proofs.YtifejhbochkifaaGreatDoor.X
open Go.RowKit Go.Proofs.YtifejhbochkifaaGreatDoorW.PrintWords Go.Proofs.YtifejhbochkifaaGreatDoorW.PrintLast Go.Proofs.YtifejhbochkifaaGreatDoorW.PrintMore
attribute [local go_sem] max2_int min2_int max_two min_two max_three min_three max_four min_four   -- for this text's walks alone
set_option linter.unusedVariables false
set_option linter.unusedSimpArgs false

/-! ### exequaturref01_Fits: function 19 -/
mutual
def exequaturref01_Fits.j0 : Nat → Int → Bool → Int → Int → ByteArray → List (S25) → List ByteArray → Option (Bool)
  | 0, _, _, _, _, _, _, _ => none
  | k + 1, x1, x20, x114000, x114001, x114002, x114003, x114004 => if x20 = true then (some false) else (if x114000 = 5 then (exequaturref01_Fits.j1 k x1 true x114000 x114001 x114002 x114003 x114004) else (exequaturref01_Fits.j1 k x1 (x114000 == 6) x114000 x114001 x114002 x114003 x114004))
def exequaturref01_Fits.j1 : Nat → Int → Bool → Int → Int → ByteArray → List (S25) → List ByteArray → Option (Bool)
  | 0, _, _, _, _, _, _, _ => none
  | k + 1, x1, x5, x114000, x114001, x114002, x114003, x114004 => if x114000 = 2 then (if x114001 = 0 then (exequaturref01_Fits.j2 k x1 x5 false x114000 x114001 x114002 x114003 x114004) else (exequaturref01_Fits.j2 k x1 x5 (x114001 != 1) x114000 x114001 x114002 x114003 x114004)) else (exequaturref01_Fits.j2 k x1 x5 false x114000 x114001 x114002 x114003 x114004)
def exequaturref01_Fits.j8 : Nat → Int → Int → Int → ByteArray → List (S25) → List ByteArray → Option (Bool)
  | 0, _, _, _, _, _, _ => none
  | k + 1, x1, x114000, x114001, x114002, x114003, x114004 => exequaturref01_Fits.l0 k x1 0 x114000 x114001 x114002 x114003 x114004
def exequaturref01_Fits.l0 : Nat → Int → Int → Int → Int → ByteArray → List (S25) → List ByteArray → Option (Bool)
  | 0, _, _, _, _, _, _, _ => none
  | k + 1, x1, x6, x114000, x114001, x114002, x114003, x114004 => if x6 < (x114004.length : Int) then (exequaturref01_Fits.l1 k x1 x6 0 x114000 x114001 x114002 x114003 x114004) else (exequaturref01_Fits.l2 k x1 0 x114000 x114001 x114002 x114003 x114004)
def exequaturref01_Fits.l1 : Nat → Int → Int → Int → Int → Int → ByteArray → List (S25) → List ByteArray → Option (Bool)
  | 0, _, _, _, _, _, _, _, _ => none
  | k + 1, x1, x6, x7, x114000, x114001, x114002, x114003, x114004 => if x7 < x6 then (if 0 ≤ x6 then (if x6 < (x114004.length : Int) then (if 0 ≤ x7 then (if x7 < (x114004.length : Int) then (if (rdOf ByteArray.empty x114004 x6).toList = (rdOf ByteArray.empty x114004 x7).toList then (some false) else (exequaturref01_Fits.l1 k x1 x6 (wrap64 (x7 + 1)) x114000 x114001 x114002 x114003 x114004)) else (none)) else (none)) else (none)) else (none)) else (exequaturref01_Fits.l0 k x1 (wrap64 (x6 + 1)) x114000 x114001 x114002 x114003 x114004)
def exequaturref01_Fits.l2 : Nat → Int → Int → Int → Int → ByteArray → List (S25) → List ByteArray → Option (Bool)
  | 0, _, _, _, _, _, _, _ => none
  | k + 1, x1, x8, x114000, x114001, x114002, x114003, x114004 => if x8 < (x114003.length : Int) then (if 0 ≤ x8 then ((exequaturref01_Fits.f k ((rd_T25 x114003 x8).f0) ((rd_T25 x114003 x8).f1) ((rd_T25 x114003 x8).f2) ((rd_T25 x114003 x8).f3) ((rd_T25 x114003 x8).f4) (wrap64 (x1 - 1))).bind fun t117 => (if t117 = true then (exequaturref01_Fits.l2 k x1 (wrap64 (x8 + 1)) x114000 x114001 x114002 x114003 x114004) else (some false))) else (none)) else (some true)
def exequaturref01_Fits.j2 : Nat → Int → Bool → Bool → Int → Int → ByteArray → List (S25) → List ByteArray → Option (Bool)
  | 0, _, _, _, _, _, _, _, _ => none
  | k + 1, x1, x5, x29, x114000, x114001, x114002, x114003, x114004 => if x29 = true then (some false) else (if x114000 = 3 then (if x114001 < (-9007199254740992) then (exequaturref01_Fits.j3 k x1 x5 true x114000 x114001 x114002 x114003 x114004) else (exequaturref01_Fits.j3 k x1 x5 (decide (x114001 > 9007199254740992)) x114000 x114001 x114002 x114003 x114004)) else (exequaturref01_Fits.j3 k x1 x5 false x114000 x114001 x114002 x114003 x114004))
def exequaturref01_Fits.j3 : Nat → Int → Bool → Bool → Int → Int → ByteArray → List (S25) → List ByteArray → Option (Bool)
  | 0, _, _, _, _, _, _, _, _ => none
  | k + 1, x1, x5, x43, x114000, x114001, x114002, x114003, x114004 => if x43 = true then (some false) else (if x114000 = 2 then (exequaturref01_Fits.j4 k x1 x5 false x114000 x114001 x114002 x114003 x114004) else (if x114000 = 3 then (exequaturref01_Fits.j4 k x1 x5 false x114000 x114001 x114002 x114003 x114004) else (exequaturref01_Fits.j4 k x1 x5 (x114001 != 0) x114000 x114001 x114002 x114003 x114004)))
def exequaturref01_Fits.j4 : Nat → Int → Bool → Bool → Int → Int → ByteArray → List (S25) → List ByteArray → Option (Bool)
  | 0, _, _, _, _, _, _, _, _ => none
  | k + 1, x1, x5, x57, x114000, x114001, x114002, x114003, x114004 => if x57 = true then (some false) else (if x114000 = 4 then (exequaturref01_Fits.j5 k x1 x5 false x114000 x114001 x114002 x114003 x114004) else (exequaturref01_Fits.j5 k x1 x5 (x114002.toList != ([] : List UInt8)) x114000 x114001 x114002 x114003 x114004))
def exequaturref01_Fits.j5 : Nat → Int → Bool → Bool → Int → Int → ByteArray → List (S25) → List ByteArray → Option (Bool)
  | 0, _, _, _, _, _, _, _, _ => none
  | k + 1, x1, x5, x71, x114000, x114001, x114002, x114003, x114004 => if x71 = true then (exequaturref01_Fits.j6 k x1 x71 x114000 x114001 x114002 x114003 x114004) else (if x5 = true then (exequaturref01_Fits.j6 k x1 (decide ((x114003.length : Int) > 64)) x114000 x114001 x114002 x114003 x114004) else (if (x114003.length : Int) > 0 then (exequaturref01_Fits.j6 k x1 (decide ((x114003.length : Int) > 0)) x114000 x114001 x114002 x114003 x114004) else (exequaturref01_Fits.j6 k x1 (decide ((x114003.length : Int) > 64)) x114000 x114001 x114002 x114003 x114004)))
def exequaturref01_Fits.j6 : Nat → Int → Bool → Int → Int → ByteArray → List (S25) → List ByteArray → Option (Bool)
  | 0, _, _, _, _, _, _, _ => none
  | k + 1, x1, x71, x114000, x114001, x114002, x114003, x114004 => if x71 = true then (some false) else (if x114000 = 6 then (exequaturref01_Fits.j7 k x1 ((x114004.length : Int) != (x114003.length : Int)) x114000 x114001 x114002 x114003 x114004) else (exequaturref01_Fits.j7 k x1 false x114000 x114001 x114002 x114003 x114004))
def exequaturref01_Fits.j7 : Nat → Int → Bool → Int → Int → ByteArray → List (S25) → List ByteArray → Option (Bool)
  | 0, _, _, _, _, _, _, _ => none
  | k + 1, x1, x92, x114000, x114001, x114002, x114003, x114004 => if x92 = true then (some false) else (if x114000 = 6 then (exequaturref01_Fits.j8 k x1 x114000 x114001 x114002 x114003 x114004) else (if (x114004.length : Int) > 0 then (some false) else (exequaturref01_Fits.j8 k x1 x114000 x114001 x114002 x114003 x114004)))
def exequaturref01_Fits.f : Nat → Int → Int → ByteArray → List (S25) → List ByteArray → Int → Option (Bool)
  | 0, _, _, _, _, _, _ => none
  | k + 1, a0_0, a0_1, a0_2, l0_3, l0_4, a1 => if a1 < 1 then (exequaturref01_Fits.j0 k a1 true a0_0 a0_1 a0_2 l0_3 l0_4) else (if a0_0 < 1 then (exequaturref01_Fits.j0 k a1 true a0_0 a0_1 a0_2 l0_3 l0_4) else (exequaturref01_Fits.j0 k a1 (decide (a0_0 > 6)) a0_0 a0_1 a0_2 l0_3 l0_4))
end
theorem exequaturref01_Fits.mono_l : ∀ k, (∀ y0 y1 y2 y3 y4 y5, LeO (exequaturref01_Fits.f k y0 y1 y2 y3 y4 y5) (exequaturref01_Fits.f (k + 1) y0 y1 y2 y3 y4 y5)) ∧ (∀ y0 y1 y2 y3 y4 y5 y6, LeO (exequaturref01_Fits.j0 k y0 y1 y2 y3 y4 y5 y6) (exequaturref01_Fits.j0 (k + 1) y0 y1 y2 y3 y4 y5 y6)) ∧ (∀ y0 y1 y2 y3 y4 y5 y6, LeO (exequaturref01_Fits.j1 k y0 y1 y2 y3 y4 y5 y6) (exequaturref01_Fits.j1 (k + 1) y0 y1 y2 y3 y4 y5 y6)) ∧ (∀ y0 y1 y2 y3 y4 y5, LeO (exequaturref01_Fits.j8 k y0 y1 y2 y3 y4 y5) (exequaturref01_Fits.j8 (k + 1) y0 y1 y2 y3 y4 y5)) ∧ (∀ y0 y1 y2 y3 y4 y5 y6, LeO (exequaturref01_Fits.l0 k y0 y1 y2 y3 y4 y5 y6) (exequaturref01_Fits.l0 (k + 1) y0 y1 y2 y3 y4 y5 y6)) ∧ (∀ y0 y1 y2 y3 y4 y5 y6 y7, LeO (exequaturref01_Fits.l1 k y0 y1 y2 y3 y4 y5 y6 y7) (exequaturref01_Fits.l1 (k + 1) y0 y1 y2 y3 y4 y5 y6 y7)) ∧ (∀ y0 y1 y2 y3 y4 y5 y6, LeO (exequaturref01_Fits.l2 k y0 y1 y2 y3 y4 y5 y6) (exequaturref01_Fits.l2 (k + 1) y0 y1 y2 y3 y4 y5 y6)) ∧ (∀ y0 y1 y2 y3 y4 y5 y6 y7, LeO (exequaturref01_Fits.j2 k y0 y1 y2 y3 y4 y5 y6 y7) (exequaturref01_Fits.j2 (k + 1) y0 y1 y2 y3 y4 y5 y6 y7)) ∧ (∀ y0 y1 y2 y3 y4 y5 y6 y7, LeO (exequaturref01_Fits.j3 k y0 y1 y2 y3 y4 y5 y6 y7) (exequaturref01_Fits.j3 (k + 1) y0 y1 y2 y3 y4 y5 y6 y7)) ∧ (∀ y0 y1 y2 y3 y4 y5 y6 y7, LeO (exequaturref01_Fits.j4 k y0 y1 y2 y3 y4 y5 y6 y7) (exequaturref01_Fits.j4 (k + 1) y0 y1 y2 y3 y4 y5 y6 y7)) ∧ (∀ y0 y1 y2 y3 y4 y5 y6 y7, LeO (exequaturref01_Fits.j5 k y0 y1 y2 y3 y4 y5 y6 y7) (exequaturref01_Fits.j5 (k + 1) y0 y1 y2 y3 y4 y5 y6 y7)) ∧ (∀ y0 y1 y2 y3 y4 y5 y6, LeO (exequaturref01_Fits.j6 k y0 y1 y2 y3 y4 y5 y6) (exequaturref01_Fits.j6 (k + 1) y0 y1 y2 y3 y4 y5 y6)) ∧ (∀ y0 y1 y2 y3 y4 y5 y6, LeO (exequaturref01_Fits.j7 k y0 y1 y2 y3 y4 y5 y6) (exequaturref01_Fits.j7 (k + 1) y0 y1 y2 y3 y4 y5 y6))
  | 0 => ⟨fun _ _ _ _ _ _ r h => by simp [exequaturref01_Fits.f] at h, fun _ _ _ _ _ _ _ r h => by simp [exequaturref01_Fits.j0] at h, fun _ _ _ _ _ _ _ r h => by simp [exequaturref01_Fits.j1] at h, fun _ _ _ _ _ _ r h => by simp [exequaturref01_Fits.j8] at h, fun _ _ _ _ _ _ _ r h => by simp [exequaturref01_Fits.l0] at h, fun _ _ _ _ _ _ _ _ r h => by simp [exequaturref01_Fits.l1] at h, fun _ _ _ _ _ _ _ r h => by simp [exequaturref01_Fits.l2] at h, fun _ _ _ _ _ _ _ _ r h => by simp [exequaturref01_Fits.j2] at h, fun _ _ _ _ _ _ _ _ r h => by simp [exequaturref01_Fits.j3] at h, fun _ _ _ _ _ _ _ _ r h => by simp [exequaturref01_Fits.j4] at h, fun _ _ _ _ _ _ _ _ r h => by simp [exequaturref01_Fits.j5] at h, fun _ _ _ _ _ _ _ r h => by simp [exequaturref01_Fits.j6] at h, fun _ _ _ _ _ _ _ r h => by simp [exequaturref01_Fits.j7] at h⟩
  | k + 1 => by
    obtain ⟨ih0, ih1, ih2, ih3, ih4, ih5, ih6, ih7, ih8, ih9, ih10, ih11, ih12⟩ := exequaturref01_Fits.mono_l k
    refine ⟨?_, ?_, ?_, ?_, ?_, ?_, ?_, ?_, ?_, ?_, ?_, ?_, ?_⟩
    · intro y0 y1 y2 y3 y4 y5
      unfold exequaturref01_Fits.f
      repeat' first
      | (with_reducible exact ih0 _ _ _ _ _ _)
      | (with_reducible exact ih1 _ _ _ _ _ _ _)
      | (with_reducible exact ih2 _ _ _ _ _ _ _)
      | (with_reducible exact ih3 _ _ _ _ _ _)
      | (with_reducible exact ih4 _ _ _ _ _ _ _)
      | (with_reducible exact ih5 _ _ _ _ _ _ _ _)
      | (with_reducible exact ih6 _ _ _ _ _ _ _)
      | (with_reducible exact ih7 _ _ _ _ _ _ _ _)
      | (with_reducible exact ih8 _ _ _ _ _ _ _ _)
      | (with_reducible exact ih9 _ _ _ _ _ _ _ _)
      | (with_reducible exact ih10 _ _ _ _ _ _ _ _)
      | (with_reducible exact ih11 _ _ _ _ _ _ _)
      | (with_reducible exact ih12 _ _ _ _ _ _ _)
      | (with_reducible exact LeO.refl _)
      | (with_reducible exact LeO.none _)
      | (with_reducible refine LeO.ite ?_ ?_)
      | (with_reducible refine LeO.bind ?_ (fun _ => ?_))
      | exact ih0 _ _ _ _ _ _
      | exact ih1 _ _ _ _ _ _ _
      | exact ih2 _ _ _ _ _ _ _
      | exact ih3 _ _ _ _ _ _
      | exact ih4 _ _ _ _ _ _ _
      | exact ih5 _ _ _ _ _ _ _ _
      | exact ih6 _ _ _ _ _ _ _
      | exact ih7 _ _ _ _ _ _ _ _
      | exact ih8 _ _ _ _ _ _ _ _
      | exact ih9 _ _ _ _ _ _ _ _
      | exact ih10 _ _ _ _ _ _ _ _
      | exact ih11 _ _ _ _ _ _ _
      | exact ih12 _ _ _ _ _ _ _
      | exact LeO.none _
      | refine LeO.ite ?_ ?_
      | refine LeO.bind ?_ (fun _ => ?_)
    · intro y0 y1 y2 y3 y4 y5 y6
      unfold exequaturref01_Fits.j0
      repeat' first
      | (with_reducible exact ih0 _ _ _ _ _ _)
      | (with_reducible exact ih1 _ _ _ _ _ _ _)
      | (with_reducible exact ih2 _ _ _ _ _ _ _)
      | (with_reducible exact ih3 _ _ _ _ _ _)
      | (with_reducible exact ih4 _ _ _ _ _ _ _)
      | (with_reducible exact ih5 _ _ _ _ _ _ _ _)
      | (with_reducible exact ih6 _ _ _ _ _ _ _)
      | (with_reducible exact ih7 _ _ _ _ _ _ _ _)
      | (with_reducible exact ih8 _ _ _ _ _ _ _ _)
      | (with_reducible exact ih9 _ _ _ _ _ _ _ _)
      | (with_reducible exact ih10 _ _ _ _ _ _ _ _)
      | (with_reducible exact ih11 _ _ _ _ _ _ _)
      | (with_reducible exact ih12 _ _ _ _ _ _ _)
      | (with_reducible exact LeO.refl _)
      | (with_reducible exact LeO.none _)
      | (with_reducible refine LeO.ite ?_ ?_)
      | (with_reducible refine LeO.bind ?_ (fun _ => ?_))
      | exact ih0 _ _ _ _ _ _
      | exact ih1 _ _ _ _ _ _ _
      | exact ih2 _ _ _ _ _ _ _
      | exact ih3 _ _ _ _ _ _
      | exact ih4 _ _ _ _ _ _ _
      | exact ih5 _ _ _ _ _ _ _ _
      | exact ih6 _ _ _ _ _ _ _
      | exact ih7 _ _ _ _ _ _ _ _
      | exact ih8 _ _ _ _ _ _ _ _
      | exact ih9 _ _ _ _ _ _ _ _
      | exact ih10 _ _ _ _ _ _ _ _
      | exact ih11 _ _ _ _ _ _ _
      | exact ih12 _ _ _ _ _ _ _
      | exact LeO.none _
      | refine LeO.ite ?_ ?_
      | refine LeO.bind ?_ (fun _ => ?_)
    · intro y0 y1 y2 y3 y4 y5 y6
      unfold exequaturref01_Fits.j1
      repeat' first
      | (with_reducible exact ih0 _ _ _ _ _ _)
      | (with_reducible exact ih1 _ _ _ _ _ _ _)
      | (with_reducible exact ih2 _ _ _ _ _ _ _)
      | (with_reducible exact ih3 _ _ _ _ _ _)
      | (with_reducible exact ih4 _ _ _ _ _ _ _)
      | (with_reducible exact ih5 _ _ _ _ _ _ _ _)
      | (with_reducible exact ih6 _ _ _ _ _ _ _)
      | (with_reducible exact ih7 _ _ _ _ _ _ _ _)
      | (with_reducible exact ih8 _ _ _ _ _ _ _ _)
      | (with_reducible exact ih9 _ _ _ _ _ _ _ _)
      | (with_reducible exact ih10 _ _ _ _ _ _ _ _)
      | (with_reducible exact ih11 _ _ _ _ _ _ _)
      | (with_reducible exact ih12 _ _ _ _ _ _ _)
      | (with_reducible exact LeO.refl _)
      | (with_reducible exact LeO.none _)
      | (with_reducible refine LeO.ite ?_ ?_)
      | (with_reducible refine LeO.bind ?_ (fun _ => ?_))
      | exact ih0 _ _ _ _ _ _
      | exact ih1 _ _ _ _ _ _ _
      | exact ih2 _ _ _ _ _ _ _
      | exact ih3 _ _ _ _ _ _
      | exact ih4 _ _ _ _ _ _ _
      | exact ih5 _ _ _ _ _ _ _ _
      | exact ih6 _ _ _ _ _ _ _
      | exact ih7 _ _ _ _ _ _ _ _
      | exact ih8 _ _ _ _ _ _ _ _
      | exact ih9 _ _ _ _ _ _ _ _
      | exact ih10 _ _ _ _ _ _ _ _
      | exact ih11 _ _ _ _ _ _ _
      | exact ih12 _ _ _ _ _ _ _
      | exact LeO.none _
      | refine LeO.ite ?_ ?_
      | refine LeO.bind ?_ (fun _ => ?_)
    · intro y0 y1 y2 y3 y4 y5
      unfold exequaturref01_Fits.j8
      repeat' first
      | (with_reducible exact ih0 _ _ _ _ _ _)
      | (with_reducible exact ih1 _ _ _ _ _ _ _)
      | (with_reducible exact ih2 _ _ _ _ _ _ _)
      | (with_reducible exact ih3 _ _ _ _ _ _)
      | (with_reducible exact ih4 _ _ _ _ _ _ _)
      | (with_reducible exact ih5 _ _ _ _ _ _ _ _)
      | (with_reducible exact ih6 _ _ _ _ _ _ _)
      | (with_reducible exact ih7 _ _ _ _ _ _ _ _)
      | (with_reducible exact ih8 _ _ _ _ _ _ _ _)
      | (with_reducible exact ih9 _ _ _ _ _ _ _ _)
      | (with_reducible exact ih10 _ _ _ _ _ _ _ _)
      | (with_reducible exact ih11 _ _ _ _ _ _ _)
      | (with_reducible exact ih12 _ _ _ _ _ _ _)
      | (with_reducible exact LeO.refl _)
      | (with_reducible exact LeO.none _)
      | (with_reducible refine LeO.ite ?_ ?_)
      | (with_reducible refine LeO.bind ?_ (fun _ => ?_))
      | exact ih0 _ _ _ _ _ _
      | exact ih1 _ _ _ _ _ _ _
      | exact ih2 _ _ _ _ _ _ _
      | exact ih3 _ _ _ _ _ _
      | exact ih4 _ _ _ _ _ _ _
      | exact ih5 _ _ _ _ _ _ _ _
      | exact ih6 _ _ _ _ _ _ _
      | exact ih7 _ _ _ _ _ _ _ _
      | exact ih8 _ _ _ _ _ _ _ _
      | exact ih9 _ _ _ _ _ _ _ _
      | exact ih10 _ _ _ _ _ _ _ _
      | exact ih11 _ _ _ _ _ _ _
      | exact ih12 _ _ _ _ _ _ _
      | exact LeO.none _
      | refine LeO.ite ?_ ?_
      | refine LeO.bind ?_ (fun _ => ?_)
    · intro y0 y1 y2 y3 y4 y5 y6
      unfold exequaturref01_Fits.l0
      repeat' first
      | (with_reducible exact ih0 _ _ _ _ _ _)
      | (with_reducible exact ih1 _ _ _ _ _ _ _)
      | (with_reducible exact ih2 _ _ _ _ _ _ _)
      | (with_reducible exact ih3 _ _ _ _ _ _)
      | (with_reducible exact ih4 _ _ _ _ _ _ _)
      | (with_reducible exact ih5 _ _ _ _ _ _ _ _)
      | (with_reducible exact ih6 _ _ _ _ _ _ _)
      | (with_reducible exact ih7 _ _ _ _ _ _ _ _)
      | (with_reducible exact ih8 _ _ _ _ _ _ _ _)
      | (with_reducible exact ih9 _ _ _ _ _ _ _ _)
      | (with_reducible exact ih10 _ _ _ _ _ _ _ _)
      | (with_reducible exact ih11 _ _ _ _ _ _ _)
      | (with_reducible exact ih12 _ _ _ _ _ _ _)
      | (with_reducible exact LeO.refl _)
      | (with_reducible exact LeO.none _)
      | (with_reducible refine LeO.ite ?_ ?_)
      | (with_reducible refine LeO.bind ?_ (fun _ => ?_))
      | exact ih0 _ _ _ _ _ _
      | exact ih1 _ _ _ _ _ _ _
      | exact ih2 _ _ _ _ _ _ _
      | exact ih3 _ _ _ _ _ _
      | exact ih4 _ _ _ _ _ _ _
      | exact ih5 _ _ _ _ _ _ _ _
      | exact ih6 _ _ _ _ _ _ _
      | exact ih7 _ _ _ _ _ _ _ _
      | exact ih8 _ _ _ _ _ _ _ _
      | exact ih9 _ _ _ _ _ _ _ _
      | exact ih10 _ _ _ _ _ _ _ _
      | exact ih11 _ _ _ _ _ _ _
      | exact ih12 _ _ _ _ _ _ _
      | exact LeO.none _
      | refine LeO.ite ?_ ?_
      | refine LeO.bind ?_ (fun _ => ?_)
    · intro y0 y1 y2 y3 y4 y5 y6 y7
      unfold exequaturref01_Fits.l1
      repeat' first
      | (with_reducible exact ih0 _ _ _ _ _ _)
      | (with_reducible exact ih1 _ _ _ _ _ _ _)
      | (with_reducible exact ih2 _ _ _ _ _ _ _)
      | (with_reducible exact ih3 _ _ _ _ _ _)
      | (with_reducible exact ih4 _ _ _ _ _ _ _)
      | (with_reducible exact ih5 _ _ _ _ _ _ _ _)
      | (with_reducible exact ih6 _ _ _ _ _ _ _)
      | (with_reducible exact ih7 _ _ _ _ _ _ _ _)
      | (with_reducible exact ih8 _ _ _ _ _ _ _ _)
      | (with_reducible exact ih9 _ _ _ _ _ _ _ _)
      | (with_reducible exact ih10 _ _ _ _ _ _ _ _)
      | (with_reducible exact ih11 _ _ _ _ _ _ _)
      | (with_reducible exact ih12 _ _ _ _ _ _ _)
      | (with_reducible exact LeO.refl _)
      | (with_reducible exact LeO.none _)
      | (with_reducible refine LeO.ite ?_ ?_)
      | (with_reducible refine LeO.bind ?_ (fun _ => ?_))
      | exact ih0 _ _ _ _ _ _
      | exact ih1 _ _ _ _ _ _ _
      | exact ih2 _ _ _ _ _ _ _
      | exact ih3 _ _ _ _ _ _
      | exact ih4 _ _ _ _ _ _ _
      | exact ih5 _ _ _ _ _ _ _ _
      | exact ih6 _ _ _ _ _ _ _
      | exact ih7 _ _ _ _ _ _ _ _
      | exact ih8 _ _ _ _ _ _ _ _
      | exact ih9 _ _ _ _ _ _ _ _
      | exact ih10 _ _ _ _ _ _ _ _
      | exact ih11 _ _ _ _ _ _ _
      | exact ih12 _ _ _ _ _ _ _
      | exact LeO.none _
      | refine LeO.ite ?_ ?_
      | refine LeO.bind ?_ (fun _ => ?_)
    · intro y0 y1 y2 y3 y4 y5 y6
      unfold exequaturref01_Fits.l2
      repeat' first
      | (with_reducible exact ih0 _ _ _ _ _ _)
      | (with_reducible exact ih1 _ _ _ _ _ _ _)
      | (with_reducible exact ih2 _ _ _ _ _ _ _)
      | (with_reducible exact ih3 _ _ _ _ _ _)
      | (with_reducible exact ih4 _ _ _ _ _ _ _)
      | (with_reducible exact ih5 _ _ _ _ _ _ _ _)
      | (with_reducible exact ih6 _ _ _ _ _ _ _)
      | (with_reducible exact ih7 _ _ _ _ _ _ _ _)
      | (with_reducible exact ih8 _ _ _ _ _ _ _ _)
      | (with_reducible exact ih9 _ _ _ _ _ _ _ _)
      | (with_reducible exact ih10 _ _ _ _ _ _ _ _)
      | (with_reducible exact ih11 _ _ _ _ _ _ _)
      | (with_reducible exact ih12 _ _ _ _ _ _ _)
      | (with_reducible exact LeO.refl _)
      | (with_reducible exact LeO.none _)
      | (with_reducible refine LeO.ite ?_ ?_)
      | (with_reducible refine LeO.bind ?_ (fun _ => ?_))
      | exact ih0 _ _ _ _ _ _
      | exact ih1 _ _ _ _ _ _ _
      | exact ih2 _ _ _ _ _ _ _
      | exact ih3 _ _ _ _ _ _
      | exact ih4 _ _ _ _ _ _ _
      | exact ih5 _ _ _ _ _ _ _ _
      | exact ih6 _ _ _ _ _ _ _
      | exact ih7 _ _ _ _ _ _ _ _
      | exact ih8 _ _ _ _ _ _ _ _
      | exact ih9 _ _ _ _ _ _ _ _
      | exact ih10 _ _ _ _ _ _ _ _
      | exact ih11 _ _ _ _ _ _ _
      | exact ih12 _ _ _ _ _ _ _
      | exact LeO.none _
      | refine LeO.ite ?_ ?_
      | refine LeO.bind ?_ (fun _ => ?_)
    · intro y0 y1 y2 y3 y4 y5 y6 y7
      unfold exequaturref01_Fits.j2
      repeat' first
      | (with_reducible exact ih0 _ _ _ _ _ _)
      | (with_reducible exact ih1 _ _ _ _ _ _ _)
      | (with_reducible exact ih2 _ _ _ _ _ _ _)
      | (with_reducible exact ih3 _ _ _ _ _ _)
      | (with_reducible exact ih4 _ _ _ _ _ _ _)
      | (with_reducible exact ih5 _ _ _ _ _ _ _ _)
      | (with_reducible exact ih6 _ _ _ _ _ _ _)
      | (with_reducible exact ih7 _ _ _ _ _ _ _ _)
      | (with_reducible exact ih8 _ _ _ _ _ _ _ _)
      | (with_reducible exact ih9 _ _ _ _ _ _ _ _)
      | (with_reducible exact ih10 _ _ _ _ _ _ _ _)
      | (with_reducible exact ih11 _ _ _ _ _ _ _)
      | (with_reducible exact ih12 _ _ _ _ _ _ _)
      | (with_reducible exact LeO.refl _)
      | (with_reducible exact LeO.none _)
      | (with_reducible refine LeO.ite ?_ ?_)
      | (with_reducible refine LeO.bind ?_ (fun _ => ?_))
      | exact ih0 _ _ _ _ _ _
      | exact ih1 _ _ _ _ _ _ _
      | exact ih2 _ _ _ _ _ _ _
      | exact ih3 _ _ _ _ _ _
      | exact ih4 _ _ _ _ _ _ _
      | exact ih5 _ _ _ _ _ _ _ _
      | exact ih6 _ _ _ _ _ _ _
      | exact ih7 _ _ _ _ _ _ _ _
      | exact ih8 _ _ _ _ _ _ _ _
      | exact ih9 _ _ _ _ _ _ _ _
      | exact ih10 _ _ _ _ _ _ _ _
      | exact ih11 _ _ _ _ _ _ _
      | exact ih12 _ _ _ _ _ _ _
      | exact LeO.none _
      | refine LeO.ite ?_ ?_
      | refine LeO.bind ?_ (fun _ => ?_)
    · intro y0 y1 y2 y3 y4 y5 y6 y7
      unfold exequaturref01_Fits.j3
      repeat' first
      | (with_reducible exact ih0 _ _ _ _ _ _)
      | (with_reducible exact ih1 _ _ _ _ _ _ _)
      | (with_reducible exact ih2 _ _ _ _ _ _ _)
      | (with_reducible exact ih3 _ _ _ _ _ _)
      | (with_reducible exact ih4 _ _ _ _ _ _ _)
      | (with_reducible exact ih5 _ _ _ _ _ _ _ _)
      | (with_reducible exact ih6 _ _ _ _ _ _ _)
      | (with_reducible exact ih7 _ _ _ _ _ _ _ _)
      | (with_reducible exact ih8 _ _ _ _ _ _ _ _)
      | (with_reducible exact ih9 _ _ _ _ _ _ _ _)
      | (with_reducible exact ih10 _ _ _ _ _ _ _ _)
      | (with_reducible exact ih11 _ _ _ _ _ _ _)
      | (with_reducible exact ih12 _ _ _ _ _ _ _)
      | (with_reducible exact LeO.refl _)
      | (with_reducible exact LeO.none _)
      | (with_reducible refine LeO.ite ?_ ?_)
      | (with_reducible refine LeO.bind ?_ (fun _ => ?_))
      | exact ih0 _ _ _ _ _ _
      | exact ih1 _ _ _ _ _ _ _
      | exact ih2 _ _ _ _ _ _ _
      | exact ih3 _ _ _ _ _ _
      | exact ih4 _ _ _ _ _ _ _
      | exact ih5 _ _ _ _ _ _ _ _
      | exact ih6 _ _ _ _ _ _ _
      | exact ih7 _ _ _ _ _ _ _ _
      | exact ih8 _ _ _ _ _ _ _ _
      | exact ih9 _ _ _ _ _ _ _ _
      | exact ih10 _ _ _ _ _ _ _ _
      | exact ih11 _ _ _ _ _ _ _
      | exact ih12 _ _ _ _ _ _ _
      | exact LeO.none _
      | refine LeO.ite ?_ ?_
      | refine LeO.bind ?_ (fun _ => ?_)
    · intro y0 y1 y2 y3 y4 y5 y6 y7
      unfold exequaturref01_Fits.j4
      repeat' first
      | (with_reducible exact ih0 _ _ _ _ _ _)
      | (with_reducible exact ih1 _ _ _ _ _ _ _)
      | (with_reducible exact ih2 _ _ _ _ _ _ _)
      | (with_reducible exact ih3 _ _ _ _ _ _)
      | (with_reducible exact ih4 _ _ _ _ _ _ _)
      | (with_reducible exact ih5 _ _ _ _ _ _ _ _)
      | (with_reducible exact ih6 _ _ _ _ _ _ _)
      | (with_reducible exact ih7 _ _ _ _ _ _ _ _)
      | (with_reducible exact ih8 _ _ _ _ _ _ _ _)
      | (with_reducible exact ih9 _ _ _ _ _ _ _ _)
      | (with_reducible exact ih10 _ _ _ _ _ _ _ _)
      | (with_reducible exact ih11 _ _ _ _ _ _ _)
      | (with_reducible exact ih12 _ _ _ _ _ _ _)
      | (with_reducible exact LeO.refl _)
      | (with_reducible exact LeO.none _)
      | (with_reducible refine LeO.ite ?_ ?_)
      | (with_reducible refine LeO.bind ?_ (fun _ => ?_))
      | exact ih0 _ _ _ _ _ _
      | exact ih1 _ _ _ _ _ _ _
      | exact ih2 _ _ _ _ _ _ _
      | exact ih3 _ _ _ _ _ _
      | exact ih4 _ _ _ _ _ _ _
      | exact ih5 _ _ _ _ _ _ _ _
      | exact ih6 _ _ _ _ _ _ _
      | exact ih7 _ _ _ _ _ _ _ _
      | exact ih8 _ _ _ _ _ _ _ _
      | exact ih9 _ _ _ _ _ _ _ _
      | exact ih10 _ _ _ _ _ _ _ _
      | exact ih11 _ _ _ _ _ _ _
      | exact ih12 _ _ _ _ _ _ _
      | exact LeO.none _
      | refine LeO.ite ?_ ?_
      | refine LeO.bind ?_ (fun _ => ?_)
    · intro y0 y1 y2 y3 y4 y5 y6 y7
      unfold exequaturref01_Fits.j5
      repeat' first
      | (with_reducible exact ih0 _ _ _ _ _ _)
      | (with_reducible exact ih1 _ _ _ _ _ _ _)
      | (with_reducible exact ih2 _ _ _ _ _ _ _)
      | (with_reducible exact ih3 _ _ _ _ _ _)
      | (with_reducible exact ih4 _ _ _ _ _ _ _)
      | (with_reducible exact ih5 _ _ _ _ _ _ _ _)
      | (with_reducible exact ih6 _ _ _ _ _ _ _)
      | (with_reducible exact ih7 _ _ _ _ _ _ _ _)
      | (with_reducible exact ih8 _ _ _ _ _ _ _ _)
      | (with_reducible exact ih9 _ _ _ _ _ _ _ _)
      | (with_reducible exact ih10 _ _ _ _ _ _ _ _)
      | (with_reducible exact ih11 _ _ _ _ _ _ _)
      | (with_reducible exact ih12 _ _ _ _ _ _ _)
      | (with_reducible exact LeO.refl _)
      | (with_reducible exact LeO.none _)
      | (with_reducible refine LeO.ite ?_ ?_)
      | (with_reducible refine LeO.bind ?_ (fun _ => ?_))
      | exact ih0 _ _ _ _ _ _
      | exact ih1 _ _ _ _ _ _ _
      | exact ih2 _ _ _ _ _ _ _
      | exact ih3 _ _ _ _ _ _
      | exact ih4 _ _ _ _ _ _ _
      | exact ih5 _ _ _ _ _ _ _ _
      | exact ih6 _ _ _ _ _ _ _
      | exact ih7 _ _ _ _ _ _ _ _
      | exact ih8 _ _ _ _ _ _ _ _
      | exact ih9 _ _ _ _ _ _ _ _
      | exact ih10 _ _ _ _ _ _ _ _
      | exact ih11 _ _ _ _ _ _ _
      | exact ih12 _ _ _ _ _ _ _
      | exact LeO.none _
      | refine LeO.ite ?_ ?_
      | refine LeO.bind ?_ (fun _ => ?_)
    · intro y0 y1 y2 y3 y4 y5 y6
      unfold exequaturref01_Fits.j6
      repeat' first
      | (with_reducible exact ih0 _ _ _ _ _ _)
      | (with_reducible exact ih1 _ _ _ _ _ _ _)
      | (with_reducible exact ih2 _ _ _ _ _ _ _)
      | (with_reducible exact ih3 _ _ _ _ _ _)
      | (with_reducible exact ih4 _ _ _ _ _ _ _)
      | (with_reducible exact ih5 _ _ _ _ _ _ _ _)
      | (with_reducible exact ih6 _ _ _ _ _ _ _)
      | (with_reducible exact ih7 _ _ _ _ _ _ _ _)
      | (with_reducible exact ih8 _ _ _ _ _ _ _ _)
      | (with_reducible exact ih9 _ _ _ _ _ _ _ _)
      | (with_reducible exact ih10 _ _ _ _ _ _ _ _)
      | (with_reducible exact ih11 _ _ _ _ _ _ _)
      | (with_reducible exact ih12 _ _ _ _ _ _ _)
      | (with_reducible exact LeO.refl _)
      | (with_reducible exact LeO.none _)
      | (with_reducible refine LeO.ite ?_ ?_)
      | (with_reducible refine LeO.bind ?_ (fun _ => ?_))
      | exact ih0 _ _ _ _ _ _
      | exact ih1 _ _ _ _ _ _ _
      | exact ih2 _ _ _ _ _ _ _
      | exact ih3 _ _ _ _ _ _
      | exact ih4 _ _ _ _ _ _ _
      | exact ih5 _ _ _ _ _ _ _ _
      | exact ih6 _ _ _ _ _ _ _
      | exact ih7 _ _ _ _ _ _ _ _
      | exact ih8 _ _ _ _ _ _ _ _
      | exact ih9 _ _ _ _ _ _ _ _
      | exact ih10 _ _ _ _ _ _ _ _
      | exact ih11 _ _ _ _ _ _ _
      | exact ih12 _ _ _ _ _ _ _
      | exact LeO.none _
      | refine LeO.ite ?_ ?_
      | refine LeO.bind ?_ (fun _ => ?_)
    · intro y0 y1 y2 y3 y4 y5 y6
      unfold exequaturref01_Fits.j7
      repeat' first
      | (with_reducible exact ih0 _ _ _ _ _ _)
      | (with_reducible exact ih1 _ _ _ _ _ _ _)
      | (with_reducible exact ih2 _ _ _ _ _ _ _)
      | (with_reducible exact ih3 _ _ _ _ _ _)
      | (with_reducible exact ih4 _ _ _ _ _ _ _)
      | (with_reducible exact ih5 _ _ _ _ _ _ _ _)
      | (with_reducible exact ih6 _ _ _ _ _ _ _)
      | (with_reducible exact ih7 _ _ _ _ _ _ _ _)
      | (with_reducible exact ih8 _ _ _ _ _ _ _ _)
      | (with_reducible exact ih9 _ _ _ _ _ _ _ _)
      | (with_reducible exact ih10 _ _ _ _ _ _ _ _)
      | (with_reducible exact ih11 _ _ _ _ _ _ _)
      | (with_reducible exact ih12 _ _ _ _ _ _ _)
      | (with_reducible exact LeO.refl _)
      | (with_reducible exact LeO.none _)
      | (with_reducible refine LeO.ite ?_ ?_)
      | (with_reducible refine LeO.bind ?_ (fun _ => ?_))
      | exact ih0 _ _ _ _ _ _
      | exact ih1 _ _ _ _ _ _ _
      | exact ih2 _ _ _ _ _ _ _
      | exact ih3 _ _ _ _ _ _
      | exact ih4 _ _ _ _ _ _ _
      | exact ih5 _ _ _ _ _ _ _ _
      | exact ih6 _ _ _ _ _ _ _
      | exact ih7 _ _ _ _ _ _ _ _
      | exact ih8 _ _ _ _ _ _ _ _
      | exact ih9 _ _ _ _ _ _ _ _
      | exact ih10 _ _ _ _ _ _ _ _
      | exact ih11 _ _ _ _ _ _ _
      | exact ih12 _ _ _ _ _ _ _
      | exact LeO.none _
      | refine LeO.ite ?_ ?_
      | refine LeO.bind ?_ (fun _ => ?_)
theorem exequaturref01_Fits.mono : ∀ a0 a1 a2 a3 a4 a5 k, LeO (exequaturref01_Fits.f k a0 a1 a2 a3 a4 a5) (exequaturref01_Fits.f (k + 1) a0 a1 a2 a3 a4 a5) := by
  intro a0 a1 a2 a3 a4 a5 k
  obtain ⟨ih0, ih1, ih2, ih3, ih4, ih5, ih6, ih7, ih8, ih9, ih10, ih11, ih12⟩ := exequaturref01_Fits.mono_l k
  exact ih0 a0 a1 a2 a3 a4 a5
set_option maxHeartbeats 8000000 in
set_option maxRecDepth 100000 in
theorem exequaturref01_Fits.calls (k : Nat) : ∀ (a0_0 : Int) (a0_1 : Int) (a0_2 : ByteArray) (A0_3 : Option Addr) (c0_3 : Nat) (l0_3 : List (S25)) (A0_4 : Option Addr) (c0_4 : Nat) (l0_4 : List ByteArray) (a1 : Int) (r : Bool) (w : World) (hr0_3 : Kd.C k25 w A0_3 l0_3.length l0_3) (hc0_3 : l0_3.length ≤ c0_3) (hr0_4 : Kd.C Kd.string w A0_4 l0_4.length l0_4) (hc0_4 : l0_4.length ≤ c0_4) (h : exequaturref01_Fits.f k a0_0 a0_1 a0_2 l0_3 l0_4 a1 = some r),
  Calls Tryz.prog 19 #[.agg #[.int .i64 a0_0, .int .i64 a0_1, .string a0_2, .slice A0_3 l0_3.length c0_3, .slice A0_4 l0_4.length c0_4], .int .i64 a1] w fun e w' => e = .returned (.bool r) ∧ Below w.heap.size w w' := by
 induction k using Nat.strongRecOn with
 | _ k ih =>
 intro a0_0 a0_1 a0_2 A0_3 c0_3 l0_3 A0_4 c0_4 l0_4 a1 r w hr0_3 hc0_3 hr0_4 hc0_4 h
 cases k with
 | zero => exact absurd h (by simp [exequaturref01_Fits.f])
 | succ k =>
 simp only [exequaturref01_Fits.f] at h
 have hu25 := Tryz.underlying25
 have HR0_3 := Aside0.mk hr0_3
 have HC0_3 := Aside0.mk hc0_3
 clear hr0_3 hc0_3
 have HR0_4 := Aside0.mk hr0_4
 have HC0_4 := Aside0.mk hc0_4
 clear hr0_4 hc0_4
 have HB := Aside0.mk (Below.refl w.heap.size w)
 have H : (if a1 < 1 then (exequaturref01_Fits.j0 k a1 true a0_0 a0_1 a0_2 l0_3 l0_4) else (if a0_0 < 1 then (exequaturref01_Fits.j0 k a1 true a0_0 a0_1 a0_2 l0_3 l0_4) else (exequaturref01_Fits.j0 k a1 (decide (a0_0 > 6)) a0_0 a0_1 a0_2 l0_3 l0_4))) = some r := h
 clear h
 have HC3 := Aside0.mk H
 clear H
 go_enter Tryz.func19, Tryz.ntmps19
 go_upto_region 1 with (first | ((with_reducible refine gate_dst (N := 2) rfl ?_); (try (refine gate_guard (by rfl) ?_; dsimp only)); refine box_event ?hg (N := 2) ?hd (cs := #[.int .i64 a0_0, .int .i64 a0_1, .string a0_2, .slice A0_3 l0_3.length c0_3, .slice A0_4 l0_4.length c0_4]) (t := 25) ?hr ?_; (case hd => rfl); (case hg => rfl); (case hr => first | (go_simp; done) | (go_simp; rfl)); intro gb113 hg w4 hbox hb; have n0_ := Aside0.mk (below_step (by repeat (first | (with_reducible first | exact HB.out | apply below_alloc | apply pw_below_drewN | apply below_drew1) | exact HB.out)) hb); have n1_ := Aside0.mk (hbox); have n2_ := Aside0.mk ((by rw [hg]; exact (below_size (by repeat (first | (with_reducible first | exact HB.out | apply below_alloc | apply pw_below_drewN | apply below_drew1) | exact HB.out))) : w.heap.size ≤ gb113)); have n3_ := Aside0.mk ((by rw [hg]; exact (below_size (by repeat (first | (with_reducible first | exact HB.out | apply below_alloc | apply pw_below_drewN | apply below_drew1) | exact HB.out))) : w.heap.size ≤ gb113)); clear HB; have HB := n0_; have BK113 := n1_; have GW113 := n2_; have GE113 := n3_; clear n0_ n1_ n2_ n3_; clear hb hbox hg))
 repeat (go_quiet (first | ((with_reducible refine gate_dst (N := 2) rfl ?_); (try (refine gate_guard (by rfl) ?_; dsimp only)); refine box_event ?hg (N := 2) ?hd (cs := #[.int .i64 a0_0, .int .i64 a0_1, .string a0_2, .slice A0_3 l0_3.length c0_3, .slice A0_4 l0_4.length c0_4]) (t := 25) ?hr ?_; (case hd => rfl); (case hg => rfl); (case hr => first | (go_simp; done) | (go_simp; rfl)); intro gb113 hg w4 hbox hb; have n0_ := Aside0.mk (below_step (by repeat (first | (with_reducible first | exact HB.out | apply below_alloc | apply pw_below_drewN | apply below_drew1) | exact HB.out)) hb); have n1_ := Aside0.mk (hbox); have n2_ := Aside0.mk ((by rw [hg]; exact (below_size (by repeat (first | (with_reducible first | exact HB.out | apply below_alloc | apply pw_below_drewN | apply below_drew1) | exact HB.out))) : w.heap.size ≤ gb113)); have n3_ := Aside0.mk ((by rw [hg]; exact (below_size (by repeat (first | (with_reducible first | exact HB.out | apply below_alloc | apply pw_below_drewN | apply below_drew1) | exact HB.out))) : w.heap.size ≤ gb113)); clear HB; have HB := n0_; have BK113 := n1_; have GW113 := n2_; have GE113 := n3_; clear n0_ n1_ n2_ n3_; clear hb hbox hg)); go_upto_region 1 with (first | ((with_reducible refine gate_dst (N := 2) rfl ?_); (try (refine gate_guard (by rfl) ?_; dsimp only)); refine box_event ?hg (N := 2) ?hd (cs := #[.int .i64 a0_0, .int .i64 a0_1, .string a0_2, .slice A0_3 l0_3.length c0_3, .slice A0_4 l0_4.length c0_4]) (t := 25) ?hr ?_; (case hd => rfl); (case hg => rfl); (case hr => first | (go_simp; done) | (go_simp; rfl)); intro gb113 hg w4 hbox hb; have n0_ := Aside0.mk (below_step (by repeat (first | (with_reducible first | exact HB.out | apply below_alloc | apply pw_below_drewN | apply below_drew1) | exact HB.out)) hb); have n1_ := Aside0.mk (hbox); have n2_ := Aside0.mk ((by rw [hg]; exact (below_size (by repeat (first | (with_reducible first | exact HB.out | apply below_alloc | apply pw_below_drewN | apply below_drew1) | exact HB.out))) : w.heap.size ≤ gb113)); have n3_ := Aside0.mk ((by rw [hg]; exact (below_size (by repeat (first | (with_reducible first | exact HB.out | apply below_alloc | apply pw_below_drewN | apply below_drew1) | exact HB.out))) : w.heap.size ≤ gb113)); clear HB; have HB := n0_; have BK113 := n1_; have GW113 := n2_; have GE113 := n3_; clear n0_ n1_ n2_ n3_; clear hb hbox hg)))
 (try simp only [Act.put, List.setIfInBounds_toArray, List.set_cons_zero, List.set_cons_succ])
 go_cut [20] (fun v20 wc => ∃ (kq : Nat) (x20_2 : Bool), v20 = .bool x20_2 ∧ Aside0 (exequaturref01_Fits.j0 kq a1 x20_2 a0_0 a0_1 a0_2 l0_3 l0_4 = some r) ∧ Aside0 (kq ≤ k) ∧ Aside0 (wc.heap[gb113]? = some (.cells #[.int .i64 a0_0, .int .i64 a0_1, .string a0_2, (.slice A0_3 l0_3.length c0_3), (.slice A0_4 l0_4.length c0_4)] 25 (0, 0))) ∧ Aside0 (Below w.heap.size w wc))
 case first =>
  have H := HC3.out
  clear HC3
  by_cases c5 : a1 < 1
  ·rw [if_pos c5] at H
   have c5b0 : decide (a1 < 1) = true := decide_eq_true c5
   clear c5
   (first | rw [c5b0] | (simp only [i64_w, i32_w]; rw [c5b0]) | skip)
   have H' := Aside0.mk H
   clear H
   go_wp2
   repeat (go_quiet (fail); try go_wp2)
   go_meet
   case rel => exact ⟨_, (true), (by first | rfl | (simp; done) | (simp [*]; done) | (refine congrArg Value.bool ?_; rw [Bool.eq_iff_iff]; simp; done)), H', ⟨by first | omega | exact Nat.le_refl _⟩, ⟨by (with_reducible repeat (first | refine blk_drewN ?_ _ | refine blk_drew ?_ | refine blk_alloc ?_ _)); exact BK113.out⟩, ⟨by repeat (first | (with_reducible first | exact HB.out | apply below_alloc | apply pw_below_drewN | apply below_drew1 | refine below_set ?_ GE113.out) | exact HB.out)⟩⟩
  ·rw [if_neg c5] at H
   have c5b0 : decide (a1 < 1) = false := decide_eq_false c5
   clear c5
   (first | rw [c5b0] | (simp only [i64_w, i32_w]; rw [c5b0]) | skip)
   by_cases c6 : a0_0 < 1
   ·rw [if_pos c6] at H
    have c6b0 : decide (a0_0 < 1) = true := decide_eq_true c6
    clear c6
    have H' := Aside0.mk H
    clear H
    obtain ⟨hcz7_0, hcz7_1, hcz7_2, hcz7_3, hcz7_4⟩ := cells5 BK113.out
    obtain ⟨hfz7_0, hfz7_1, hfz7_2, hfz7_3, hfz7_4⟩ := froz5 BK113.out
    go_wp2
    repeat (go_quiet (fail); try go_wp2)
    go_meet
    case rel => exact ⟨_, (true), (by first | rfl | (simp; done) | (simp [*]; done) | (refine congrArg Value.bool ?_; rw [Bool.eq_iff_iff]; simp; done)), H', ⟨by first | omega | exact Nat.le_refl _⟩, ⟨by (with_reducible repeat (first | refine blk_drewN ?_ _ | refine blk_drew ?_ | refine blk_alloc ?_ _)); exact BK113.out⟩, ⟨by repeat (first | (with_reducible first | exact HB.out | apply below_alloc | apply pw_below_drewN | apply below_drew1 | refine below_set ?_ GE113.out) | exact HB.out)⟩⟩
   ·rw [if_neg c6] at H
    have c6b0 : decide (a0_0 < 1) = false := decide_eq_false c6
    clear c6
    have H' := Aside0.mk H
    clear H
    obtain ⟨hcz8_0, hcz8_1, hcz8_2, hcz8_3, hcz8_4⟩ := cells5 BK113.out
    obtain ⟨hfz8_0, hfz8_1, hfz8_2, hfz8_3, hfz8_4⟩ := froz5 BK113.out
    go_wp2
    repeat (go_quiet (fail); try go_wp2)
    go_meet
    case rel => exact ⟨_, (decide (a0_0 > 6)), (by first | rfl | (simp; done) | (simp [*]; done) | (refine congrArg Value.bool ?_; rw [Bool.eq_iff_iff]; simp; done)), H', ⟨by first | omega | exact Nat.le_refl _⟩, ⟨by (with_reducible repeat (first | refine blk_drewN ?_ _ | refine blk_drew ?_ | refine blk_alloc ?_ _)); exact BK113.out⟩, ⟨by repeat (first | (with_reducible first | exact HB.out | apply below_alloc | apply pw_below_drewN | apply below_drew1 | refine below_set ?_ GE113.out) | exact HB.out)⟩⟩
 case rest =>
  clear HC3; try clear c1; try clear p2; try clear c5; try clear c5b0; try clear c6; try clear c6b0; try clear hcz7_0; try clear hcz7_1; try clear hcz7_2; try clear hcz7_3; try clear hcz7_4; try clear hcz8_0; try clear hcz8_1; try clear hcz8_2; try clear hcz8_3; try clear hcz8_4; try clear hfz7_0; try clear hfz7_1; try clear hfz7_2; try clear hfz7_3; try clear hfz7_4; try clear hfz8_0; try clear hfz8_1; try clear hfz8_2; try clear hfz8_3; try clear hfz8_4
  obtain ⟨kq, x20_2, rfl, HA, HJ2, BK113, HB⟩ := hcut
  cases kq with
  | zero => exact absurd HA.out (by simp [exequaturref01_Fits.j0])
  | succ kj2 =>
   have H := HA.out
   clear HA
   simp only [exequaturref01_Fits.j0] at H
   by_cases c9 : x20_2 = true
   ·subst c9
    have H1 : (some false) = some r := by rw [if_pos rfl] at H; exact H
    clear H
    have H := H1
    clear H1
    obtain rfl := Option.some.inj H
    go_wp2
    repeat (go_quiet (fail); try go_wp2)
    go_ret
    first | (exact ⟨by first | rfl | (simp [errW_none, errW_some] <;> rfl) | (simp [*, errW_none, errW_some] <;> rfl), by repeat (first | (with_reducible first | exact HB.out | apply below_alloc | apply pw_below_drewN | apply below_drew1 | refine below_set ?_ GE113.out) | exact HB.out)⟩) | (focus (exfalso; simp_all; done))
    all_goals (first | (exfalso; simp_all <;> omega) | (go_ret; exact ⟨by first | rfl | (simp [errW_none, errW_some] <;> rfl) | (simp [*, errW_none, errW_some] <;> rfl), by repeat (first | (with_reducible first | exact HB.out | apply below_alloc | apply pw_below_drewN | apply below_drew1 | refine below_set ?_ GE113.out) | exact HB.out)⟩))
   ·replace c9 := Bool.eq_false_iff.mpr c9
    subst c9
    have H1 : (if a0_0 = 5 then (exequaturref01_Fits.j1 kj2 a1 true a0_0 a0_1 a0_2 l0_3 l0_4) else (exequaturref01_Fits.j1 kj2 a1 (a0_0 == 6) a0_0 a0_1 a0_2 l0_3 l0_4)) = some r := by rw [if_neg (show ¬ (false = true) by decide)] at H; exact H
    clear H
    have H := H1
    clear H1
    have HC10 := Aside0.mk H
    clear H
    go_upto_region 3 with (fail)
    repeat (go_quiet (fail); go_upto_region 3 with (fail))
    go_cut [5] (fun v5 wc => ∃ (kq : Nat) (x5_9 : Bool), v5 = .bool x5_9 ∧ Aside0 (exequaturref01_Fits.j1 kq a1 x5_9 a0_0 a0_1 a0_2 l0_3 l0_4 = some r) ∧ Aside0 (kq ≤ kj2) ∧ Aside0 (wc.heap[gb113]? = some (.cells #[.int .i64 a0_0, .int .i64 a0_1, .string a0_2, (.slice A0_3 l0_3.length c0_3), (.slice A0_4 l0_4.length c0_4)] 25 (0, 0))) ∧ Aside0 (Below w.heap.size w wc))
    case first =>
     have H := HC10.out
     clear HC10
     by_cases c11 : a0_0 = 5
     ·rw [if_pos c11] at H
      have c11b0 : (a0_0 == 5) = true := beq_iff_eq.mpr c11
      have c11b1 : (a0_0 != 5) = false := bne_eq_false_iff_eq.mpr c11
      clear c11
      (first | rw [c11b0] | (simp only [i64_w, i32_w]; rw [c11b0]) | skip)
      have H' := Aside0.mk H
      clear H
      obtain ⟨hcz12_0, hcz12_1, hcz12_2, hcz12_3, hcz12_4⟩ := cells5 BK113.out
      obtain ⟨hfz12_0, hfz12_1, hfz12_2, hfz12_3, hfz12_4⟩ := froz5 BK113.out
      go_wp2
      repeat (go_quiet (fail); try go_wp2)
      go_meet
      case rel => exact ⟨_, (true), (by first | rfl | (simp; done) | (simp [*]; done) | (refine congrArg Value.bool ?_; rw [Bool.eq_iff_iff]; simp; done)), H', ⟨by have := HJ2.out; first | omega | exact Nat.le_refl _⟩, ⟨by (with_reducible repeat (first | refine blk_drewN ?_ _ | refine blk_drew ?_ | refine blk_alloc ?_ _)); exact BK113.out⟩, ⟨by repeat (first | (with_reducible first | exact HB.out | apply below_alloc | apply pw_below_drewN | apply below_drew1 | refine below_set ?_ GE113.out) | exact HB.out)⟩⟩
     ·rw [if_neg c11] at H
      have c11b0 : (a0_0 == 5) = false := beq_eq_false_iff_ne.mpr c11
      have c11b1 : (a0_0 != 5) = true := bne_iff_ne.mpr c11
      (first | rw [c11b0] | (simp only [i64_w, i32_w]; rw [c11b0]) | skip)
      have H' := Aside0.mk H
      clear H
      obtain ⟨hcz13_0, hcz13_1, hcz13_2, hcz13_3, hcz13_4⟩ := cells5 BK113.out
      obtain ⟨hfz13_0, hfz13_1, hfz13_2, hfz13_3, hfz13_4⟩ := froz5 BK113.out
      go_wp2
      repeat (go_quiet (fail); try go_wp2)
      go_meet
      case rel => exact ⟨_, ((a0_0 == 6)), (by first | rfl | (simp; done) | (simp [*]; done) | (refine congrArg Value.bool ?_; rw [Bool.eq_iff_iff]; simp; done)), H', ⟨by have := HJ2.out; first | omega | exact Nat.le_refl _⟩, ⟨by (with_reducible repeat (first | refine blk_drewN ?_ _ | refine blk_drew ?_ | refine blk_alloc ?_ _)); exact BK113.out⟩, ⟨by repeat (first | (with_reducible first | exact HB.out | apply below_alloc | apply pw_below_drewN | apply below_drew1 | refine below_set ?_ GE113.out) | exact HB.out)⟩⟩
    case rest =>
     clear HC10; try clear c1; try clear p2; try clear c5; try clear c5b0; try clear c6; try clear c6b0; try clear c9; try clear c11; try clear c11b0; try clear c11b1; try clear hcz12_0; try clear hcz12_1; try clear hcz12_2; try clear hcz12_3; try clear hcz12_4; try clear hcz13_0; try clear hcz13_1; try clear hcz13_2; try clear hcz13_3; try clear hcz13_4; try clear hcz7_0; try clear hcz7_1; try clear hcz7_2; try clear hcz7_3; try clear hcz7_4; try clear hcz8_0; try clear hcz8_1; try clear hcz8_2; try clear hcz8_3; try clear hcz8_4; try clear hfz12_0; try clear hfz12_1; try clear hfz12_2; try clear hfz12_3; try clear hfz12_4; try clear hfz13_0; try clear hfz13_1; try clear hfz13_2; try clear hfz13_3; try clear hfz13_4; try clear hfz7_0; try clear hfz7_1; try clear hfz7_2; try clear hfz7_3; try clear hfz7_4; try clear hfz8_0; try clear hfz8_1; try clear hfz8_2; try clear hfz8_3; try clear hfz8_4; try clear p2
     obtain ⟨kq, x5_9, rfl, HA, HJ9, BK113, HB⟩ := hcut
     cases kq with
     | zero => exact absurd HA.out (by simp [exequaturref01_Fits.j1])
     | succ kj9 =>
      have H := HA.out
      clear HA
      simp only [exequaturref01_Fits.j1] at H
      have HC14 := Aside0.mk H
      clear H
      go_upto_block 0 with (fail)
      repeat (go_quiet (fail); go_upto_block 0 with (fail))
      go_cut [] (fun wc => ∃ (kq : Nat), Aside0 (exequaturref01_Fits.j8 kq a1 a0_0 a0_1 a0_2 l0_3 l0_4 = some r) ∧ Aside0 (kq ≤ kj9) ∧ Aside0 (wc.heap[gb113]? = some (.cells #[.int .i64 a0_0, .int .i64 a0_1, .string a0_2, (.slice A0_3 l0_3.length c0_3), (.slice A0_4 l0_4.length c0_4)] 25 (0, 0))) ∧ Aside0 (Below w.heap.size w wc))
      case first =>
       have H := HC14.out
       clear HC14
       have HC15 := Aside0.mk H
       clear H
       go_upto_region 4 with (fail)
       repeat (go_quiet (fail); go_upto_region 4 with (fail))
       go_cut [29] (fun v29 wc => ∃ (kq : Nat) (x29_14 : Bool), v29 = .bool x29_14 ∧ Aside0 (exequaturref01_Fits.j2 kq a1 x5_9 x29_14 a0_0 a0_1 a0_2 l0_3 l0_4 = some r) ∧ Aside0 (kq ≤ kj9) ∧ Aside0 (wc.heap[gb113]? = some (.cells #[.int .i64 a0_0, .int .i64 a0_1, .string a0_2, (.slice A0_3 l0_3.length c0_3), (.slice A0_4 l0_4.length c0_4)] 25 (0, 0))) ∧ Aside0 (Below w.heap.size w wc))
       case first =>
        have H := HC15.out
        clear HC15
        by_cases c16 : a0_0 = 2
        ·rw [if_pos c16] at H
         have c16b0 : (a0_0 == 2) = true := beq_iff_eq.mpr c16
         have c16b1 : (a0_0 != 2) = false := bne_eq_false_iff_eq.mpr c16
         clear c16
         (first | rw [c16b0] | (simp only [i64_w, i32_w]; rw [c16b0]) | skip)
         by_cases c17 : a0_1 = 0
         ·rw [if_pos c17] at H
          have c17b0 : (a0_1 == 0) = true := beq_iff_eq.mpr c17
          have c17b1 : (a0_1 != 0) = false := bne_eq_false_iff_eq.mpr c17
          clear c17
          have H' := Aside0.mk H
          clear H
          obtain ⟨hcz18_0, hcz18_1, hcz18_2, hcz18_3, hcz18_4⟩ := cells5 BK113.out
          obtain ⟨hfz18_0, hfz18_1, hfz18_2, hfz18_3, hfz18_4⟩ := froz5 BK113.out
          go_wp2
          repeat (go_quiet (fail); try go_wp2)
          go_meet
          case rel => exact ⟨_, (false), (by first | rfl | (simp; done) | (simp [*]; done) | (refine congrArg Value.bool ?_; rw [Bool.eq_iff_iff]; simp; done)), H', ⟨by have := HJ2.out; have := HJ9.out; first | omega | exact Nat.le_refl _⟩, ⟨by (with_reducible repeat (first | refine blk_drewN ?_ _ | refine blk_drew ?_ | refine blk_alloc ?_ _)); exact BK113.out⟩, ⟨by repeat (first | (with_reducible first | exact HB.out | apply below_alloc | apply pw_below_drewN | apply below_drew1 | refine below_set ?_ GE113.out) | exact HB.out)⟩⟩
         ·rw [if_neg c17] at H
          have c17b0 : (a0_1 == 0) = false := beq_eq_false_iff_ne.mpr c17
          have c17b1 : (a0_1 != 0) = true := bne_iff_ne.mpr c17
          have H' := Aside0.mk H
          clear H
          obtain ⟨hcz19_0, hcz19_1, hcz19_2, hcz19_3, hcz19_4⟩ := cells5 BK113.out
          obtain ⟨hfz19_0, hfz19_1, hfz19_2, hfz19_3, hfz19_4⟩ := froz5 BK113.out
          go_wp2
          repeat (go_quiet (fail); try go_wp2)
          go_meet
          case rel => exact ⟨_, ((a0_1 != 1)), (by first | rfl | (simp; done) | (simp [*]; done) | (refine congrArg Value.bool ?_; rw [Bool.eq_iff_iff]; simp; done)), H', ⟨by have := HJ2.out; have := HJ9.out; first | omega | exact Nat.le_refl _⟩, ⟨by (with_reducible repeat (first | refine blk_drewN ?_ _ | refine blk_drew ?_ | refine blk_alloc ?_ _)); exact BK113.out⟩, ⟨by repeat (first | (with_reducible first | exact HB.out | apply below_alloc | apply pw_below_drewN | apply below_drew1 | refine below_set ?_ GE113.out) | exact HB.out)⟩⟩
        ·rw [if_neg c16] at H
         have c16b0 : (a0_0 == 2) = false := beq_eq_false_iff_ne.mpr c16
         have c16b1 : (a0_0 != 2) = true := bne_iff_ne.mpr c16
         (first | rw [c16b0] | (simp only [i64_w, i32_w]; rw [c16b0]) | skip)
         have H' := Aside0.mk H
         clear H
         obtain ⟨hcz20_0, hcz20_1, hcz20_2, hcz20_3, hcz20_4⟩ := cells5 BK113.out
         obtain ⟨hfz20_0, hfz20_1, hfz20_2, hfz20_3, hfz20_4⟩ := froz5 BK113.out
         go_wp2
         repeat (go_quiet (fail); try go_wp2)
         go_meet
         case rel => exact ⟨_, (false), (by first | rfl | (simp; done) | (simp [*]; done) | (refine congrArg Value.bool ?_; rw [Bool.eq_iff_iff]; simp; done)), H', ⟨by have := HJ2.out; have := HJ9.out; first | omega | exact Nat.le_refl _⟩, ⟨by (with_reducible repeat (first | refine blk_drewN ?_ _ | refine blk_drew ?_ | refine blk_alloc ?_ _)); exact BK113.out⟩, ⟨by repeat (first | (with_reducible first | exact HB.out | apply below_alloc | apply pw_below_drewN | apply below_drew1 | refine below_set ?_ GE113.out) | exact HB.out)⟩⟩
       case rest =>
        clear HC15; try clear c1; try clear p2; try clear c5; try clear c5b0; try clear c6; try clear c6b0; try clear c9; try clear c11; try clear c11b0; try clear c11b1; try clear c16; try clear c16b0; try clear c16b1; try clear c17; try clear c17b0; try clear c17b1; try clear c19; try clear hcz12_0; try clear hcz12_1; try clear hcz12_2; try clear hcz12_3; try clear hcz12_4; try clear hcz13_0; try clear hcz13_1; try clear hcz13_2; try clear hcz13_3; try clear hcz13_4; try clear hcz18_0; try clear hcz18_1; try clear hcz18_2; try clear hcz18_3; try clear hcz18_4; try clear hcz19_0; try clear hcz19_1; try clear hcz19_2; try clear hcz19_3; try clear hcz19_4; try clear hcz20_0; try clear hcz20_1; try clear hcz20_2; try clear hcz20_3; try clear hcz20_4; try clear hcz7_0; try clear hcz7_1; try clear hcz7_2; try clear hcz7_3; try clear hcz7_4; try clear hcz8_0; try clear hcz8_1; try clear hcz8_2; try clear hcz8_3; try clear hcz8_4; try clear hfz12_0; try clear hfz12_1; try clear hfz12_2; try clear hfz12_3; try clear hfz12_4; try clear hfz13_0; try clear hfz13_1; try clear hfz13_2; try clear hfz13_3; try clear hfz13_4; try clear hfz18_0; try clear hfz18_1; try clear hfz18_2; try clear hfz18_3; try clear hfz18_4; try clear hfz19_0; try clear hfz19_1; try clear hfz19_2; try clear hfz19_3; try clear hfz19_4; try clear hfz20_0; try clear hfz20_1; try clear hfz20_2; try clear hfz20_3; try clear hfz20_4; try clear hfz7_0; try clear hfz7_1; try clear hfz7_2; try clear hfz7_3; try clear hfz7_4; try clear hfz8_0; try clear hfz8_1; try clear hfz8_2; try clear hfz8_3; try clear hfz8_4; try clear p2
        obtain ⟨kq, x29_14, rfl, HA, HJ14, BK113, HB⟩ := hcut
        cases kq with
        | zero => exact absurd HA.out (by simp [exequaturref01_Fits.j2])
        | succ kj14 =>
         have H := HA.out
         clear HA
         simp only [exequaturref01_Fits.j2] at H
         by_cases c21 : x29_14 = true
         ·subst c21
          have H1 : (some false) = some r := by rw [if_pos rfl] at H; exact H
          clear H
          have H := H1
          clear H1
          obtain rfl := Option.some.inj H
          go_wp2
          repeat (go_quiet (fail); try go_wp2)
          go_ret
          first | (exact ⟨by first | rfl | (simp [errW_none, errW_some] <;> rfl) | (simp [*, errW_none, errW_some] <;> rfl), by repeat (first | (with_reducible first | exact HB.out | apply below_alloc | apply pw_below_drewN | apply below_drew1 | refine below_set ?_ GE113.out) | exact HB.out)⟩) | (focus (exfalso; simp_all; done))
          all_goals (first | (exfalso; simp_all <;> omega) | (go_ret; exact ⟨by first | rfl | (simp [errW_none, errW_some] <;> rfl) | (simp [*, errW_none, errW_some] <;> rfl), by repeat (first | (with_reducible first | exact HB.out | apply below_alloc | apply pw_below_drewN | apply below_drew1 | refine below_set ?_ GE113.out) | exact HB.out)⟩))
         ·replace c21 := Bool.eq_false_iff.mpr c21
          subst c21
          have H1 : (if a0_0 = 3 then (if a0_1 < (-9007199254740992) then (exequaturref01_Fits.j3 kj14 a1 x5_9 true a0_0 a0_1 a0_2 l0_3 l0_4) else (exequaturref01_Fits.j3 kj14 a1 x5_9 (decide (a0_1 > 9007199254740992)) a0_0 a0_1 a0_2 l0_3 l0_4)) else (exequaturref01_Fits.j3 kj14 a1 x5_9 false a0_0 a0_1 a0_2 l0_3 l0_4)) = some r := by rw [if_neg (show ¬ (false = true) by decide)] at H; exact H
          clear H
          have H := H1
          clear H1
          have HC22 := Aside0.mk H
          clear H
          go_upto_region 6 with (fail)
          repeat (go_quiet (fail); go_upto_region 6 with (fail))
          go_cut [43] (fun v43 wc => ∃ (kq : Nat) (x43_21 : Bool), v43 = .bool x43_21 ∧ Aside0 (exequaturref01_Fits.j3 kq a1 x5_9 x43_21 a0_0 a0_1 a0_2 l0_3 l0_4 = some r) ∧ Aside0 (kq ≤ kj14) ∧ Aside0 (wc.heap[gb113]? = some (.cells #[.int .i64 a0_0, .int .i64 a0_1, .string a0_2, (.slice A0_3 l0_3.length c0_3), (.slice A0_4 l0_4.length c0_4)] 25 (0, 0))) ∧ Aside0 (Below w.heap.size w wc))
          case first =>
           have H := HC22.out
           clear HC22
           by_cases c23 : a0_0 = 3
           ·rw [if_pos c23] at H
            have c23b0 : (a0_0 == 3) = true := beq_iff_eq.mpr c23
            have c23b1 : (a0_0 != 3) = false := bne_eq_false_iff_eq.mpr c23
            clear c23
            (first | rw [c23b0] | (simp only [i64_w, i32_w]; rw [c23b0]) | skip)
            by_cases c24 : a0_1 < (-9007199254740992)
            ·rw [if_pos c24] at H
             have c24b0 : decide (a0_1 < (-9007199254740992)) = true := decide_eq_true c24
             clear c24
             have H' := Aside0.mk H
             clear H
             obtain ⟨hcz25_0, hcz25_1, hcz25_2, hcz25_3, hcz25_4⟩ := cells5 BK113.out
             obtain ⟨hfz25_0, hfz25_1, hfz25_2, hfz25_3, hfz25_4⟩ := froz5 BK113.out
             go_wp2
             repeat (go_quiet (fail); try go_wp2)
             go_meet
             case rel => exact ⟨_, (true), (by first | rfl | (simp; done) | (simp [*]; done) | (refine congrArg Value.bool ?_; rw [Bool.eq_iff_iff]; simp; done)), H', ⟨by have := HJ2.out; have := HJ9.out; have := HJ14.out; first | omega | exact Nat.le_refl _⟩, ⟨by (with_reducible repeat (first | refine blk_drewN ?_ _ | refine blk_drew ?_ | refine blk_alloc ?_ _)); exact BK113.out⟩, ⟨by repeat (first | (with_reducible first | exact HB.out | apply below_alloc | apply pw_below_drewN | apply below_drew1 | refine below_set ?_ GE113.out) | exact HB.out)⟩⟩
            ·rw [if_neg c24] at H
             have c24b0 : decide (a0_1 < (-9007199254740992)) = false := decide_eq_false c24
             clear c24
             have H' := Aside0.mk H
             clear H
             obtain ⟨hcz26_0, hcz26_1, hcz26_2, hcz26_3, hcz26_4⟩ := cells5 BK113.out
             obtain ⟨hfz26_0, hfz26_1, hfz26_2, hfz26_3, hfz26_4⟩ := froz5 BK113.out
             go_wp2
             repeat (go_quiet (fail); try go_wp2)
             go_meet
             case rel => exact ⟨_, (decide (a0_1 > 9007199254740992)), (by first | rfl | (simp; done) | (simp [*]; done) | (refine congrArg Value.bool ?_; rw [Bool.eq_iff_iff]; simp; done)), H', ⟨by have := HJ2.out; have := HJ9.out; have := HJ14.out; first | omega | exact Nat.le_refl _⟩, ⟨by (with_reducible repeat (first | refine blk_drewN ?_ _ | refine blk_drew ?_ | refine blk_alloc ?_ _)); exact BK113.out⟩, ⟨by repeat (first | (with_reducible first | exact HB.out | apply below_alloc | apply pw_below_drewN | apply below_drew1 | refine below_set ?_ GE113.out) | exact HB.out)⟩⟩
           ·rw [if_neg c23] at H
            have c23b0 : (a0_0 == 3) = false := beq_eq_false_iff_ne.mpr c23
            have c23b1 : (a0_0 != 3) = true := bne_iff_ne.mpr c23
            (first | rw [c23b0] | (simp only [i64_w, i32_w]; rw [c23b0]) | skip)
            have H' := Aside0.mk H
            clear H
            obtain ⟨hcz27_0, hcz27_1, hcz27_2, hcz27_3, hcz27_4⟩ := cells5 BK113.out
            obtain ⟨hfz27_0, hfz27_1, hfz27_2, hfz27_3, hfz27_4⟩ := froz5 BK113.out
            go_wp2
            repeat (go_quiet (fail); try go_wp2)
            go_meet
            case rel => exact ⟨_, (false), (by first | rfl | (simp; done) | (simp [*]; done) | (refine congrArg Value.bool ?_; rw [Bool.eq_iff_iff]; simp; done)), H', ⟨by have := HJ2.out; have := HJ9.out; have := HJ14.out; first | omega | exact Nat.le_refl _⟩, ⟨by (with_reducible repeat (first | refine blk_drewN ?_ _ | refine blk_drew ?_ | refine blk_alloc ?_ _)); exact BK113.out⟩, ⟨by repeat (first | (with_reducible first | exact HB.out | apply below_alloc | apply pw_below_drewN | apply below_drew1 | refine below_set ?_ GE113.out) | exact HB.out)⟩⟩
          case rest => as_aux_lemma =>
           clear HC22; try clear c1; try clear c2; try clear p2; try clear c5; try clear c5b0; try clear c6; try clear c6b0; try clear c9; try clear c11; try clear c11b0; try clear c11b1; try clear c16; try clear c16b0; try clear c16b1; try clear c17; try clear c17b0; try clear c17b1; try clear c19; try clear c21; try clear c23; try clear c23b0; try clear c23b1; try clear c24; try clear c24b0; try clear hcz12_0; try clear hcz12_1; try clear hcz12_2; try clear hcz12_3; try clear hcz12_4; try clear hcz13_0; try clear hcz13_1; try clear hcz13_2; try clear hcz13_3; try clear hcz13_4; try clear hcz18_0; try clear hcz18_1; try clear hcz18_2; try clear hcz18_3; try clear hcz18_4; try clear hcz19_0; try clear hcz19_1; try clear hcz19_2; try clear hcz19_3; try clear hcz19_4; try clear hcz20_0; try clear hcz20_1; try clear hcz20_2; try clear hcz20_3; try clear hcz20_4; try clear hcz25_0; try clear hcz25_1; try clear hcz25_2; try clear hcz25_3; try clear hcz25_4; try clear hcz26_0; try clear hcz26_1; try clear hcz26_2; try clear hcz26_3; try clear hcz26_4; try clear hcz27_0; try clear hcz27_1; try clear hcz27_2; try clear hcz27_3; try clear hcz27_4; try clear hcz7_0; try clear hcz7_1; try clear hcz7_2; try clear hcz7_3; try clear hcz7_4; try clear hcz8_0; try clear hcz8_1; try clear hcz8_2; try clear hcz8_3; try clear hcz8_4; try clear hfz12_0; try clear hfz12_1; try clear hfz12_2; try clear hfz12_3; try clear hfz12_4; try clear hfz13_0; try clear hfz13_1; try clear hfz13_2; try clear hfz13_3; try clear hfz13_4; try clear hfz18_0; try clear hfz18_1; try clear hfz18_2; try clear hfz18_3; try clear hfz18_4; try clear hfz19_0; try clear hfz19_1; try clear hfz19_2; try clear hfz19_3; try clear hfz19_4; try clear hfz20_0; try clear hfz20_1; try clear hfz20_2; try clear hfz20_3; try clear hfz20_4; try clear hfz25_0; try clear hfz25_1; try clear hfz25_2; try clear hfz25_3; try clear hfz25_4; try clear hfz26_0; try clear hfz26_1; try clear hfz26_2; try clear hfz26_3; try clear hfz26_4; try clear hfz27_0; try clear hfz27_1; try clear hfz27_2; try clear hfz27_3; try clear hfz27_4; try clear hfz7_0; try clear hfz7_1; try clear hfz7_2; try clear hfz7_3; try clear hfz7_4; try clear hfz8_0; try clear hfz8_1; try clear hfz8_2; try clear hfz8_3; try clear hfz8_4; try clear p2
           obtain ⟨kq, x43_21, rfl, HA, HJ21, BK113, HB⟩ := hcut
           cases kq with
           | zero => exact absurd HA.out (by simp [exequaturref01_Fits.j3])
           | succ kj21 =>
            have H := HA.out
            clear HA
            simp only [exequaturref01_Fits.j3] at H
            by_cases c28 : x43_21 = true
            ·subst c28
             have H1 : (some false) = some r := by rw [if_pos rfl] at H; exact H
             clear H
             have H := H1
             clear H1
             obtain rfl := Option.some.inj H
             go_wp2
             repeat (go_quiet (fail); try go_wp2)
             go_ret
             first | (exact ⟨by first | rfl | (simp [errW_none, errW_some] <;> rfl) | (simp [*, errW_none, errW_some] <;> rfl), by repeat (first | (with_reducible first | exact HB.out | apply below_alloc | apply pw_below_drewN | apply below_drew1 | refine below_set ?_ GE113.out) | exact HB.out)⟩) | (focus (exfalso; simp_all; done))
             all_goals (first | (exfalso; simp_all <;> omega) | (go_ret; exact ⟨by first | rfl | (simp [errW_none, errW_some] <;> rfl) | (simp [*, errW_none, errW_some] <;> rfl), by repeat (first | (with_reducible first | exact HB.out | apply below_alloc | apply pw_below_drewN | apply below_drew1 | refine below_set ?_ GE113.out) | exact HB.out)⟩))
            ·replace c28 := Bool.eq_false_iff.mpr c28
             subst c28
             have H1 : (if a0_0 = 2 then (exequaturref01_Fits.j4 kj21 a1 x5_9 false a0_0 a0_1 a0_2 l0_3 l0_4) else (if a0_0 = 3 then (exequaturref01_Fits.j4 kj21 a1 x5_9 false a0_0 a0_1 a0_2 l0_3 l0_4) else (exequaturref01_Fits.j4 kj21 a1 x5_9 (a0_1 != 0) a0_0 a0_1 a0_2 l0_3 l0_4))) = some r := by rw [if_neg (show ¬ (false = true) by decide)] at H; exact H
             clear H
             have H := H1
             clear H1
             have HC29 := Aside0.mk H
             clear H
             go_upto_region 8 with (fail)
             repeat (go_quiet (fail); go_upto_region 8 with (fail))
             go_cut [57] (fun v57 wc => ∃ (kq : Nat) (x57_28 : Bool), v57 = .bool x57_28 ∧ Aside0 (exequaturref01_Fits.j4 kq a1 x5_9 x57_28 a0_0 a0_1 a0_2 l0_3 l0_4 = some r) ∧ Aside0 (kq ≤ kj21) ∧ Aside0 (wc.heap[gb113]? = some (.cells #[.int .i64 a0_0, .int .i64 a0_1, .string a0_2, (.slice A0_3 l0_3.length c0_3), (.slice A0_4 l0_4.length c0_4)] 25 (0, 0))) ∧ Aside0 (Below w.heap.size w wc))
             case first =>
              have H := HC29.out
              clear HC29
              by_cases c30 : a0_0 = 2
              ·rw [if_pos c30] at H
               have c30b0 : (a0_0 == 2) = true := beq_iff_eq.mpr c30
               have c30b1 : (a0_0 != 2) = false := bne_eq_false_iff_eq.mpr c30
               clear c30
               (first | rw [c30b0] | (simp only [i64_w, i32_w]; rw [c30b0]) | skip)
               have H' := Aside0.mk H
               clear H
               obtain ⟨hcz31_0, hcz31_1, hcz31_2, hcz31_3, hcz31_4⟩ := cells5 BK113.out
               obtain ⟨hfz31_0, hfz31_1, hfz31_2, hfz31_3, hfz31_4⟩ := froz5 BK113.out
               go_wp2
               repeat (go_quiet (fail); try go_wp2)
               go_meet
               case rel => exact ⟨_, (false), (by first | rfl | (simp; done) | (simp [*]; done) | (refine congrArg Value.bool ?_; rw [Bool.eq_iff_iff]; simp; done)), H', ⟨by have := HJ2.out; have := HJ9.out; have := HJ14.out; have := HJ21.out; first | omega | exact Nat.le_refl _⟩, ⟨by (with_reducible repeat (first | refine blk_drewN ?_ _ | refine blk_drew ?_ | refine blk_alloc ?_ _)); exact BK113.out⟩, ⟨by repeat (first | (with_reducible first | exact HB.out | apply below_alloc | apply pw_below_drewN | apply below_drew1 | refine below_set ?_ GE113.out) | exact HB.out)⟩⟩
              ·rw [if_neg c30] at H
               have c30b0 : (a0_0 == 2) = false := beq_eq_false_iff_ne.mpr c30
               have c30b1 : (a0_0 != 2) = true := bne_iff_ne.mpr c30
               (first | rw [c30b0] | (simp only [i64_w, i32_w]; rw [c30b0]) | skip)
               by_cases c32 : a0_0 = 3
               ·rw [if_pos c32] at H
                have c32b0 : (a0_0 == 3) = true := beq_iff_eq.mpr c32
                have c32b1 : (a0_0 != 3) = false := bne_eq_false_iff_eq.mpr c32
                clear c32
                have H' := Aside0.mk H
                clear H
                obtain ⟨hcz33_0, hcz33_1, hcz33_2, hcz33_3, hcz33_4⟩ := cells5 BK113.out
                obtain ⟨hfz33_0, hfz33_1, hfz33_2, hfz33_3, hfz33_4⟩ := froz5 BK113.out
                go_wp2
                repeat (go_quiet (fail); try go_wp2)
                go_meet
                case rel => exact ⟨_, (false), (by first | rfl | (simp; done) | (simp [*]; done) | (refine congrArg Value.bool ?_; rw [Bool.eq_iff_iff]; simp; done)), H', ⟨by have := HJ2.out; have := HJ9.out; have := HJ14.out; have := HJ21.out; first | omega | exact Nat.le_refl _⟩, ⟨by (with_reducible repeat (first | refine blk_drewN ?_ _ | refine blk_drew ?_ | refine blk_alloc ?_ _)); exact BK113.out⟩, ⟨by repeat (first | (with_reducible first | exact HB.out | apply below_alloc | apply pw_below_drewN | apply below_drew1 | refine below_set ?_ GE113.out) | exact HB.out)⟩⟩
               ·rw [if_neg c32] at H
                have c32b0 : (a0_0 == 3) = false := beq_eq_false_iff_ne.mpr c32
                have c32b1 : (a0_0 != 3) = true := bne_iff_ne.mpr c32
                have H' := Aside0.mk H
                clear H
                obtain ⟨hcz34_0, hcz34_1, hcz34_2, hcz34_3, hcz34_4⟩ := cells5 BK113.out
                obtain ⟨hfz34_0, hfz34_1, hfz34_2, hfz34_3, hfz34_4⟩ := froz5 BK113.out
                go_wp2
                repeat (go_quiet (fail); try go_wp2)
                go_meet
                case rel => exact ⟨_, ((a0_1 != 0)), (by first | rfl | (simp; done) | (simp [*]; done) | (refine congrArg Value.bool ?_; rw [Bool.eq_iff_iff]; simp; done)), H', ⟨by have := HJ2.out; have := HJ9.out; have := HJ14.out; have := HJ21.out; first | omega | exact Nat.le_refl _⟩, ⟨by (with_reducible repeat (first | refine blk_drewN ?_ _ | refine blk_drew ?_ | refine blk_alloc ?_ _)); exact BK113.out⟩, ⟨by repeat (first | (with_reducible first | exact HB.out | apply below_alloc | apply pw_below_drewN | apply below_drew1 | refine below_set ?_ GE113.out) | exact HB.out)⟩⟩
             case rest =>
              clear HC29; try clear c1; try clear c2; try clear p2; try clear c3; try clear c5; try clear c5b0; try clear c6; try clear c6b0; try clear c9; try clear c11; try clear c11b0; try clear c11b1; try clear c16; try clear c16b0; try clear c16b1; try clear c17; try clear c17b0; try clear c17b1; try clear c19; try clear c21; try clear c23; try clear c23b0; try clear c23b1; try clear c24; try clear c24b0; try clear c28; try clear c30; try clear c30b0; try clear c30b1; try clear c32; try clear c32b0; try clear c32b1; try clear hcz12_0; try clear hcz12_1; try clear hcz12_2; try clear hcz12_3; try clear hcz12_4; try clear hcz13_0; try clear hcz13_1; try clear hcz13_2; try clear hcz13_3; try clear hcz13_4; try clear hcz18_0; try clear hcz18_1; try clear hcz18_2; try clear hcz18_3; try clear hcz18_4; try clear hcz19_0; try clear hcz19_1; try clear hcz19_2; try clear hcz19_3; try clear hcz19_4; try clear hcz20_0; try clear hcz20_1; try clear hcz20_2; try clear hcz20_3; try clear hcz20_4; try clear hcz25_0; try clear hcz25_1; try clear hcz25_2; try clear hcz25_3; try clear hcz25_4; try clear hcz26_0; try clear hcz26_1; try clear hcz26_2; try clear hcz26_3; try clear hcz26_4; try clear hcz27_0; try clear hcz27_1; try clear hcz27_2; try clear hcz27_3; try clear hcz27_4; try clear hcz31_0; try clear hcz31_1; try clear hcz31_2; try clear hcz31_3; try clear hcz31_4; try clear hcz33_0; try clear hcz33_1; try clear hcz33_2; try clear hcz33_3; try clear hcz33_4; try clear hcz34_0; try clear hcz34_1; try clear hcz34_2; try clear hcz34_3; try clear hcz34_4; try clear hcz7_0; try clear hcz7_1; try clear hcz7_2; try clear hcz7_3; try clear hcz7_4; try clear hcz8_0; try clear hcz8_1; try clear hcz8_2; try clear hcz8_3; try clear hcz8_4; try clear hfz12_0; try clear hfz12_1; try clear hfz12_2; try clear hfz12_3; try clear hfz12_4; try clear hfz13_0; try clear hfz13_1; try clear hfz13_2; try clear hfz13_3; try clear hfz13_4; try clear hfz18_0; try clear hfz18_1; try clear hfz18_2; try clear hfz18_3; try clear hfz18_4; try clear hfz19_0; try clear hfz19_1; try clear hfz19_2; try clear hfz19_3; try clear hfz19_4; try clear hfz20_0; try clear hfz20_1; try clear hfz20_2; try clear hfz20_3; try clear hfz20_4; try clear hfz25_0; try clear hfz25_1; try clear hfz25_2; try clear hfz25_3; try clear hfz25_4; try clear hfz26_0; try clear hfz26_1; try clear hfz26_2; try clear hfz26_3; try clear hfz26_4; try clear hfz27_0; try clear hfz27_1; try clear hfz27_2; try clear hfz27_3; try clear hfz27_4; try clear hfz31_0; try clear hfz31_1; try clear hfz31_2; try clear hfz31_3; try clear hfz31_4; try clear hfz33_0; try clear hfz33_1; try clear hfz33_2; try clear hfz33_3; try clear hfz33_4; try clear hfz34_0; try clear hfz34_1; try clear hfz34_2; try clear hfz34_3; try clear hfz34_4; try clear hfz7_0; try clear hfz7_1; try clear hfz7_2; try clear hfz7_3; try clear hfz7_4; try clear hfz8_0; try clear hfz8_1; try clear hfz8_2; try clear hfz8_3; try clear hfz8_4; try clear p2
              obtain ⟨kq, x57_28, rfl, HA, HJ28, BK113, HB⟩ := hcut
              cases kq with
              | zero => exact absurd HA.out (by simp [exequaturref01_Fits.j4])
              | succ kj28 =>
               have H := HA.out
               clear HA
               simp only [exequaturref01_Fits.j4] at H
               by_cases c35 : x57_28 = true
               ·subst c35
                have H1 : (some false) = some r := by rw [if_pos rfl] at H; exact H
                clear H
                have H := H1
                clear H1
                obtain rfl := Option.some.inj H
                go_wp2
                repeat (go_quiet (fail); try go_wp2)
                go_ret
                first | (exact ⟨by first | rfl | (simp [errW_none, errW_some] <;> rfl) | (simp [*, errW_none, errW_some] <;> rfl), by repeat (first | (with_reducible first | exact HB.out | apply below_alloc | apply pw_below_drewN | apply below_drew1 | refine below_set ?_ GE113.out) | exact HB.out)⟩) | (focus (exfalso; simp_all; done))
                all_goals (first | (exfalso; simp_all <;> omega) | (go_ret; exact ⟨by first | rfl | (simp [errW_none, errW_some] <;> rfl) | (simp [*, errW_none, errW_some] <;> rfl), by repeat (first | (with_reducible first | exact HB.out | apply below_alloc | apply pw_below_drewN | apply below_drew1 | refine below_set ?_ GE113.out) | exact HB.out)⟩))
               ·replace c35 := Bool.eq_false_iff.mpr c35
                subst c35
                have H1 : (if a0_0 = 4 then (exequaturref01_Fits.j5 kj28 a1 x5_9 false a0_0 a0_1 a0_2 l0_3 l0_4) else (exequaturref01_Fits.j5 kj28 a1 x5_9 (a0_2.toList != ([] : List UInt8)) a0_0 a0_1 a0_2 l0_3 l0_4)) = some r := by rw [if_neg (show ¬ (false = true) by decide)] at H; exact H
                clear H
                have H := H1
                clear H1
                have HC36 := Aside0.mk H
                clear H
                go_upto_region 10 with (fail)
                repeat (go_quiet (fail); go_upto_region 10 with (fail))
                go_cut [71] (fun v71 wc => ∃ (kq : Nat) (x71_35 : Bool), v71 = .bool x71_35 ∧ Aside0 (exequaturref01_Fits.j5 kq a1 x5_9 x71_35 a0_0 a0_1 a0_2 l0_3 l0_4 = some r) ∧ Aside0 (kq ≤ kj28) ∧ Aside0 (wc.heap[gb113]? = some (.cells #[.int .i64 a0_0, .int .i64 a0_1, .string a0_2, (.slice A0_3 l0_3.length c0_3), (.slice A0_4 l0_4.length c0_4)] 25 (0, 0))) ∧ Aside0 (Below w.heap.size w wc))
                case first =>
                 have H := HC36.out
                 clear HC36
                 by_cases c37 : a0_0 = 4
                 ·rw [if_pos c37] at H
                  have c37b0 : (a0_0 == 4) = true := beq_iff_eq.mpr c37
                  have c37b1 : (a0_0 != 4) = false := bne_eq_false_iff_eq.mpr c37
                  clear c37
                  (first | rw [c37b0] | (simp only [i64_w, i32_w]; rw [c37b0]) | skip)
                  have H' := Aside0.mk H
                  clear H
                  obtain ⟨hcz38_0, hcz38_1, hcz38_2, hcz38_3, hcz38_4⟩ := cells5 BK113.out
                  obtain ⟨hfz38_0, hfz38_1, hfz38_2, hfz38_3, hfz38_4⟩ := froz5 BK113.out
                  go_wp2
                  repeat (go_quiet (fail); try go_wp2)
                  go_meet
                  case rel => exact ⟨_, (false), (by first | rfl | (simp; done) | (simp [*]; done) | (refine congrArg Value.bool ?_; rw [Bool.eq_iff_iff]; simp; done)), H', ⟨by have := HJ2.out; have := HJ9.out; have := HJ14.out; have := HJ21.out; have := HJ28.out; first | omega | exact Nat.le_refl _⟩, ⟨by (with_reducible repeat (first | refine blk_drewN ?_ _ | refine blk_drew ?_ | refine blk_alloc ?_ _)); exact BK113.out⟩, ⟨by repeat (first | (with_reducible first | exact HB.out | apply below_alloc | apply pw_below_drewN | apply below_drew1 | refine below_set ?_ GE113.out) | exact HB.out)⟩⟩
                 ·rw [if_neg c37] at H
                  have c37b0 : (a0_0 == 4) = false := beq_eq_false_iff_ne.mpr c37
                  have c37b1 : (a0_0 != 4) = true := bne_iff_ne.mpr c37
                  (first | rw [c37b0] | (simp only [i64_w, i32_w]; rw [c37b0]) | skip)
                  have H' := Aside0.mk H
                  clear H
                  obtain ⟨hcz39_0, hcz39_1, hcz39_2, hcz39_3, hcz39_4⟩ := cells5 BK113.out
                  obtain ⟨hfz39_0, hfz39_1, hfz39_2, hfz39_3, hfz39_4⟩ := froz5 BK113.out
                  go_wp2
                  repeat (go_quiet (fail); try go_wp2)
                  go_meet
                  case rel => exact ⟨_, ((a0_2.toList != ([] : List UInt8))), (by first | rfl | (simp; done) | (simp [*]; done) | (refine congrArg Value.bool ?_; rw [Bool.eq_iff_iff]; simp; done)), H', ⟨by have := HJ2.out; have := HJ9.out; have := HJ14.out; have := HJ21.out; have := HJ28.out; first | omega | exact Nat.le_refl _⟩, ⟨by (with_reducible repeat (first | refine blk_drewN ?_ _ | refine blk_drew ?_ | refine blk_alloc ?_ _)); exact BK113.out⟩, ⟨by repeat (first | (with_reducible first | exact HB.out | apply below_alloc | apply pw_below_drewN | apply below_drew1 | refine below_set ?_ GE113.out) | exact HB.out)⟩⟩
                case rest =>
                 clear HC36; try clear c1; try clear c2; try clear p2; try clear c3; try clear c5; try clear c5b0; try clear c6; try clear c6b0; try clear c9; try clear c11; try clear c11b0; try clear c11b1; try clear c16; try clear c16b0; try clear c16b1; try clear c17; try clear c17b0; try clear c17b1; try clear c19; try clear c21; try clear c23; try clear c23b0; try clear c23b1; try clear c24; try clear c24b0; try clear c28; try clear c30; try clear c30b0; try clear c30b1; try clear c32; try clear c32b0; try clear c32b1; try clear c35; try clear c37; try clear c37b0; try clear c37b1; try clear hcz12_0; try clear hcz12_1; try clear hcz12_2; try clear hcz12_3; try clear hcz12_4; try clear hcz13_0; try clear hcz13_1; try clear hcz13_2; try clear hcz13_3; try clear hcz13_4; try clear hcz18_0; try clear hcz18_1; try clear hcz18_2; try clear hcz18_3; try clear hcz18_4; try clear hcz19_0; try clear hcz19_1; try clear hcz19_2; try clear hcz19_3; try clear hcz19_4; try clear hcz20_0; try clear hcz20_1; try clear hcz20_2; try clear hcz20_3; try clear hcz20_4; try clear hcz25_0; try clear hcz25_1; try clear hcz25_2; try clear hcz25_3; try clear hcz25_4; try clear hcz26_0; try clear hcz26_1; try clear hcz26_2; try clear hcz26_3; try clear hcz26_4; try clear hcz27_0; try clear hcz27_1; try clear hcz27_2; try clear hcz27_3; try clear hcz27_4; try clear hcz31_0; try clear hcz31_1; try clear hcz31_2; try clear hcz31_3; try clear hcz31_4; try clear hcz33_0; try clear hcz33_1; try clear hcz33_2; try clear hcz33_3; try clear hcz33_4; try clear hcz34_0; try clear hcz34_1; try clear hcz34_2; try clear hcz34_3; try clear hcz34_4; try clear hcz38_0; try clear hcz38_1; try clear hcz38_2; try clear hcz38_3; try clear hcz38_4; try clear hcz39_0; try clear hcz39_1; try clear hcz39_2; try clear hcz39_3; try clear hcz39_4; try clear hcz7_0; try clear hcz7_1; try clear hcz7_2; try clear hcz7_3; try clear hcz7_4; try clear hcz8_0; try clear hcz8_1; try clear hcz8_2; try clear hcz8_3; try clear hcz8_4; try clear hfz12_0; try clear hfz12_1; try clear hfz12_2; try clear hfz12_3; try clear hfz12_4; try clear hfz13_0; try clear hfz13_1; try clear hfz13_2; try clear hfz13_3; try clear hfz13_4; try clear hfz18_0; try clear hfz18_1; try clear hfz18_2; try clear hfz18_3; try clear hfz18_4; try clear hfz19_0; try clear hfz19_1; try clear hfz19_2; try clear hfz19_3; try clear hfz19_4; try clear hfz20_0; try clear hfz20_1; try clear hfz20_2; try clear hfz20_3; try clear hfz20_4; try clear hfz25_0; try clear hfz25_1; try clear hfz25_2; try clear hfz25_3; try clear hfz25_4; try clear hfz26_0; try clear hfz26_1; try clear hfz26_2; try clear hfz26_3; try clear hfz26_4; try clear hfz27_0; try clear hfz27_1; try clear hfz27_2; try clear hfz27_3; try clear hfz27_4; try clear hfz31_0; try clear hfz31_1; try clear hfz31_2; try clear hfz31_3; try clear hfz31_4; try clear hfz33_0; try clear hfz33_1; try clear hfz33_2; try clear hfz33_3; try clear hfz33_4; try clear hfz34_0; try clear hfz34_1; try clear hfz34_2; try clear hfz34_3; try clear hfz34_4; try clear hfz38_0; try clear hfz38_1; try clear hfz38_2; try clear hfz38_3; try clear hfz38_4; try clear hfz39_0; try clear hfz39_1; try clear hfz39_2; try clear hfz39_3; try clear hfz39_4; try clear hfz7_0; try clear hfz7_1; try clear hfz7_2; try clear hfz7_3; try clear hfz7_4; try clear hfz8_0; try clear hfz8_1; try clear hfz8_2; try clear hfz8_3; try clear hfz8_4; try clear p2
                 obtain ⟨kq, x71_35, rfl, HA, HJ35, BK113, HB⟩ := hcut
                 cases kq with
                 | zero => exact absurd HA.out (by simp [exequaturref01_Fits.j5])
                 | succ kj35 =>
                  have H := HA.out
                  clear HA
                  simp only [exequaturref01_Fits.j5] at H
                  have HC40 := Aside0.mk H
                  clear H
                  go_upto_if 71 with (fail)
                  repeat (go_quiet (fail); go_upto_if 71 with (fail))
                  go_cut [71] (fun v71 wc => ∃ (kq : Nat) (x71_39 : Bool), v71 = .bool x71_39 ∧ Aside0 (exequaturref01_Fits.j6 kq a1 x71_39 a0_0 a0_1 a0_2 l0_3 l0_4 = some r) ∧ Aside0 (kq ≤ kj35) ∧ Aside0 (wc.heap[gb113]? = some (.cells #[.int .i64 a0_0, .int .i64 a0_1, .string a0_2, (.slice A0_3 l0_3.length c0_3), (.slice A0_4 l0_4.length c0_4)] 25 (0, 0))) ∧ Aside0 (Below w.heap.size w wc))
                  case first =>
                   have H := HC40.out
                   clear HC40
                   by_cases c41 : x71_35 = true
                   ·subst c41
                    have H1 : (exequaturref01_Fits.j6 kj35 a1 true a0_0 a0_1 a0_2 l0_3 l0_4) = some r := by rw [if_pos rfl] at H; exact H
                    clear H
                    have H := H1
                    clear H1
                    have H' := Aside0.mk H
                    clear H
                    go_wp2
                    repeat (go_quiet (fail); try go_wp2)
                    go_meet
                    case rel => exact ⟨_, (true), (by first | rfl | (simp; done) | (simp [*]; done) | (refine congrArg Value.bool ?_; rw [Bool.eq_iff_iff]; simp; done)), H', ⟨by have := HJ2.out; have := HJ9.out; have := HJ14.out; have := HJ21.out; have := HJ28.out; have := HJ35.out; first | omega | exact Nat.le_refl _⟩, ⟨by (with_reducible repeat (first | refine blk_drewN ?_ _ | refine blk_drew ?_ | refine blk_alloc ?_ _)); exact BK113.out⟩, ⟨by repeat (first | (with_reducible first | exact HB.out | apply below_alloc | apply pw_below_drewN | apply below_drew1 | refine below_set ?_ GE113.out) | exact HB.out)⟩⟩
                   ·replace c41 := Bool.eq_false_iff.mpr c41
                    subst c41
                    have H1 : (if x5_9 = true then (exequaturref01_Fits.j6 kj35 a1 (decide ((l0_3.length : Int) > 64)) a0_0 a0_1 a0_2 l0_3 l0_4) else (if (l0_3.length : Int) > 0 then (exequaturref01_Fits.j6 kj35 a1 (decide ((l0_3.length : Int) > 0)) a0_0 a0_1 a0_2 l0_3 l0_4) else (exequaturref01_Fits.j6 kj35 a1 (decide ((l0_3.length : Int) > 64)) a0_0 a0_1 a0_2 l0_3 l0_4))) = some r := by rw [if_neg (show ¬ (false = true) by decide)] at H; exact H
                    clear H
                    have H := H1
                    clear H1
                    by_cases c42 : x5_9 = true
                    ·subst c42
                     have H1 : (exequaturref01_Fits.j6 kj35 a1 (decide ((l0_3.length : Int) > 64)) a0_0 a0_1 a0_2 l0_3 l0_4) = some r := by rw [if_pos rfl] at H; exact H
                     clear H
                     have H := H1
                     clear H1
                     have H' := Aside0.mk H
                     clear H
                     obtain ⟨hcz43_0, hcz43_1, hcz43_2, hcz43_3, hcz43_4⟩ := cells5 BK113.out
                     obtain ⟨hfz43_0, hfz43_1, hfz43_2, hfz43_3, hfz43_4⟩ := froz5 BK113.out
                     go_wp2
                     repeat (go_quiet (fail); try go_wp2)
                     go_meet
                     case rel => exact ⟨_, (decide ((l0_3.length : Int) > 64)), (by first | rfl | (simp; done) | (simp [*]; done) | (refine congrArg Value.bool ?_; rw [Bool.eq_iff_iff]; simp; done)), H', ⟨by have := HJ2.out; have := HJ9.out; have := HJ14.out; have := HJ21.out; have := HJ28.out; have := HJ35.out; first | omega | exact Nat.le_refl _⟩, ⟨by (with_reducible repeat (first | refine blk_drewN ?_ _ | refine blk_drew ?_ | refine blk_alloc ?_ _)); exact BK113.out⟩, ⟨by repeat (first | (with_reducible first | exact HB.out | apply below_alloc | apply pw_below_drewN | apply below_drew1 | refine below_set ?_ GE113.out) | exact HB.out)⟩⟩
                    ·replace c42 := Bool.eq_false_iff.mpr c42
                     subst c42
                     have H1 : (if (l0_3.length : Int) > 0 then (exequaturref01_Fits.j6 kj35 a1 (decide ((l0_3.length : Int) > 0)) a0_0 a0_1 a0_2 l0_3 l0_4) else (exequaturref01_Fits.j6 kj35 a1 (decide ((l0_3.length : Int) > 64)) a0_0 a0_1 a0_2 l0_3 l0_4)) = some r := by rw [if_neg (show ¬ (false = true) by decide)] at H; exact H
                     clear H
                     have H := H1
                     clear H1
                     by_cases c44 : (l0_3.length : Int) > 0
                     ·rw [if_pos c44] at H
                      have c44b0 : decide (0 < (l0_3.length : Int)) = true := decide_eq_true c44
                      have c44b1 : decide (0 < l0_3.length) = true := decide_eq_true (by omega)
                      clear c44
                      (first | rw [c44b0] | (simp only [i64_w, i32_w]; rw [c44b0]) | skip)
                      have H' := Aside0.mk H
                      clear H
                      obtain ⟨hcz45_0, hcz45_1, hcz45_2, hcz45_3, hcz45_4⟩ := cells5 BK113.out
                      obtain ⟨hfz45_0, hfz45_1, hfz45_2, hfz45_3, hfz45_4⟩ := froz5 BK113.out
                      go_wp2
                      repeat (go_quiet (fail); try go_wp2)
                      go_meet
                      case rel => exact ⟨_, (decide ((l0_3.length : Int) > 0)), (by first | rfl | (simp; done) | (simp [*]; done) | (refine congrArg Value.bool ?_; rw [Bool.eq_iff_iff]; simp; done)), H', ⟨by have := HJ2.out; have := HJ9.out; have := HJ14.out; have := HJ21.out; have := HJ28.out; have := HJ35.out; first | omega | exact Nat.le_refl _⟩, ⟨by (with_reducible repeat (first | refine blk_drewN ?_ _ | refine blk_drew ?_ | refine blk_alloc ?_ _)); exact BK113.out⟩, ⟨by repeat (first | (with_reducible first | exact HB.out | apply below_alloc | apply pw_below_drewN | apply below_drew1 | refine below_set ?_ GE113.out) | exact HB.out)⟩⟩
                     ·rw [if_neg c44] at H
                      have c44b0 : decide (0 < (l0_3.length : Int)) = false := decide_eq_false c44
                      have c44b1 : decide (0 < l0_3.length) = false := decide_eq_false (by omega)
                      clear c44
                      (first | rw [c44b0] | (simp only [i64_w, i32_w]; rw [c44b0]) | skip)
                      have H' := Aside0.mk H
                      clear H
                      obtain ⟨hcz46_0, hcz46_1, hcz46_2, hcz46_3, hcz46_4⟩ := cells5 BK113.out
                      obtain ⟨hfz46_0, hfz46_1, hfz46_2, hfz46_3, hfz46_4⟩ := froz5 BK113.out
                      go_wp2
                      repeat (go_quiet (fail); try go_wp2)
                      go_meet
                      case rel => exact ⟨_, (decide ((l0_3.length : Int) > 64)), (by first | rfl | (simp; done) | (simp [*]; done) | (refine congrArg Value.bool ?_; rw [Bool.eq_iff_iff]; simp; done)), H', ⟨by have := HJ2.out; have := HJ9.out; have := HJ14.out; have := HJ21.out; have := HJ28.out; have := HJ35.out; first | omega | exact Nat.le_refl _⟩, ⟨by (with_reducible repeat (first | refine blk_drewN ?_ _ | refine blk_drew ?_ | refine blk_alloc ?_ _)); exact BK113.out⟩, ⟨by repeat (first | (with_reducible first | exact HB.out | apply below_alloc | apply pw_below_drewN | apply below_drew1 | refine below_set ?_ GE113.out) | exact HB.out)⟩⟩
                  case rest =>
                   clear HC40; try clear c1; try clear c2; try clear p2; try clear c3; try clear c4; try clear c5; try clear c5b0; try clear c6; try clear c6b0; try clear c9; try clear c11; try clear c11b0; try clear c11b1; try clear c16; try clear c16b0; try clear c16b1; try clear c17; try clear c17b0; try clear c17b1; try clear c19; try clear c21; try clear c23; try clear c23b0; try clear c23b1; try clear c24; try clear c24b0; try clear c28; try clear c30; try clear c30b0; try clear c30b1; try clear c32; try clear c32b0; try clear c32b1; try clear c35; try clear c37; try clear c37b0; try clear c37b1; try clear c41; try clear c42; try clear c44; try clear c44b0; try clear c44b1; try clear hcz12_0; try clear hcz12_1; try clear hcz12_2; try clear hcz12_3; try clear hcz12_4; try clear hcz13_0; try clear hcz13_1; try clear hcz13_2; try clear hcz13_3; try clear hcz13_4; try clear hcz18_0; try clear hcz18_1; try clear hcz18_2; try clear hcz18_3; try clear hcz18_4; try clear hcz19_0; try clear hcz19_1; try clear hcz19_2; try clear hcz19_3; try clear hcz19_4; try clear hcz20_0; try clear hcz20_1; try clear hcz20_2; try clear hcz20_3; try clear hcz20_4; try clear hcz25_0; try clear hcz25_1; try clear hcz25_2; try clear hcz25_3; try clear hcz25_4; try clear hcz26_0; try clear hcz26_1; try clear hcz26_2; try clear hcz26_3; try clear hcz26_4; try clear hcz27_0; try clear hcz27_1; try clear hcz27_2; try clear hcz27_3; try clear hcz27_4; try clear hcz31_0; try clear hcz31_1; try clear hcz31_2; try clear hcz31_3; try clear hcz31_4; try clear hcz33_0; try clear hcz33_1; try clear hcz33_2; try clear hcz33_3; try clear hcz33_4; try clear hcz34_0; try clear hcz34_1; try clear hcz34_2; try clear hcz34_3; try clear hcz34_4; try clear hcz38_0; try clear hcz38_1; try clear hcz38_2; try clear hcz38_3; try clear hcz38_4; try clear hcz39_0; try clear hcz39_1; try clear hcz39_2; try clear hcz39_3; try clear hcz39_4; try clear hcz43_0; try clear hcz43_1; try clear hcz43_2; try clear hcz43_3; try clear hcz43_4; try clear hcz45_0; try clear hcz45_1; try clear hcz45_2; try clear hcz45_3; try clear hcz45_4; try clear hcz46_0; try clear hcz46_1; try clear hcz46_2; try clear hcz46_3; try clear hcz46_4; try clear hcz7_0; try clear hcz7_1; try clear hcz7_2; try clear hcz7_3; try clear hcz7_4; try clear hcz8_0; try clear hcz8_1; try clear hcz8_2; try clear hcz8_3; try clear hcz8_4; try clear hfz12_0; try clear hfz12_1; try clear hfz12_2; try clear hfz12_3; try clear hfz12_4; try clear hfz13_0; try clear hfz13_1; try clear hfz13_2; try clear hfz13_3; try clear hfz13_4; try clear hfz18_0; try clear hfz18_1; try clear hfz18_2; try clear hfz18_3; try clear hfz18_4; try clear hfz19_0; try clear hfz19_1; try clear hfz19_2; try clear hfz19_3; try clear hfz19_4; try clear hfz20_0; try clear hfz20_1; try clear hfz20_2; try clear hfz20_3; try clear hfz20_4; try clear hfz25_0; try clear hfz25_1; try clear hfz25_2; try clear hfz25_3; try clear hfz25_4; try clear hfz26_0; try clear hfz26_1; try clear hfz26_2; try clear hfz26_3; try clear hfz26_4; try clear hfz27_0; try clear hfz27_1; try clear hfz27_2; try clear hfz27_3; try clear hfz27_4; try clear hfz31_0; try clear hfz31_1; try clear hfz31_2; try clear hfz31_3; try clear hfz31_4; try clear hfz33_0; try clear hfz33_1; try clear hfz33_2; try clear hfz33_3; try clear hfz33_4; try clear hfz34_0; try clear hfz34_1; try clear hfz34_2; try clear hfz34_3; try clear hfz34_4; try clear hfz38_0; try clear hfz38_1; try clear hfz38_2; try clear hfz38_3; try clear hfz38_4; try clear hfz39_0; try clear hfz39_1; try clear hfz39_2; try clear hfz39_3; try clear hfz39_4; try clear hfz43_0; try clear hfz43_1; try clear hfz43_2; try clear hfz43_3; try clear hfz43_4; try clear hfz45_0; try clear hfz45_1; try clear hfz45_2; try clear hfz45_3; try clear hfz45_4; try clear hfz46_0; try clear hfz46_1; try clear hfz46_2; try clear hfz46_3; try clear hfz46_4; try clear hfz7_0; try clear hfz7_1; try clear hfz7_2; try clear hfz7_3; try clear hfz7_4; try clear hfz8_0; try clear hfz8_1; try clear hfz8_2; try clear hfz8_3; try clear hfz8_4; try clear p2
                   obtain ⟨kq, x71_39, rfl, HA, HJ39, BK113, HB⟩ := hcut
                   cases kq with
                   | zero => exact absurd HA.out (by simp [exequaturref01_Fits.j6])
                   | succ kj39 =>
                    have H := HA.out
                    clear HA
                    simp only [exequaturref01_Fits.j6] at H
                    by_cases c47 : x71_39 = true
                    ·subst c47
                     have H1 : (some false) = some r := by rw [if_pos rfl] at H; exact H
                     clear H
                     have H := H1
                     clear H1
                     obtain rfl := Option.some.inj H
                     go_wp2
                     repeat (go_quiet (fail); try go_wp2)
                     go_ret
                     first | (exact ⟨by first | rfl | (simp [errW_none, errW_some] <;> rfl) | (simp [*, errW_none, errW_some] <;> rfl), by repeat (first | (with_reducible first | exact HB.out | apply below_alloc | apply pw_below_drewN | apply below_drew1 | refine below_set ?_ GE113.out) | exact HB.out)⟩) | (focus (exfalso; simp_all; done))
                     all_goals (first | (exfalso; simp_all <;> omega) | (go_ret; exact ⟨by first | rfl | (simp [errW_none, errW_some] <;> rfl) | (simp [*, errW_none, errW_some] <;> rfl), by repeat (first | (with_reducible first | exact HB.out | apply below_alloc | apply pw_below_drewN | apply below_drew1 | refine below_set ?_ GE113.out) | exact HB.out)⟩))
                    ·replace c47 := Bool.eq_false_iff.mpr c47
                     subst c47
                     have H1 : (if a0_0 = 6 then (exequaturref01_Fits.j7 kj39 a1 ((l0_4.length : Int) != (l0_3.length : Int)) a0_0 a0_1 a0_2 l0_3 l0_4) else (exequaturref01_Fits.j7 kj39 a1 false a0_0 a0_1 a0_2 l0_3 l0_4)) = some r := by rw [if_neg (show ¬ (false = true) by decide)] at H; exact H
                     clear H
                     have H := H1
                     clear H1
                     have HC48 := Aside0.mk H
                     clear H
                     go_upto_region 14 with (fail)
                     repeat (go_quiet (fail); go_upto_region 14 with (fail))
                     go_cut [92] (fun v92 wc => ∃ (kq : Nat) (x92_47 : Bool), v92 = .bool x92_47 ∧ Aside0 (exequaturref01_Fits.j7 kq a1 x92_47 a0_0 a0_1 a0_2 l0_3 l0_4 = some r) ∧ Aside0 (kq ≤ kj39) ∧ Aside0 (wc.heap[gb113]? = some (.cells #[.int .i64 a0_0, .int .i64 a0_1, .string a0_2, (.slice A0_3 l0_3.length c0_3), (.slice A0_4 l0_4.length c0_4)] 25 (0, 0))) ∧ Aside0 (Below w.heap.size w wc))
                     case first =>
                      have H := HC48.out
                      clear HC48
                      by_cases c49 : a0_0 = 6
                      ·rw [if_pos c49] at H
                       have c49b0 : (a0_0 == 6) = true := beq_iff_eq.mpr c49
                       have c49b1 : (a0_0 != 6) = false := bne_eq_false_iff_eq.mpr c49
                       clear c49
                       (first | rw [c49b0] | (simp only [i64_w, i32_w]; rw [c49b0]) | skip)
                       have H' := Aside0.mk H
                       clear H
                       obtain ⟨hcz50_0, hcz50_1, hcz50_2, hcz50_3, hcz50_4⟩ := cells5 BK113.out
                       obtain ⟨hfz50_0, hfz50_1, hfz50_2, hfz50_3, hfz50_4⟩ := froz5 BK113.out
                       go_wp2
                       repeat (go_quiet (fail); try go_wp2)
                       go_meet
                       case rel => exact ⟨_, (((l0_4.length : Int) != (l0_3.length : Int))), (by first | rfl | (simp; done) | (simp [*]; done) | (refine congrArg Value.bool ?_; rw [Bool.eq_iff_iff]; simp; done)), H', ⟨by have := HJ2.out; have := HJ9.out; have := HJ14.out; have := HJ21.out; have := HJ28.out; have := HJ35.out; have := HJ39.out; first | omega | exact Nat.le_refl _⟩, ⟨by (with_reducible repeat (first | refine blk_drewN ?_ _ | refine blk_drew ?_ | refine blk_alloc ?_ _)); exact BK113.out⟩, ⟨by repeat (first | (with_reducible first | exact HB.out | apply below_alloc | apply pw_below_drewN | apply below_drew1 | refine below_set ?_ GE113.out) | exact HB.out)⟩⟩
                      ·rw [if_neg c49] at H
                       have c49b0 : (a0_0 == 6) = false := beq_eq_false_iff_ne.mpr c49
                       have c49b1 : (a0_0 != 6) = true := bne_iff_ne.mpr c49
                       (first | rw [c49b0] | (simp only [i64_w, i32_w]; rw [c49b0]) | skip)
                       have H' := Aside0.mk H
                       clear H
                       obtain ⟨hcz51_0, hcz51_1, hcz51_2, hcz51_3, hcz51_4⟩ := cells5 BK113.out
                       obtain ⟨hfz51_0, hfz51_1, hfz51_2, hfz51_3, hfz51_4⟩ := froz5 BK113.out
                       go_wp2
                       repeat (go_quiet (fail); try go_wp2)
                       go_meet
                       case rel => exact ⟨_, (false), (by first | rfl | (simp; done) | (simp [*]; done) | (refine congrArg Value.bool ?_; rw [Bool.eq_iff_iff]; simp; done)), H', ⟨by have := HJ2.out; have := HJ9.out; have := HJ14.out; have := HJ21.out; have := HJ28.out; have := HJ35.out; have := HJ39.out; first | omega | exact Nat.le_refl _⟩, ⟨by (with_reducible repeat (first | refine blk_drewN ?_ _ | refine blk_drew ?_ | refine blk_alloc ?_ _)); exact BK113.out⟩, ⟨by repeat (first | (with_reducible first | exact HB.out | apply below_alloc | apply pw_below_drewN | apply below_drew1 | refine below_set ?_ GE113.out) | exact HB.out)⟩⟩
                     case rest =>
                      clear HC48; try clear c1; try clear c2; try clear p2; try clear c3; try clear c4; try clear c5; try clear c5b0; try clear c6; try clear c6b0; try clear c9; try clear c11; try clear c11b0; try clear c11b1; try clear c16; try clear c16b0; try clear c16b1; try clear c17; try clear c17b0; try clear c17b1; try clear c19; try clear c21; try clear c23; try clear c23b0; try clear c23b1; try clear c24; try clear c24b0; try clear c28; try clear c30; try clear c30b0; try clear c30b1; try clear c32; try clear c32b0; try clear c32b1; try clear c35; try clear c37; try clear c37b0; try clear c37b1; try clear c41; try clear c42; try clear c44; try clear c44b0; try clear c44b1; try clear c47; try clear c49; try clear c49b0; try clear c49b1; try clear hcz12_0; try clear hcz12_1; try clear hcz12_2; try clear hcz12_3; try clear hcz12_4; try clear hcz13_0; try clear hcz13_1; try clear hcz13_2; try clear hcz13_3; try clear hcz13_4; try clear hcz18_0; try clear hcz18_1; try clear hcz18_2; try clear hcz18_3; try clear hcz18_4; try clear hcz19_0; try clear hcz19_1; try clear hcz19_2; try clear hcz19_3; try clear hcz19_4; try clear hcz20_0; try clear hcz20_1; try clear hcz20_2; try clear hcz20_3; try clear hcz20_4; try clear hcz25_0; try clear hcz25_1; try clear hcz25_2; try clear hcz25_3; try clear hcz25_4; try clear hcz26_0; try clear hcz26_1; try clear hcz26_2; try clear hcz26_3; try clear hcz26_4; try clear hcz27_0; try clear hcz27_1; try clear hcz27_2; try clear hcz27_3; try clear hcz27_4; try clear hcz31_0; try clear hcz31_1; try clear hcz31_2; try clear hcz31_3; try clear hcz31_4; try clear hcz33_0; try clear hcz33_1; try clear hcz33_2; try clear hcz33_3; try clear hcz33_4; try clear hcz34_0; try clear hcz34_1; try clear hcz34_2; try clear hcz34_3; try clear hcz34_4; try clear hcz38_0; try clear hcz38_1; try clear hcz38_2; try clear hcz38_3; try clear hcz38_4; try clear hcz39_0; try clear hcz39_1; try clear hcz39_2; try clear hcz39_3; try clear hcz39_4; try clear hcz43_0; try clear hcz43_1; try clear hcz43_2; try clear hcz43_3; try clear hcz43_4; try clear hcz45_0; try clear hcz45_1; try clear hcz45_2; try clear hcz45_3; try clear hcz45_4; try clear hcz46_0; try clear hcz46_1; try clear hcz46_2; try clear hcz46_3; try clear hcz46_4; try clear hcz50_0; try clear hcz50_1; try clear hcz50_2; try clear hcz50_3; try clear hcz50_4; try clear hcz51_0; try clear hcz51_1; try clear hcz51_2; try clear hcz51_3; try clear hcz51_4; try clear hcz7_0; try clear hcz7_1; try clear hcz7_2; try clear hcz7_3; try clear hcz7_4; try clear hcz8_0; try clear hcz8_1; try clear hcz8_2; try clear hcz8_3; try clear hcz8_4; try clear hfz12_0; try clear hfz12_1; try clear hfz12_2; try clear hfz12_3; try clear hfz12_4; try clear hfz13_0; try clear hfz13_1; try clear hfz13_2; try clear hfz13_3; try clear hfz13_4; try clear hfz18_0; try clear hfz18_1; try clear hfz18_2; try clear hfz18_3; try clear hfz18_4; try clear hfz19_0; try clear hfz19_1; try clear hfz19_2; try clear hfz19_3; try clear hfz19_4; try clear hfz20_0; try clear hfz20_1; try clear hfz20_2; try clear hfz20_3; try clear hfz20_4; try clear hfz25_0; try clear hfz25_1; try clear hfz25_2; try clear hfz25_3; try clear hfz25_4; try clear hfz26_0; try clear hfz26_1; try clear hfz26_2; try clear hfz26_3; try clear hfz26_4; try clear hfz27_0; try clear hfz27_1; try clear hfz27_2; try clear hfz27_3; try clear hfz27_4; try clear hfz31_0; try clear hfz31_1; try clear hfz31_2; try clear hfz31_3; try clear hfz31_4; try clear hfz33_0; try clear hfz33_1; try clear hfz33_2; try clear hfz33_3; try clear hfz33_4; try clear hfz34_0; try clear hfz34_1; try clear hfz34_2; try clear hfz34_3; try clear hfz34_4; try clear hfz38_0; try clear hfz38_1; try clear hfz38_2; try clear hfz38_3; try clear hfz38_4; try clear hfz39_0; try clear hfz39_1; try clear hfz39_2; try clear hfz39_3; try clear hfz39_4; try clear hfz43_0; try clear hfz43_1; try clear hfz43_2; try clear hfz43_3; try clear hfz43_4; try clear hfz45_0; try clear hfz45_1; try clear hfz45_2; try clear hfz45_3; try clear hfz45_4; try clear hfz46_0; try clear hfz46_1; try clear hfz46_2; try clear hfz46_3; try clear hfz46_4; try clear hfz50_0; try clear hfz50_1; try clear hfz50_2; try clear hfz50_3; try clear hfz50_4; try clear hfz51_0; try clear hfz51_1; try clear hfz51_2; try clear hfz51_3; try clear hfz51_4; try clear hfz7_0; try clear hfz7_1; try clear hfz7_2; try clear hfz7_3; try clear hfz7_4; try clear hfz8_0; try clear hfz8_1; try clear hfz8_2; try clear hfz8_3; try clear hfz8_4; try clear p2
                      obtain ⟨kq, x92_47, rfl, HA, HJ47, BK113, HB⟩ := hcut
                      cases kq with
                      | zero => exact absurd HA.out (by simp [exequaturref01_Fits.j7])
                      | succ kj47 =>
                       have H := HA.out
                       clear HA
                       simp only [exequaturref01_Fits.j7] at H
                       by_cases c52 : x92_47 = true
                       ·subst c52
                        have H1 : (some false) = some r := by rw [if_pos rfl] at H; exact H
                        clear H
                        have H := H1
                        clear H1
                        obtain rfl := Option.some.inj H
                        go_wp2
                        repeat (go_quiet (fail); try go_wp2)
                        go_ret
                        first | (exact ⟨by first | rfl | (simp [errW_none, errW_some] <;> rfl) | (simp [*, errW_none, errW_some] <;> rfl), by repeat (first | (with_reducible first | exact HB.out | apply below_alloc | apply pw_below_drewN | apply below_drew1 | refine below_set ?_ GE113.out) | exact HB.out)⟩) | (focus (exfalso; simp_all; done))
                        all_goals (first | (exfalso; simp_all <;> omega) | (go_ret; exact ⟨by first | rfl | (simp [errW_none, errW_some] <;> rfl) | (simp [*, errW_none, errW_some] <;> rfl), by repeat (first | (with_reducible first | exact HB.out | apply below_alloc | apply pw_below_drewN | apply below_drew1 | refine below_set ?_ GE113.out) | exact HB.out)⟩))
                       ·replace c52 := Bool.eq_false_iff.mpr c52
                        subst c52
                        have H1 : (if a0_0 = 6 then (exequaturref01_Fits.j8 kj47 a1 a0_0 a0_1 a0_2 l0_3 l0_4) else (if (l0_4.length : Int) > 0 then (some false) else (exequaturref01_Fits.j8 kj47 a1 a0_0 a0_1 a0_2 l0_3 l0_4))) = some r := by rw [if_neg (show ¬ (false = true) by decide)] at H; exact H
                        clear H
                        have H := H1
                        clear H1
                        by_cases c53 : a0_0 = 6
                        ·rw [if_pos c53] at H
                         have c53b0 : (a0_0 == 6) = true := beq_iff_eq.mpr c53
                         have c53b1 : (a0_0 != 6) = false := bne_eq_false_iff_eq.mpr c53
                         clear c53
                         have H' := Aside0.mk H
                         clear H
                         obtain ⟨hcz54_0, hcz54_1, hcz54_2, hcz54_3, hcz54_4⟩ := cells5 BK113.out
                         obtain ⟨hfz54_0, hfz54_1, hfz54_2, hfz54_3, hfz54_4⟩ := froz5 BK113.out
                         go_wp2
                         repeat (go_quiet (fail); try go_wp2)
                         go_meet
                         case rel => exact ⟨_, H', ⟨by have := HJ2.out; have := HJ9.out; have := HJ14.out; have := HJ21.out; have := HJ28.out; have := HJ35.out; have := HJ39.out; have := HJ47.out; first | omega | exact Nat.le_refl _⟩, ⟨by (with_reducible repeat (first | refine blk_drewN ?_ _ | refine blk_drew ?_ | refine blk_alloc ?_ _)); exact BK113.out⟩, ⟨by repeat (first | (with_reducible first | exact HB.out | apply below_alloc | apply pw_below_drewN | apply below_drew1 | refine below_set ?_ GE113.out) | exact HB.out)⟩⟩
                        ·rw [if_neg c53] at H
                         have c53b0 : (a0_0 == 6) = false := beq_eq_false_iff_ne.mpr c53
                         have c53b1 : (a0_0 != 6) = true := bne_iff_ne.mpr c53
                         by_cases c55 : (l0_4.length : Int) > 0
                         ·rw [if_pos c55] at H
                          have c55b0 : decide (0 < (l0_4.length : Int)) = true := decide_eq_true c55
                          have c55b1 : decide (0 < l0_4.length) = true := decide_eq_true (by omega)
                          clear c55
                          obtain rfl := Option.some.inj H
                          obtain ⟨hcz56_0, hcz56_1, hcz56_2, hcz56_3, hcz56_4⟩ := cells5 BK113.out
                          obtain ⟨hfz56_0, hfz56_1, hfz56_2, hfz56_3, hfz56_4⟩ := froz5 BK113.out
                          go_wp2
                          repeat (go_quiet (fail); try go_wp2)
                          go_ret
                          first | (exact ⟨by first | rfl | (simp [errW_none, errW_some] <;> rfl) | (simp [*, errW_none, errW_some] <;> rfl), by repeat (first | (with_reducible first | exact HB.out | apply below_alloc | apply pw_below_drewN | apply below_drew1 | refine below_set ?_ GE113.out) | exact HB.out)⟩) | (focus (exfalso; simp_all; done))
                          all_goals (first | (exfalso; simp_all <;> omega) | (go_ret; exact ⟨by first | rfl | (simp [errW_none, errW_some] <;> rfl) | (simp [*, errW_none, errW_some] <;> rfl), by repeat (first | (with_reducible first | exact HB.out | apply below_alloc | apply pw_below_drewN | apply below_drew1 | refine below_set ?_ GE113.out) | exact HB.out)⟩))
                         ·rw [if_neg c55] at H
                          have c55b0 : decide (0 < (l0_4.length : Int)) = false := decide_eq_false c55
                          have c55b1 : decide (0 < l0_4.length) = false := decide_eq_false (by omega)
                          clear c55
                          have H' := Aside0.mk H
                          clear H
                          obtain ⟨hcz57_0, hcz57_1, hcz57_2, hcz57_3, hcz57_4⟩ := cells5 BK113.out
                          obtain ⟨hfz57_0, hfz57_1, hfz57_2, hfz57_3, hfz57_4⟩ := froz5 BK113.out
                          go_wp2
                          repeat (go_quiet (fail); try go_wp2)
                          go_meet
                          case rel => exact ⟨_, H', ⟨by have := HJ2.out; have := HJ9.out; have := HJ14.out; have := HJ21.out; have := HJ28.out; have := HJ35.out; have := HJ39.out; have := HJ47.out; first | omega | exact Nat.le_refl _⟩, ⟨by (with_reducible repeat (first | refine blk_drewN ?_ _ | refine blk_drew ?_ | refine blk_alloc ?_ _)); exact BK113.out⟩, ⟨by repeat (first | (with_reducible first | exact HB.out | apply below_alloc | apply pw_below_drewN | apply below_drew1 | refine below_set ?_ GE113.out) | exact HB.out)⟩⟩
      case rest => as_aux_lemma =>
       clear HC14; try clear c1; try clear c2; try clear p2; try clear c3; try clear c4; try clear c5; try clear c5b0; try clear c6; try clear c6b0; try clear c9; try clear c11; try clear c11b0; try clear c11b1; try clear c16; try clear c16b0; try clear c16b1; try clear c17; try clear c17b0; try clear c17b1; try clear c19; try clear c21; try clear c23; try clear c23b0; try clear c23b1; try clear c24; try clear c24b0; try clear c28; try clear c30; try clear c30b0; try clear c30b1; try clear c32; try clear c32b0; try clear c32b1; try clear c35; try clear c37; try clear c37b0; try clear c37b1; try clear c41; try clear c42; try clear c44; try clear c44b0; try clear c44b1; try clear c47; try clear c49; try clear c49b0; try clear c49b1; try clear c52; try clear c53; try clear c53b0; try clear c53b1; try clear c55; try clear c55b0; try clear c55b1; try clear hcz12_0; try clear hcz12_1; try clear hcz12_2; try clear hcz12_3; try clear hcz12_4; try clear hcz13_0; try clear hcz13_1; try clear hcz13_2; try clear hcz13_3; try clear hcz13_4; try clear hcz18_0; try clear hcz18_1; try clear hcz18_2; try clear hcz18_3; try clear hcz18_4; try clear hcz19_0; try clear hcz19_1; try clear hcz19_2; try clear hcz19_3; try clear hcz19_4; try clear hcz20_0; try clear hcz20_1; try clear hcz20_2; try clear hcz20_3; try clear hcz20_4; try clear hcz25_0; try clear hcz25_1; try clear hcz25_2; try clear hcz25_3; try clear hcz25_4; try clear hcz26_0; try clear hcz26_1; try clear hcz26_2; try clear hcz26_3; try clear hcz26_4; try clear hcz27_0; try clear hcz27_1; try clear hcz27_2; try clear hcz27_3; try clear hcz27_4; try clear hcz31_0; try clear hcz31_1; try clear hcz31_2; try clear hcz31_3; try clear hcz31_4; try clear hcz33_0; try clear hcz33_1; try clear hcz33_2; try clear hcz33_3; try clear hcz33_4; try clear hcz34_0; try clear hcz34_1; try clear hcz34_2; try clear hcz34_3; try clear hcz34_4; try clear hcz38_0; try clear hcz38_1; try clear hcz38_2; try clear hcz38_3; try clear hcz38_4; try clear hcz39_0; try clear hcz39_1; try clear hcz39_2; try clear hcz39_3; try clear hcz39_4; try clear hcz43_0; try clear hcz43_1; try clear hcz43_2; try clear hcz43_3; try clear hcz43_4; try clear hcz45_0; try clear hcz45_1; try clear hcz45_2; try clear hcz45_3; try clear hcz45_4; try clear hcz46_0; try clear hcz46_1; try clear hcz46_2; try clear hcz46_3; try clear hcz46_4; try clear hcz50_0; try clear hcz50_1; try clear hcz50_2; try clear hcz50_3; try clear hcz50_4; try clear hcz51_0; try clear hcz51_1; try clear hcz51_2; try clear hcz51_3; try clear hcz51_4; try clear hcz54_0; try clear hcz54_1; try clear hcz54_2; try clear hcz54_3; try clear hcz54_4; try clear hcz56_0; try clear hcz56_1; try clear hcz56_2; try clear hcz56_3; try clear hcz56_4; try clear hcz57_0; try clear hcz57_1; try clear hcz57_2; try clear hcz57_3; try clear hcz57_4; try clear hcz7_0; try clear hcz7_1; try clear hcz7_2; try clear hcz7_3; try clear hcz7_4; try clear hcz8_0; try clear hcz8_1; try clear hcz8_2; try clear hcz8_3; try clear hcz8_4; try clear hfz12_0; try clear hfz12_1; try clear hfz12_2; try clear hfz12_3; try clear hfz12_4; try clear hfz13_0; try clear hfz13_1; try clear hfz13_2; try clear hfz13_3; try clear hfz13_4; try clear hfz18_0; try clear hfz18_1; try clear hfz18_2; try clear hfz18_3; try clear hfz18_4; try clear hfz19_0; try clear hfz19_1; try clear hfz19_2; try clear hfz19_3; try clear hfz19_4; try clear hfz20_0; try clear hfz20_1; try clear hfz20_2; try clear hfz20_3; try clear hfz20_4; try clear hfz25_0; try clear hfz25_1; try clear hfz25_2; try clear hfz25_3; try clear hfz25_4; try clear hfz26_0; try clear hfz26_1; try clear hfz26_2; try clear hfz26_3; try clear hfz26_4; try clear hfz27_0; try clear hfz27_1; try clear hfz27_2; try clear hfz27_3; try clear hfz27_4; try clear hfz31_0; try clear hfz31_1; try clear hfz31_2; try clear hfz31_3; try clear hfz31_4; try clear hfz33_0; try clear hfz33_1; try clear hfz33_2; try clear hfz33_3; try clear hfz33_4; try clear hfz34_0; try clear hfz34_1; try clear hfz34_2; try clear hfz34_3; try clear hfz34_4; try clear hfz38_0; try clear hfz38_1; try clear hfz38_2; try clear hfz38_3; try clear hfz38_4; try clear hfz39_0; try clear hfz39_1; try clear hfz39_2; try clear hfz39_3; try clear hfz39_4; try clear hfz43_0; try clear hfz43_1; try clear hfz43_2; try clear hfz43_3; try clear hfz43_4; try clear hfz45_0; try clear hfz45_1; try clear hfz45_2; try clear hfz45_3; try clear hfz45_4; try clear hfz46_0; try clear hfz46_1; try clear hfz46_2; try clear hfz46_3; try clear hfz46_4; try clear hfz50_0; try clear hfz50_1; try clear hfz50_2; try clear hfz50_3; try clear hfz50_4; try clear hfz51_0; try clear hfz51_1; try clear hfz51_2; try clear hfz51_3; try clear hfz51_4; try clear hfz54_0; try clear hfz54_1; try clear hfz54_2; try clear hfz54_3; try clear hfz54_4; try clear hfz56_0; try clear hfz56_1; try clear hfz56_2; try clear hfz56_3; try clear hfz56_4; try clear hfz57_0; try clear hfz57_1; try clear hfz57_2; try clear hfz57_3; try clear hfz57_4; try clear hfz7_0; try clear hfz7_1; try clear hfz7_2; try clear hfz7_3; try clear hfz7_4; try clear hfz8_0; try clear hfz8_1; try clear hfz8_2; try clear hfz8_3; try clear hfz8_4; try clear p2
       obtain ⟨kq, HA, HJ13, BK113, HB⟩ := hcut
       cases kq with
       | zero => exact absurd HA.out (by simp [exequaturref01_Fits.j8])
       | succ kj13 =>
        have H := HA.out
        clear HA
        simp only [exequaturref01_Fits.j8] at H
        have H' := Aside0.mk H
        clear H
        go_wp2
        repeat (go_quiet (fail); try go_wp2)
        go_loopg [6] kj13 (fun kq v6 w' => ∃ (x6_4 : Int), v6 = .int .i64 x6_4 ∧ Aside0 (exequaturref01_Fits.l0 kq a1 x6_4 a0_0 a0_1 a0_2 l0_3 l0_4 = some r) ∧ Aside0 (kq ≤ kj13) ∧ Aside0 (w'.heap[gb113]? = some (.cells #[.int .i64 a0_0, .int .i64 a0_1, .string a0_2, (.slice A0_3 l0_3.length c0_3), (.slice A0_4 l0_4.length c0_4)] 25 (0, 0))) ∧ Aside0 (Below w.heap.size w w'))
        case atStart => exact ⟨(0), (by first | rfl | (simp; done) | (simp [*]; done) | (refine congrArg Value.bool ?_; rw [Bool.eq_iff_iff]; simp; done)), H', ⟨Nat.le_refl _⟩, ⟨by (with_reducible repeat (first | refine blk_drewN ?_ _ | refine blk_drew ?_ | refine blk_alloc ?_ _)); exact BK113.out⟩, ⟨by repeat (first | (with_reducible first | exact HB.out | apply below_alloc | apply pw_below_drewN | apply below_drew1 | refine below_set ?_ GE113.out) | exact HB.out)⟩⟩
        case round =>
         clear H'
         try clear c1; try clear c2; try clear p2; try clear c3; try clear c4; try clear c5; try clear c5b0; try clear c6; try clear c6b0; try clear c9; try clear c11; try clear c11b0; try clear c11b1; try clear c16; try clear c16b0; try clear c16b1; try clear c17; try clear c17b0; try clear c17b1; try clear c19; try clear c21; try clear c23; try clear c23b0; try clear c23b1; try clear c24; try clear c24b0; try clear c28; try clear c30; try clear c30b0; try clear c30b1; try clear c32; try clear c32b0; try clear c32b1; try clear c35; try clear c37; try clear c37b0; try clear c37b1; try clear c41; try clear c42; try clear c44; try clear c44b0; try clear c44b1; try clear c47; try clear c49; try clear c49b0; try clear c49b1; try clear c52; try clear c53; try clear c53b0; try clear c53b1; try clear c55; try clear c55b0; try clear c55b1; try clear hcz12_0; try clear hcz12_1; try clear hcz12_2; try clear hcz12_3; try clear hcz12_4; try clear hcz13_0; try clear hcz13_1; try clear hcz13_2; try clear hcz13_3; try clear hcz13_4; try clear hcz18_0; try clear hcz18_1; try clear hcz18_2; try clear hcz18_3; try clear hcz18_4; try clear hcz19_0; try clear hcz19_1; try clear hcz19_2; try clear hcz19_3; try clear hcz19_4; try clear hcz20_0; try clear hcz20_1; try clear hcz20_2; try clear hcz20_3; try clear hcz20_4; try clear hcz25_0; try clear hcz25_1; try clear hcz25_2; try clear hcz25_3; try clear hcz25_4; try clear hcz26_0; try clear hcz26_1; try clear hcz26_2; try clear hcz26_3; try clear hcz26_4; try clear hcz27_0; try clear hcz27_1; try clear hcz27_2; try clear hcz27_3; try clear hcz27_4; try clear hcz31_0; try clear hcz31_1; try clear hcz31_2; try clear hcz31_3; try clear hcz31_4; try clear hcz33_0; try clear hcz33_1; try clear hcz33_2; try clear hcz33_3; try clear hcz33_4; try clear hcz34_0; try clear hcz34_1; try clear hcz34_2; try clear hcz34_3; try clear hcz34_4; try clear hcz38_0; try clear hcz38_1; try clear hcz38_2; try clear hcz38_3; try clear hcz38_4; try clear hcz39_0; try clear hcz39_1; try clear hcz39_2; try clear hcz39_3; try clear hcz39_4; try clear hcz43_0; try clear hcz43_1; try clear hcz43_2; try clear hcz43_3; try clear hcz43_4; try clear hcz45_0; try clear hcz45_1; try clear hcz45_2; try clear hcz45_3; try clear hcz45_4; try clear hcz46_0; try clear hcz46_1; try clear hcz46_2; try clear hcz46_3; try clear hcz46_4; try clear hcz50_0; try clear hcz50_1; try clear hcz50_2; try clear hcz50_3; try clear hcz50_4; try clear hcz51_0; try clear hcz51_1; try clear hcz51_2; try clear hcz51_3; try clear hcz51_4; try clear hcz54_0; try clear hcz54_1; try clear hcz54_2; try clear hcz54_3; try clear hcz54_4; try clear hcz56_0; try clear hcz56_1; try clear hcz56_2; try clear hcz56_3; try clear hcz56_4; try clear hcz57_0; try clear hcz57_1; try clear hcz57_2; try clear hcz57_3; try clear hcz57_4; try clear hcz7_0; try clear hcz7_1; try clear hcz7_2; try clear hcz7_3; try clear hcz7_4; try clear hcz8_0; try clear hcz8_1; try clear hcz8_2; try clear hcz8_3; try clear hcz8_4; try clear hfz12_0; try clear hfz12_1; try clear hfz12_2; try clear hfz12_3; try clear hfz12_4; try clear hfz13_0; try clear hfz13_1; try clear hfz13_2; try clear hfz13_3; try clear hfz13_4; try clear hfz18_0; try clear hfz18_1; try clear hfz18_2; try clear hfz18_3; try clear hfz18_4; try clear hfz19_0; try clear hfz19_1; try clear hfz19_2; try clear hfz19_3; try clear hfz19_4; try clear hfz20_0; try clear hfz20_1; try clear hfz20_2; try clear hfz20_3; try clear hfz20_4; try clear hfz25_0; try clear hfz25_1; try clear hfz25_2; try clear hfz25_3; try clear hfz25_4; try clear hfz26_0; try clear hfz26_1; try clear hfz26_2; try clear hfz26_3; try clear hfz26_4; try clear hfz27_0; try clear hfz27_1; try clear hfz27_2; try clear hfz27_3; try clear hfz27_4; try clear hfz31_0; try clear hfz31_1; try clear hfz31_2; try clear hfz31_3; try clear hfz31_4; try clear hfz33_0; try clear hfz33_1; try clear hfz33_2; try clear hfz33_3; try clear hfz33_4; try clear hfz34_0; try clear hfz34_1; try clear hfz34_2; try clear hfz34_3; try clear hfz34_4; try clear hfz38_0; try clear hfz38_1; try clear hfz38_2; try clear hfz38_3; try clear hfz38_4; try clear hfz39_0; try clear hfz39_1; try clear hfz39_2; try clear hfz39_3; try clear hfz39_4; try clear hfz43_0; try clear hfz43_1; try clear hfz43_2; try clear hfz43_3; try clear hfz43_4; try clear hfz45_0; try clear hfz45_1; try clear hfz45_2; try clear hfz45_3; try clear hfz45_4; try clear hfz46_0; try clear hfz46_1; try clear hfz46_2; try clear hfz46_3; try clear hfz46_4; try clear hfz50_0; try clear hfz50_1; try clear hfz50_2; try clear hfz50_3; try clear hfz50_4; try clear hfz51_0; try clear hfz51_1; try clear hfz51_2; try clear hfz51_3; try clear hfz51_4; try clear hfz54_0; try clear hfz54_1; try clear hfz54_2; try clear hfz54_3; try clear hfz54_4; try clear hfz56_0; try clear hfz56_1; try clear hfz56_2; try clear hfz56_3; try clear hfz56_4; try clear hfz57_0; try clear hfz57_1; try clear hfz57_2; try clear hfz57_3; try clear hfz57_4; try clear hfz7_0; try clear hfz7_1; try clear hfz7_2; try clear hfz7_3; try clear hfz7_4; try clear hfz8_0; try clear hfz8_1; try clear hfz8_2; try clear hfz8_3; try clear hfz8_4; try clear p2
         obtain ⟨x6_4, rfl, HA, HK4, BK113, HB⟩ := hrel
         cases gk with
         | zero => exact absurd HA.out (by simp [exequaturref01_Fits.l0])
         | succ k4 =>
          have H := HA.out
          clear HA
          simp only [exequaturref01_Fits.l0] at H
          by_cases c58 : x6_4 < (l0_4.length : Int)
          ·rw [if_pos c58] at H
           have c58b0 : decide (x6_4 < (l0_4.length : Int)) = true := decide_eq_true c58
           clear c58
           have H' := Aside0.mk H
           clear H
           obtain ⟨hcz59_0, hcz59_1, hcz59_2, hcz59_3, hcz59_4⟩ := cells5 BK113.out
           obtain ⟨hfz59_0, hfz59_1, hfz59_2, hfz59_3, hfz59_4⟩ := froz5 BK113.out
           go_wp2
           repeat (go_quiet (fail); try go_wp2)
           go_loopg [7] k4 (fun kq v7 w' => ∃ (x7_5 : Int), v7 = .int .i64 x7_5 ∧ Aside0 (exequaturref01_Fits.l1 kq a1 x6_4 x7_5 a0_0 a0_1 a0_2 l0_3 l0_4 = some r) ∧ Aside0 (kq ≤ k4) ∧ Aside0 (w'.heap[gb113]? = some (.cells #[.int .i64 a0_0, .int .i64 a0_1, .string a0_2, (.slice A0_3 l0_3.length c0_3), (.slice A0_4 l0_4.length c0_4)] 25 (0, 0))) ∧ Aside0 (Below w.heap.size w w'))
           case atStart => exact ⟨(0), (by first | rfl | (simp; done) | (simp [*]; done) | (refine congrArg Value.bool ?_; rw [Bool.eq_iff_iff]; simp; done)), H', ⟨Nat.le_refl _⟩, ⟨by (with_reducible repeat (first | refine blk_drewN ?_ _ | refine blk_drew ?_ | refine blk_alloc ?_ _)); exact BK113.out⟩, ⟨by repeat (first | (with_reducible first | exact HB.out | apply below_alloc | apply pw_below_drewN | apply below_drew1 | refine below_set ?_ GE113.out) | exact HB.out)⟩⟩
           case round =>
            clear H'
            try clear c1; try clear c2; try clear p2; try clear c3; try clear c4; try clear c5; try clear c5b0; try clear c6; try clear c6b0; try clear c9; try clear c11; try clear c11b0; try clear c11b1; try clear c16; try clear c16b0; try clear c16b1; try clear c17; try clear c17b0; try clear c17b1; try clear c19; try clear c21; try clear c23; try clear c23b0; try clear c23b1; try clear c24; try clear c24b0; try clear c28; try clear c30; try clear c30b0; try clear c30b1; try clear c32; try clear c32b0; try clear c32b1; try clear c35; try clear c37; try clear c37b0; try clear c37b1; try clear c41; try clear c42; try clear c44; try clear c44b0; try clear c44b1; try clear c47; try clear c49; try clear c49b0; try clear c49b1; try clear c52; try clear c53; try clear c53b0; try clear c53b1; try clear c55; try clear c55b0; try clear c55b1; try clear c58; try clear c58b0; try clear hcz12_0; try clear hcz12_1; try clear hcz12_2; try clear hcz12_3; try clear hcz12_4; try clear hcz13_0; try clear hcz13_1; try clear hcz13_2; try clear hcz13_3; try clear hcz13_4; try clear hcz18_0; try clear hcz18_1; try clear hcz18_2; try clear hcz18_3; try clear hcz18_4; try clear hcz19_0; try clear hcz19_1; try clear hcz19_2; try clear hcz19_3; try clear hcz19_4; try clear hcz20_0; try clear hcz20_1; try clear hcz20_2; try clear hcz20_3; try clear hcz20_4; try clear hcz25_0; try clear hcz25_1; try clear hcz25_2; try clear hcz25_3; try clear hcz25_4; try clear hcz26_0; try clear hcz26_1; try clear hcz26_2; try clear hcz26_3; try clear hcz26_4; try clear hcz27_0; try clear hcz27_1; try clear hcz27_2; try clear hcz27_3; try clear hcz27_4; try clear hcz31_0; try clear hcz31_1; try clear hcz31_2; try clear hcz31_3; try clear hcz31_4; try clear hcz33_0; try clear hcz33_1; try clear hcz33_2; try clear hcz33_3; try clear hcz33_4; try clear hcz34_0; try clear hcz34_1; try clear hcz34_2; try clear hcz34_3; try clear hcz34_4; try clear hcz38_0; try clear hcz38_1; try clear hcz38_2; try clear hcz38_3; try clear hcz38_4; try clear hcz39_0; try clear hcz39_1; try clear hcz39_2; try clear hcz39_3; try clear hcz39_4; try clear hcz43_0; try clear hcz43_1; try clear hcz43_2; try clear hcz43_3; try clear hcz43_4; try clear hcz45_0; try clear hcz45_1; try clear hcz45_2; try clear hcz45_3; try clear hcz45_4; try clear hcz46_0; try clear hcz46_1; try clear hcz46_2; try clear hcz46_3; try clear hcz46_4; try clear hcz50_0; try clear hcz50_1; try clear hcz50_2; try clear hcz50_3; try clear hcz50_4; try clear hcz51_0; try clear hcz51_1; try clear hcz51_2; try clear hcz51_3; try clear hcz51_4; try clear hcz54_0; try clear hcz54_1; try clear hcz54_2; try clear hcz54_3; try clear hcz54_4; try clear hcz56_0; try clear hcz56_1; try clear hcz56_2; try clear hcz56_3; try clear hcz56_4; try clear hcz57_0; try clear hcz57_1; try clear hcz57_2; try clear hcz57_3; try clear hcz57_4; try clear hcz59_0; try clear hcz59_1; try clear hcz59_2; try clear hcz59_3; try clear hcz59_4; try clear hcz7_0; try clear hcz7_1; try clear hcz7_2; try clear hcz7_3; try clear hcz7_4; try clear hcz8_0; try clear hcz8_1; try clear hcz8_2; try clear hcz8_3; try clear hcz8_4; try clear hfz12_0; try clear hfz12_1; try clear hfz12_2; try clear hfz12_3; try clear hfz12_4; try clear hfz13_0; try clear hfz13_1; try clear hfz13_2; try clear hfz13_3; try clear hfz13_4; try clear hfz18_0; try clear hfz18_1; try clear hfz18_2; try clear hfz18_3; try clear hfz18_4; try clear hfz19_0; try clear hfz19_1; try clear hfz19_2; try clear hfz19_3; try clear hfz19_4; try clear hfz20_0; try clear hfz20_1; try clear hfz20_2; try clear hfz20_3; try clear hfz20_4; try clear hfz25_0; try clear hfz25_1; try clear hfz25_2; try clear hfz25_3; try clear hfz25_4; try clear hfz26_0; try clear hfz26_1; try clear hfz26_2; try clear hfz26_3; try clear hfz26_4; try clear hfz27_0; try clear hfz27_1; try clear hfz27_2; try clear hfz27_3; try clear hfz27_4; try clear hfz31_0; try clear hfz31_1; try clear hfz31_2; try clear hfz31_3; try clear hfz31_4; try clear hfz33_0; try clear hfz33_1; try clear hfz33_2; try clear hfz33_3; try clear hfz33_4; try clear hfz34_0; try clear hfz34_1; try clear hfz34_2; try clear hfz34_3; try clear hfz34_4; try clear hfz38_0; try clear hfz38_1; try clear hfz38_2; try clear hfz38_3; try clear hfz38_4; try clear hfz39_0; try clear hfz39_1; try clear hfz39_2; try clear hfz39_3; try clear hfz39_4; try clear hfz43_0; try clear hfz43_1; try clear hfz43_2; try clear hfz43_3; try clear hfz43_4; try clear hfz45_0; try clear hfz45_1; try clear hfz45_2; try clear hfz45_3; try clear hfz45_4; try clear hfz46_0; try clear hfz46_1; try clear hfz46_2; try clear hfz46_3; try clear hfz46_4; try clear hfz50_0; try clear hfz50_1; try clear hfz50_2; try clear hfz50_3; try clear hfz50_4; try clear hfz51_0; try clear hfz51_1; try clear hfz51_2; try clear hfz51_3; try clear hfz51_4; try clear hfz54_0; try clear hfz54_1; try clear hfz54_2; try clear hfz54_3; try clear hfz54_4; try clear hfz56_0; try clear hfz56_1; try clear hfz56_2; try clear hfz56_3; try clear hfz56_4; try clear hfz57_0; try clear hfz57_1; try clear hfz57_2; try clear hfz57_3; try clear hfz57_4; try clear hfz59_0; try clear hfz59_1; try clear hfz59_2; try clear hfz59_3; try clear hfz59_4; try clear hfz7_0; try clear hfz7_1; try clear hfz7_2; try clear hfz7_3; try clear hfz7_4; try clear hfz8_0; try clear hfz8_1; try clear hfz8_2; try clear hfz8_3; try clear hfz8_4; try clear p2
            obtain ⟨x7_5, rfl, HA, HK5, BK113, HB⟩ := hrel
            cases gk with
            | zero => exact absurd HA.out (by simp [exequaturref01_Fits.l1])
            | succ k5 =>
             have H := HA.out
             clear HA
             simp only [exequaturref01_Fits.l1] at H
             by_cases c60 : x7_5 < x6_4
             ·rw [if_pos c60] at H
              have c60b0 : decide (x7_5 < x6_4) = true := decide_eq_true c60
              clear c60
              by_cases c61 : 0 ≤ x6_4
              rotate_left
              ·rw [if_neg c61] at H; exact absurd H (by simp)
              rw [if_pos c61] at H
              have c61b0 : decide (0 ≤ x6_4) = true := decide_eq_true c61
              clear c61
              by_cases c62 : x6_4 < (l0_4.length : Int)
              rotate_left
              ·rw [if_neg c62] at H; exact absurd H (by simp)
              rw [if_pos c62] at H
              have c62b0 : decide (x6_4 < (l0_4.length : Int)) = true := decide_eq_true c62
              clear c62
              by_cases c63 : 0 ≤ x7_5
              rotate_left
              ·rw [if_neg c63] at H; exact absurd H (by simp)
              rw [if_pos c63] at H
              have c63b0 : decide (0 ≤ x7_5) = true := decide_eq_true c63
              clear c63
              by_cases c64 : x7_5 < (l0_4.length : Int)
              rotate_left
              ·rw [if_neg c64] at H; exact absurd H (by simp)
              rw [if_pos c64] at H
              have c64b0 : decide (x7_5 < (l0_4.length : Int)) = true := decide_eq_true c64
              clear c64
              by_cases c65 : (rdOf ByteArray.empty l0_4 x6_4).toList = (rdOf ByteArray.empty l0_4 x7_5).toList
              ·rw [if_pos c65] at H
               have c65b0 : ((rdOf ByteArray.empty l0_4 x6_4).toList == (rdOf ByteArray.empty l0_4 x7_5).toList) = true := beq_iff_eq.mpr c65
               have c65b1 : ((rdOf ByteArray.empty l0_4 x6_4).toList != (rdOf ByteArray.empty l0_4 x7_5).toList) = false := bne_eq_false_iff_eq.mpr c65
               clear c65
               obtain rfl := Option.some.inj H
               obtain ⟨hcz66_0, hcz66_1, hcz66_2, hcz66_3, hcz66_4⟩ := cells5 BK113.out
               obtain ⟨hfz66_0, hfz66_1, hfz66_2, hfz66_3, hfz66_4⟩ := froz5 BK113.out
               have p114 : 0 ≤ (x6_4 : Int) := of_decide_eq_true (by first | (with_reducible assumption) | assumption)
               have q114 : x6_4 < (l0_4.length : Int) := of_decide_eq_true (by first | (with_reducible assumption) | assumption)
               obtain ⟨ad114, e114, hx114_0⟩ := Kd.at_string HR0_4.out x6_4 p114 q114
               cases e114
               replace hx114_0 := (HB.out.cell (World.block_lt_of_cell? w _ hx114_0)).trans hx114_0
               replace p114 := eq_true p114
               replace q114 := eq_true q114
               have p115 : 0 ≤ (x7_5 : Int) := of_decide_eq_true (by first | (with_reducible assumption) | assumption)
               have q115 : x7_5 < (l0_4.length : Int) := of_decide_eq_true (by first | (with_reducible assumption) | assumption)
               obtain ⟨ad115, e115, hx115_0⟩ := Kd.at_string HR0_4.out x7_5 p115 q115
               obtain rfl : ad114 = ad115 := (by injection e115)
               replace hx115_0 := (HB.out.cell (World.block_lt_of_cell? w _ hx115_0)).trans hx115_0
               replace p115 := eq_true p115
               replace q115 := eq_true q115
               go_wp2
               repeat (go_quiet (fail); try go_wp2)
               go_ret
               first | (exact ⟨by first | rfl | (simp [errW_none, errW_some] <;> rfl) | (simp [*, errW_none, errW_some] <;> rfl), by repeat (first | (with_reducible first | exact HB.out | apply below_alloc | apply pw_below_drewN | apply below_drew1 | refine below_set ?_ GE113.out) | exact HB.out)⟩) | (focus (exfalso; simp_all; done))
               all_goals (first | (exfalso; simp_all <;> omega) | (go_ret; exact ⟨by first | rfl | (simp [errW_none, errW_some] <;> rfl) | (simp [*, errW_none, errW_some] <;> rfl), by repeat (first | (with_reducible first | exact HB.out | apply below_alloc | apply pw_below_drewN | apply below_drew1 | refine below_set ?_ GE113.out) | exact HB.out)⟩))
              ·rw [if_neg c65] at H
               have c65b0 : ((rdOf ByteArray.empty l0_4 x6_4).toList == (rdOf ByteArray.empty l0_4 x7_5).toList) = false := beq_eq_false_iff_ne.mpr c65
               have c65b1 : ((rdOf ByteArray.empty l0_4 x6_4).toList != (rdOf ByteArray.empty l0_4 x7_5).toList) = true := bne_iff_ne.mpr c65
               have H' := Aside0.mk H
               clear H
               obtain ⟨hcz67_0, hcz67_1, hcz67_2, hcz67_3, hcz67_4⟩ := cells5 BK113.out
               obtain ⟨hfz67_0, hfz67_1, hfz67_2, hfz67_3, hfz67_4⟩ := froz5 BK113.out
               have p114 : 0 ≤ (x6_4 : Int) := of_decide_eq_true (by first | (with_reducible assumption) | assumption)
               have q114 : x6_4 < (l0_4.length : Int) := of_decide_eq_true (by first | (with_reducible assumption) | assumption)
               obtain ⟨ad114, e114, hx114_0⟩ := Kd.at_string HR0_4.out x6_4 p114 q114
               cases e114
               replace hx114_0 := (HB.out.cell (World.block_lt_of_cell? w _ hx114_0)).trans hx114_0
               replace p114 := eq_true p114
               replace q114 := eq_true q114
               have p115 : 0 ≤ (x7_5 : Int) := of_decide_eq_true (by first | (with_reducible assumption) | assumption)
               have q115 : x7_5 < (l0_4.length : Int) := of_decide_eq_true (by first | (with_reducible assumption) | assumption)
               obtain ⟨ad115, e115, hx115_0⟩ := Kd.at_string HR0_4.out x7_5 p115 q115
               obtain rfl : ad114 = ad115 := (by injection e115)
               replace hx115_0 := (HB.out.cell (World.block_lt_of_cell? w _ hx115_0)).trans hx115_0
               replace p115 := eq_true p115
               replace q115 := eq_true q115
               go_wp2
               repeat (go_quiet (fail); try go_wp2)
               go_roundg k5
               case measure => have := HJ2.out; have := HJ9.out; have := HJ13.out; have := HK4.out; have := HK5.out; omega
               case rel => exact ⟨(wrap64 (x7_5 + 1)), (by first | rfl | (simp; done) | (simp [*]; done) | (refine congrArg Value.bool ?_; rw [Bool.eq_iff_iff]; simp; done)), H', ⟨by have := HJ2.out; have := HJ9.out; have := HJ13.out; have := HK4.out; have := HK5.out; omega⟩, ⟨by (with_reducible repeat (first | refine blk_drewN ?_ _ | refine blk_drew ?_ | refine blk_alloc ?_ _)); exact BK113.out⟩, ⟨by repeat (first | (with_reducible first | exact HB.out | apply below_alloc | apply pw_below_drewN | apply below_drew1 | refine below_set ?_ GE113.out) | exact HB.out)⟩⟩
             ·rw [if_neg c60] at H
              have c60b0 : decide (x7_5 < x6_4) = false := decide_eq_false c60
              clear c60
              have H' := Aside0.mk H
              clear H
              go_wp2
              repeat (go_quiet (fail); try go_wp2)
              go_roundg k5
              case measure => have := HJ2.out; have := HJ9.out; have := HJ13.out; have := HK4.out; have := HK5.out; omega
              case rel => exact ⟨(wrap64 (x6_4 + 1)), (by first | rfl | (simp; done) | (simp [*]; done) | (refine congrArg Value.bool ?_; rw [Bool.eq_iff_iff]; simp; done)), H', ⟨by have := HJ2.out; have := HJ9.out; have := HJ13.out; have := HK4.out; have := HK5.out; omega⟩, ⟨by (with_reducible repeat (first | refine blk_drewN ?_ _ | refine blk_drew ?_ | refine blk_alloc ?_ _)); exact BK113.out⟩, ⟨by repeat (first | (with_reducible first | exact HB.out | apply below_alloc | apply pw_below_drewN | apply below_drew1 | refine below_set ?_ GE113.out) | exact HB.out)⟩⟩
          ·rw [if_neg c58] at H
           have c58b0 : decide (x6_4 < (l0_4.length : Int)) = false := decide_eq_false c58
           clear c58
           have H' := Aside0.mk H
           clear H
           obtain ⟨hcz68_0, hcz68_1, hcz68_2, hcz68_3, hcz68_4⟩ := cells5 BK113.out
           obtain ⟨hfz68_0, hfz68_1, hfz68_2, hfz68_3, hfz68_4⟩ := froz5 BK113.out
           go_wp2
           repeat (go_quiet (fail); try go_wp2)
           go_loopg [8] k4 (fun kq v8 w' => ∃ (x8_5 : Int), v8 = .int .i64 x8_5 ∧ Aside0 (exequaturref01_Fits.l2 kq a1 x8_5 a0_0 a0_1 a0_2 l0_3 l0_4 = some r) ∧ Aside0 (kq ≤ k4) ∧ Aside0 (w'.heap[gb113]? = some (.cells #[.int .i64 a0_0, .int .i64 a0_1, .string a0_2, (.slice A0_3 l0_3.length c0_3), (.slice A0_4 l0_4.length c0_4)] 25 (0, 0))) ∧ Aside0 (Below w.heap.size w w'))
           case atStart => exact ⟨(0), (by first | rfl | (simp; done) | (simp [*]; done) | (refine congrArg Value.bool ?_; rw [Bool.eq_iff_iff]; simp; done)), H', ⟨Nat.le_refl _⟩, ⟨by (with_reducible repeat (first | refine blk_drewN ?_ _ | refine blk_drew ?_ | refine blk_alloc ?_ _)); exact BK113.out⟩, ⟨by repeat (first | (with_reducible first | exact HB.out | apply below_alloc | apply pw_below_drewN | apply below_drew1 | refine below_set ?_ GE113.out) | exact HB.out)⟩⟩
           case round =>
            clear H'
            try clear c1; try clear p1; try clear q1; try clear hx1; try clear c2; try clear p2; try clear c3; try clear c4; try clear c5; try clear c5b0; try clear c6; try clear c6b0; try clear p6; try clear c9; try clear c11; try clear c11b0; try clear c11b1; try clear p11; try clear q11; try clear hx11; try clear c16; try clear c16b0; try clear c16b1; try clear c17; try clear c17b0; try clear c17b1; try clear c19; try clear c21; try clear c23; try clear c23b0; try clear c23b1; try clear c24; try clear c24b0; try clear c28; try clear c30; try clear c30b0; try clear c30b1; try clear c32; try clear c32b0; try clear c32b1; try clear c35; try clear c37; try clear c37b0; try clear c37b1; try clear c41; try clear c42; try clear c44; try clear c44b0; try clear c44b1; try clear c47; try clear c49; try clear c49b0; try clear c49b1; try clear c52; try clear c53; try clear c53b0; try clear c53b1; try clear c55; try clear c55b0; try clear c55b1; try clear c58; try clear c58b0; try clear c60; try clear c60b0; try clear c61; try clear c61b0; try clear c62; try clear c62b0; try clear c63; try clear c63b0; try clear c64; try clear c64b0; try clear p64; try clear c65; try clear c65b0; try clear c65b1; try clear hcz12_0; try clear hcz12_1; try clear hcz12_2; try clear hcz12_3; try clear hcz12_4; try clear hcz13_0; try clear hcz13_1; try clear hcz13_2; try clear hcz13_3; try clear hcz13_4; try clear hcz18_0; try clear hcz18_1; try clear hcz18_2; try clear hcz18_3; try clear hcz18_4; try clear hcz19_0; try clear hcz19_1; try clear hcz19_2; try clear hcz19_3; try clear hcz19_4; try clear hcz20_0; try clear hcz20_1; try clear hcz20_2; try clear hcz20_3; try clear hcz20_4; try clear hcz25_0; try clear hcz25_1; try clear hcz25_2; try clear hcz25_3; try clear hcz25_4; try clear hcz26_0; try clear hcz26_1; try clear hcz26_2; try clear hcz26_3; try clear hcz26_4; try clear hcz27_0; try clear hcz27_1; try clear hcz27_2; try clear hcz27_3; try clear hcz27_4; try clear hcz31_0; try clear hcz31_1; try clear hcz31_2; try clear hcz31_3; try clear hcz31_4; try clear hcz33_0; try clear hcz33_1; try clear hcz33_2; try clear hcz33_3; try clear hcz33_4; try clear hcz34_0; try clear hcz34_1; try clear hcz34_2; try clear hcz34_3; try clear hcz34_4; try clear hcz38_0; try clear hcz38_1; try clear hcz38_2; try clear hcz38_3; try clear hcz38_4; try clear hcz39_0; try clear hcz39_1; try clear hcz39_2; try clear hcz39_3; try clear hcz39_4; try clear hcz43_0; try clear hcz43_1; try clear hcz43_2; try clear hcz43_3; try clear hcz43_4; try clear hcz45_0; try clear hcz45_1; try clear hcz45_2; try clear hcz45_3; try clear hcz45_4; try clear hcz46_0; try clear hcz46_1; try clear hcz46_2; try clear hcz46_3; try clear hcz46_4; try clear hcz50_0; try clear hcz50_1; try clear hcz50_2; try clear hcz50_3; try clear hcz50_4; try clear hcz51_0; try clear hcz51_1; try clear hcz51_2; try clear hcz51_3; try clear hcz51_4; try clear hcz54_0; try clear hcz54_1; try clear hcz54_2; try clear hcz54_3; try clear hcz54_4; try clear hcz56_0; try clear hcz56_1; try clear hcz56_2; try clear hcz56_3; try clear hcz56_4; try clear hcz57_0; try clear hcz57_1; try clear hcz57_2; try clear hcz57_3; try clear hcz57_4; try clear hcz59_0; try clear hcz59_1; try clear hcz59_2; try clear hcz59_3; try clear hcz59_4; try clear hcz66_0; try clear hcz66_1; try clear hcz66_2; try clear hcz66_3; try clear hcz66_4; try clear hcz67_0; try clear hcz67_1; try clear hcz67_2; try clear hcz67_3; try clear hcz67_4; try clear hcz68_0; try clear hcz68_1; try clear hcz68_2; try clear hcz68_3; try clear hcz68_4; try clear hcz7_0; try clear hcz7_1; try clear hcz7_2; try clear hcz7_3; try clear hcz7_4; try clear hcz8_0; try clear hcz8_1; try clear hcz8_2; try clear hcz8_3; try clear hcz8_4; try clear hfz12_0; try clear hfz12_1; try clear hfz12_2; try clear hfz12_3; try clear hfz12_4; try clear hfz13_0; try clear hfz13_1; try clear hfz13_2; try clear hfz13_3; try clear hfz13_4; try clear hfz18_0; try clear hfz18_1; try clear hfz18_2; try clear hfz18_3; try clear hfz18_4; try clear hfz19_0; try clear hfz19_1; try clear hfz19_2; try clear hfz19_3; try clear hfz19_4; try clear hfz20_0; try clear hfz20_1; try clear hfz20_2; try clear hfz20_3; try clear hfz20_4; try clear hfz25_0; try clear hfz25_1; try clear hfz25_2; try clear hfz25_3; try clear hfz25_4; try clear hfz26_0; try clear hfz26_1; try clear hfz26_2; try clear hfz26_3; try clear hfz26_4; try clear hfz27_0; try clear hfz27_1; try clear hfz27_2; try clear hfz27_3; try clear hfz27_4; try clear hfz31_0; try clear hfz31_1; try clear hfz31_2; try clear hfz31_3; try clear hfz31_4; try clear hfz33_0; try clear hfz33_1; try clear hfz33_2; try clear hfz33_3; try clear hfz33_4; try clear hfz34_0; try clear hfz34_1; try clear hfz34_2; try clear hfz34_3; try clear hfz34_4; try clear hfz38_0; try clear hfz38_1; try clear hfz38_2; try clear hfz38_3; try clear hfz38_4; try clear hfz39_0; try clear hfz39_1; try clear hfz39_2; try clear hfz39_3; try clear hfz39_4; try clear hfz43_0; try clear hfz43_1; try clear hfz43_2; try clear hfz43_3; try clear hfz43_4; try clear hfz45_0; try clear hfz45_1; try clear hfz45_2; try clear hfz45_3; try clear hfz45_4; try clear hfz46_0; try clear hfz46_1; try clear hfz46_2; try clear hfz46_3; try clear hfz46_4; try clear hfz50_0; try clear hfz50_1; try clear hfz50_2; try clear hfz50_3; try clear hfz50_4; try clear hfz51_0; try clear hfz51_1; try clear hfz51_2; try clear hfz51_3; try clear hfz51_4; try clear hfz54_0; try clear hfz54_1; try clear hfz54_2; try clear hfz54_3; try clear hfz54_4; try clear hfz56_0; try clear hfz56_1; try clear hfz56_2; try clear hfz56_3; try clear hfz56_4; try clear hfz57_0; try clear hfz57_1; try clear hfz57_2; try clear hfz57_3; try clear hfz57_4; try clear hfz59_0; try clear hfz59_1; try clear hfz59_2; try clear hfz59_3; try clear hfz59_4; try clear hfz66_0; try clear hfz66_1; try clear hfz66_2; try clear hfz66_3; try clear hfz66_4; try clear hfz67_0; try clear hfz67_1; try clear hfz67_2; try clear hfz67_3; try clear hfz67_4; try clear hfz68_0; try clear hfz68_1; try clear hfz68_2; try clear hfz68_3; try clear hfz68_4; try clear hfz7_0; try clear hfz7_1; try clear hfz7_2; try clear hfz7_3; try clear hfz7_4; try clear hfz8_0; try clear hfz8_1; try clear hfz8_2; try clear hfz8_3; try clear hfz8_4; try clear hx114_0; try clear hx115_0; try clear p114; try clear p115; try clear p2; try clear q114; try clear q115
            obtain ⟨x8_5, rfl, HA, HK5, BK113, HB⟩ := hrel
            cases gk with
            | zero => exact absurd HA.out (by simp [exequaturref01_Fits.l2])
            | succ k5 =>
             have H := HA.out
             clear HA
             simp only [exequaturref01_Fits.l2] at H
             by_cases c69 : x8_5 < (l0_3.length : Int)
             ·rw [if_pos c69] at H
              have c69b0 : decide (x8_5 < (l0_3.length : Int)) = true := decide_eq_true c69
              clear c69
              by_cases c70 : 0 ≤ x8_5
              rotate_left
              ·rw [if_neg c70] at H; exact absurd H (by simp)
              rw [if_pos c70] at H
              have c70b0 : decide (0 ≤ x8_5) = true := decide_eq_true c70
              clear c70
              replace H := Option.bind_eq_some_iff.mp H
              obtain ⟨t117, A710, H⟩ := H
              replace H : (if t117 = true then (exequaturref01_Fits.l2 k5 a1 (wrap64 (x8_5 + 1)) a0_0 a0_1 a0_2 l0_3 l0_4) else (some false)) = some r := H
              have A71 := Aside0.mk A710
              clear A710
              by_cases c72 : t117 = true
              ·subst c72
               have H1 : (exequaturref01_Fits.l2 k5 a1 (wrap64 (x8_5 + 1)) a0_0 a0_1 a0_2 l0_3 l0_4) = some r := by rw [if_pos rfl] at H; exact H
               clear H
               have H := H1
               clear H1
               have H' := Aside0.mk H
               clear H
               obtain ⟨hcz73_0, hcz73_1, hcz73_2, hcz73_3, hcz73_4⟩ := cells5 BK113.out
               obtain ⟨hfz73_0, hfz73_1, hfz73_2, hfz73_3, hfz73_4⟩ := froz5 BK113.out
               have p116 : 0 ≤ (x8_5 : Int) := of_decide_eq_true (by first | (with_reducible assumption) | assumption)
               have q116 : x8_5 < (l0_3.length : Int) := of_decide_eq_true (by first | (with_reducible assumption) | assumption)
               obtain ⟨ad116, A116_3, c116_3, A116_4, c116_4, e116, hx116_0, hx116_1, hx116_2, hx116_3, hx116_4, hl116_3, hi116_3, hl116_4, hi116_4⟩ := at_T25 HR0_3.out x8_5 p116 q116
               cases e116
               replace hx116_0 := (HB.out.cell (World.block_lt_of_cell? w _ hx116_0)).trans hx116_0
               replace hx116_1 := (HB.out.cell (World.block_lt_of_cell? w _ hx116_1)).trans hx116_1
               replace hx116_2 := (HB.out.cell (World.block_lt_of_cell? w _ hx116_2)).trans hx116_2
               replace hx116_3 := (HB.out.cell (World.block_lt_of_cell? w _ hx116_3)).trans hx116_3
               replace hx116_4 := (HB.out.cell (World.block_lt_of_cell? w _ hx116_4)).trans hx116_4
               have HR116_3 := Aside0.mk hi116_3
               have HC116_3 := Aside0.mk hl116_3
               clear hi116_3 hl116_3
               have HR116_4 := Aside0.mk hi116_4
               have HC116_4 := Aside0.mk hl116_4
               clear hi116_4 hl116_4
               replace p116 := eq_true p116
               replace q116 := eq_true q116
               go_wp2_with (first | (go_at_call 19; (with_reducible refine (ih k5 (by have := HJ2.out; have := HJ9.out; have := HJ13.out; have := HK4.out; have := HK5.out; omega) ((rd_T25 l0_3 x8_5).f0) ((rd_T25 l0_3 x8_5).f1) ((rd_T25 l0_3 x8_5).f2) _ _ ((rd_T25 l0_3 x8_5).f3) _ _ ((rd_T25 l0_3 x8_5).f4) (wrap64 (a1 - 1)) true _ ?side1 ?side2 ?side3 ?side4 A71.out).mono ?_); (case side1 => repeat (first | exact (Kd.C_below HR116_3.out HB.out) | (with_reducible refine Kd.C_alloc ?_ _) | (with_reducible refine Kd.C_drewN ?_ _) | (with_reducible refine Kd.C_drew ?_))); (case side2 => exact HC116_3.out); (case side3 => repeat (first | exact (Kd.C_below HR116_4.out HB.out) | (with_reducible refine Kd.C_alloc ?_ _) | (with_reducible refine Kd.C_drewN ?_ _) | (with_reducible refine Kd.C_drew ?_))); (case side4 => exact HC116_4.out); rintro e w74 ⟨rfl, hb⟩; have n0_ := Aside0.mk (blk_belowB BK113.out (by (with_reducible repeat (first | refine blk_drewN ?_ _ | refine blk_drew ?_ | refine blk_alloc ?_ _)); exact BK113.out) hb); have n1_ := Aside0.mk (below_step (by repeat (first | (with_reducible first | exact HB.out | apply below_alloc | apply pw_below_drewN | apply below_drew1 | refine below_set ?_ GE113.out) | exact HB.out)) hb); clear BK113; clear HB; have BK113 := n0_; have HB := n1_; clear n0_ n1_; (try clear hb); (try clear hb2); (try clear hk); (try clear hi)))
               repeat (go_quiet (first | (go_at_call 19; (with_reducible refine (ih k5 (by have := HJ2.out; have := HJ9.out; have := HJ13.out; have := HK4.out; have := HK5.out; omega) ((rd_T25 l0_3 x8_5).f0) ((rd_T25 l0_3 x8_5).f1) ((rd_T25 l0_3 x8_5).f2) _ _ ((rd_T25 l0_3 x8_5).f3) _ _ ((rd_T25 l0_3 x8_5).f4) (wrap64 (a1 - 1)) true _ ?side1 ?side2 ?side3 ?side4 A71.out).mono ?_); (case side1 => repeat (first | exact (Kd.C_below HR116_3.out HB.out) | (with_reducible refine Kd.C_alloc ?_ _) | (with_reducible refine Kd.C_drewN ?_ _) | (with_reducible refine Kd.C_drew ?_))); (case side2 => exact HC116_3.out); (case side3 => repeat (first | exact (Kd.C_below HR116_4.out HB.out) | (with_reducible refine Kd.C_alloc ?_ _) | (with_reducible refine Kd.C_drewN ?_ _) | (with_reducible refine Kd.C_drew ?_))); (case side4 => exact HC116_4.out); rintro e w74 ⟨rfl, hb⟩; have n0_ := Aside0.mk (blk_belowB BK113.out (by (with_reducible repeat (first | refine blk_drewN ?_ _ | refine blk_drew ?_ | refine blk_alloc ?_ _)); exact BK113.out) hb); have n1_ := Aside0.mk (below_step (by repeat (first | (with_reducible first | exact HB.out | apply below_alloc | apply pw_below_drewN | apply below_drew1 | refine below_set ?_ GE113.out) | exact HB.out)) hb); clear BK113; clear HB; have BK113 := n0_; have HB := n1_; clear n0_ n1_; (try clear hb); (try clear hb2); (try clear hk); (try clear hi))); try go_wp2_with (first | (go_at_call 19; (with_reducible refine (ih k5 (by have := HJ2.out; have := HJ9.out; have := HJ13.out; have := HK4.out; have := HK5.out; omega) ((rd_T25 l0_3 x8_5).f0) ((rd_T25 l0_3 x8_5).f1) ((rd_T25 l0_3 x8_5).f2) _ _ ((rd_T25 l0_3 x8_5).f3) _ _ ((rd_T25 l0_3 x8_5).f4) (wrap64 (a1 - 1)) true _ ?side1 ?side2 ?side3 ?side4 A71.out).mono ?_); (case side1 => repeat (first | exact (Kd.C_below HR116_3.out HB.out) | (with_reducible refine Kd.C_alloc ?_ _) | (with_reducible refine Kd.C_drewN ?_ _) | (with_reducible refine Kd.C_drew ?_))); (case side2 => exact HC116_3.out); (case side3 => repeat (first | exact (Kd.C_below HR116_4.out HB.out) | (with_reducible refine Kd.C_alloc ?_ _) | (with_reducible refine Kd.C_drewN ?_ _) | (with_reducible refine Kd.C_drew ?_))); (case side4 => exact HC116_4.out); rintro e w74 ⟨rfl, hb⟩; have n0_ := Aside0.mk (blk_belowB BK113.out (by (with_reducible repeat (first | refine blk_drewN ?_ _ | refine blk_drew ?_ | refine blk_alloc ?_ _)); exact BK113.out) hb); have n1_ := Aside0.mk (below_step (by repeat (first | (with_reducible first | exact HB.out | apply below_alloc | apply pw_below_drewN | apply below_drew1 | refine below_set ?_ GE113.out) | exact HB.out)) hb); clear BK113; clear HB; have BK113 := n0_; have HB := n1_; clear n0_ n1_; (try clear hb); (try clear hb2); (try clear hk); (try clear hi))))
               go_roundg k5
               case measure => have := HJ2.out; have := HJ9.out; have := HJ13.out; have := HK4.out; have := HK5.out; omega
               case rel => exact ⟨(wrap64 (x8_5 + 1)), (by first | rfl | (simp; done) | (simp [*]; done) | (refine congrArg Value.bool ?_; rw [Bool.eq_iff_iff]; simp; done)), H', ⟨by have := HJ2.out; have := HJ9.out; have := HJ13.out; have := HK4.out; have := HK5.out; omega⟩, ⟨by (with_reducible repeat (first | refine blk_drewN ?_ _ | refine blk_drew ?_ | refine blk_alloc ?_ _)); exact BK113.out⟩, ⟨by repeat (first | (with_reducible first | exact HB.out | apply below_alloc | apply pw_below_drewN | apply below_drew1 | refine below_set ?_ GE113.out) | exact HB.out)⟩⟩
              ·replace c72 := Bool.eq_false_iff.mpr c72
               subst c72
               have H1 : (some false) = some r := by rw [if_neg (show ¬ (false = true) by decide)] at H; exact H
               clear H
               have H := H1
               clear H1
               obtain rfl := Option.some.inj H
               obtain ⟨hcz75_0, hcz75_1, hcz75_2, hcz75_3, hcz75_4⟩ := cells5 BK113.out
               obtain ⟨hfz75_0, hfz75_1, hfz75_2, hfz75_3, hfz75_4⟩ := froz5 BK113.out
               have p116 : 0 ≤ (x8_5 : Int) := of_decide_eq_true (by first | (with_reducible assumption) | assumption)
               have q116 : x8_5 < (l0_3.length : Int) := of_decide_eq_true (by first | (with_reducible assumption) | assumption)
               obtain ⟨ad116, A116_3, c116_3, A116_4, c116_4, e116, hx116_0, hx116_1, hx116_2, hx116_3, hx116_4, hl116_3, hi116_3, hl116_4, hi116_4⟩ := at_T25 HR0_3.out x8_5 p116 q116
               cases e116
               replace hx116_0 := (HB.out.cell (World.block_lt_of_cell? w _ hx116_0)).trans hx116_0
               replace hx116_1 := (HB.out.cell (World.block_lt_of_cell? w _ hx116_1)).trans hx116_1
               replace hx116_2 := (HB.out.cell (World.block_lt_of_cell? w _ hx116_2)).trans hx116_2
               replace hx116_3 := (HB.out.cell (World.block_lt_of_cell? w _ hx116_3)).trans hx116_3
               replace hx116_4 := (HB.out.cell (World.block_lt_of_cell? w _ hx116_4)).trans hx116_4
               have HR116_3 := Aside0.mk hi116_3
               have HC116_3 := Aside0.mk hl116_3
               clear hi116_3 hl116_3
               have HR116_4 := Aside0.mk hi116_4
               have HC116_4 := Aside0.mk hl116_4
               clear hi116_4 hl116_4
               replace p116 := eq_true p116
               replace q116 := eq_true q116
               go_wp2_with (first | (go_at_call 19; (with_reducible refine (ih k5 (by have := HJ2.out; have := HJ9.out; have := HJ13.out; have := HK4.out; have := HK5.out; omega) ((rd_T25 l0_3 x8_5).f0) ((rd_T25 l0_3 x8_5).f1) ((rd_T25 l0_3 x8_5).f2) _ _ ((rd_T25 l0_3 x8_5).f3) _ _ ((rd_T25 l0_3 x8_5).f4) (wrap64 (a1 - 1)) false _ ?side1 ?side2 ?side3 ?side4 A71.out).mono ?_); (case side1 => repeat (first | exact (Kd.C_below HR116_3.out HB.out) | (with_reducible refine Kd.C_alloc ?_ _) | (with_reducible refine Kd.C_drewN ?_ _) | (with_reducible refine Kd.C_drew ?_))); (case side2 => exact HC116_3.out); (case side3 => repeat (first | exact (Kd.C_below HR116_4.out HB.out) | (with_reducible refine Kd.C_alloc ?_ _) | (with_reducible refine Kd.C_drewN ?_ _) | (with_reducible refine Kd.C_drew ?_))); (case side4 => exact HC116_4.out); rintro e w76 ⟨rfl, hb⟩; have n0_ := Aside0.mk (blk_belowB BK113.out (by (with_reducible repeat (first | refine blk_drewN ?_ _ | refine blk_drew ?_ | refine blk_alloc ?_ _)); exact BK113.out) hb); have n1_ := Aside0.mk (below_step (by repeat (first | (with_reducible first | exact HB.out | apply below_alloc | apply pw_below_drewN | apply below_drew1 | refine below_set ?_ GE113.out) | exact HB.out)) hb); clear BK113; clear HB; have BK113 := n0_; have HB := n1_; clear n0_ n1_; (try clear hb); (try clear hb2); (try clear hk); (try clear hi)))
               repeat (go_quiet (first | (go_at_call 19; (with_reducible refine (ih k5 (by have := HJ2.out; have := HJ9.out; have := HJ13.out; have := HK4.out; have := HK5.out; omega) ((rd_T25 l0_3 x8_5).f0) ((rd_T25 l0_3 x8_5).f1) ((rd_T25 l0_3 x8_5).f2) _ _ ((rd_T25 l0_3 x8_5).f3) _ _ ((rd_T25 l0_3 x8_5).f4) (wrap64 (a1 - 1)) false _ ?side1 ?side2 ?side3 ?side4 A71.out).mono ?_); (case side1 => repeat (first | exact (Kd.C_below HR116_3.out HB.out) | (with_reducible refine Kd.C_alloc ?_ _) | (with_reducible refine Kd.C_drewN ?_ _) | (with_reducible refine Kd.C_drew ?_))); (case side2 => exact HC116_3.out); (case side3 => repeat (first | exact (Kd.C_below HR116_4.out HB.out) | (with_reducible refine Kd.C_alloc ?_ _) | (with_reducible refine Kd.C_drewN ?_ _) | (with_reducible refine Kd.C_drew ?_))); (case side4 => exact HC116_4.out); rintro e w76 ⟨rfl, hb⟩; have n0_ := Aside0.mk (blk_belowB BK113.out (by (with_reducible repeat (first | refine blk_drewN ?_ _ | refine blk_drew ?_ | refine blk_alloc ?_ _)); exact BK113.out) hb); have n1_ := Aside0.mk (below_step (by repeat (first | (with_reducible first | exact HB.out | apply below_alloc | apply pw_below_drewN | apply below_drew1 | refine below_set ?_ GE113.out) | exact HB.out)) hb); clear BK113; clear HB; have BK113 := n0_; have HB := n1_; clear n0_ n1_; (try clear hb); (try clear hb2); (try clear hk); (try clear hi))); try go_wp2_with (first | (go_at_call 19; (with_reducible refine (ih k5 (by have := HJ2.out; have := HJ9.out; have := HJ13.out; have := HK4.out; have := HK5.out; omega) ((rd_T25 l0_3 x8_5).f0) ((rd_T25 l0_3 x8_5).f1) ((rd_T25 l0_3 x8_5).f2) _ _ ((rd_T25 l0_3 x8_5).f3) _ _ ((rd_T25 l0_3 x8_5).f4) (wrap64 (a1 - 1)) false _ ?side1 ?side2 ?side3 ?side4 A71.out).mono ?_); (case side1 => repeat (first | exact (Kd.C_below HR116_3.out HB.out) | (with_reducible refine Kd.C_alloc ?_ _) | (with_reducible refine Kd.C_drewN ?_ _) | (with_reducible refine Kd.C_drew ?_))); (case side2 => exact HC116_3.out); (case side3 => repeat (first | exact (Kd.C_below HR116_4.out HB.out) | (with_reducible refine Kd.C_alloc ?_ _) | (with_reducible refine Kd.C_drewN ?_ _) | (with_reducible refine Kd.C_drew ?_))); (case side4 => exact HC116_4.out); rintro e w76 ⟨rfl, hb⟩; have n0_ := Aside0.mk (blk_belowB BK113.out (by (with_reducible repeat (first | refine blk_drewN ?_ _ | refine blk_drew ?_ | refine blk_alloc ?_ _)); exact BK113.out) hb); have n1_ := Aside0.mk (below_step (by repeat (first | (with_reducible first | exact HB.out | apply below_alloc | apply pw_below_drewN | apply below_drew1 | refine below_set ?_ GE113.out) | exact HB.out)) hb); clear BK113; clear HB; have BK113 := n0_; have HB := n1_; clear n0_ n1_; (try clear hb); (try clear hb2); (try clear hk); (try clear hi))))
               go_ret
               first | (exact ⟨by first | rfl | (simp [errW_none, errW_some] <;> rfl) | (simp [*, errW_none, errW_some] <;> rfl), by repeat (first | (with_reducible first | exact HB.out | apply below_alloc | apply pw_below_drewN | apply below_drew1 | refine below_set ?_ GE113.out) | exact HB.out)⟩) | (focus (exfalso; simp_all; done))
               all_goals (first | (exfalso; simp_all <;> omega) | (go_ret; exact ⟨by first | rfl | (simp [errW_none, errW_some] <;> rfl) | (simp [*, errW_none, errW_some] <;> rfl), by repeat (first | (with_reducible first | exact HB.out | apply below_alloc | apply pw_below_drewN | apply below_drew1 | refine below_set ?_ GE113.out) | exact HB.out)⟩))
             ·rw [if_neg c69] at H
              have c69b0 : decide (x8_5 < (l0_3.length : Int)) = false := decide_eq_false c69
              clear c69
              obtain rfl := Option.some.inj H
              obtain ⟨hcz77_0, hcz77_1, hcz77_2, hcz77_3, hcz77_4⟩ := cells5 BK113.out
              obtain ⟨hfz77_0, hfz77_1, hfz77_2, hfz77_3, hfz77_4⟩ := froz5 BK113.out
              go_wp2
              repeat (go_quiet (fail); try go_wp2)
              go_ret
              first | (exact ⟨by first | rfl | (simp [errW_none, errW_some] <;> rfl) | (simp [*, errW_none, errW_some] <;> rfl), by repeat (first | (with_reducible first | exact HB.out | apply below_alloc | apply pw_below_drewN | apply below_drew1 | refine below_set ?_ GE113.out) | exact HB.out)⟩) | (focus (exfalso; simp_all; done))
              all_goals (first | (exfalso; simp_all <;> omega) | (go_ret; exact ⟨by first | rfl | (simp [errW_none, errW_some] <;> rfl) | (simp [*, errW_none, errW_some] <;> rfl), by repeat (first | (with_reducible first | exact HB.out | apply below_alloc | apply pw_below_drewN | apply below_drew1 | refine below_set ?_ GE113.out) | exact HB.out)⟩))

end Go.Proofs.YtifejhbochkifaaGreatDoor.X
