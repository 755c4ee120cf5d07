-- Lean text made by xprint.py (ours) out of the seat's translation. Lean checks it.
import Derived.Test.YtkcgalpagpgfhaaDoorX0
import Derived.Test.YtkcgalpagpgfhaaDoorX1
import Derived.Test.YtkcgalpagpgfhaaDoorX3
import Derived.Test.YtkcgalpagpgfhaaDoorX9
import Derived.Test.YtkcgalpagpgfhaaDoorX10
import Derived.Test.YtkcgalpagpgfhaaDoorHAns
import Derived.Test.YtkcgalpagpgfhaaDoorHClient
import Derived.Test.YtkcgalpagpgfhaaDoorHConn
namespace Go.Proofs.YtkcgalpagpgfhaaDoor.X
open Go.RowKit Go.Proofs.YtkcgalpagpgfhaaDoorW.PrintWords Go.Proofs.YtkcgalpagpgfhaaDoorW.PrintLast Go.Proofs.YtkcgalpagpgfhaaDoorW.PrintMore
attribute [local go_sem] max2_int min2_int max_two min_two max_three min_three max_four min_four   -- for this text's walks alone
set_option linter.unusedVariables false
set_option linter.unusedSimpArgs false

attribute [local go_sem high] eqA40
/-! ### exequaturlaw16_ClientFinds: function 6 -/
mutual
def exequaturlaw16_ClientFinds.j0 : Nat → ByteArray → ByteArray → Bool → ByteArray → ByteArray → ByteArray → List (S25) → List (S40) → ByteArray → ByteArray → List ByteArray → ByteArray → ByteArray → List ByteArray → Option (Bool)
  | 0, _, _, _, _, _, _, _, _, _, _, _, _, _, _ => none
  | k + 1, x1, x2, x79, x184000, x184001, x184002, x184003, x184004, x193000, x193001, x193002, x200000, x200001, x200002 => if x79 = true then (some false) else (exequaturlaw16_ClientFinds.l0 k x1 x2 0 x184000 x184001 x184002 x184003 x184004 x193000 x193001 x193002 x200000 x200001 x200002)
def exequaturlaw16_ClientFinds.l0 : Nat → ByteArray → ByteArray → Int → ByteArray → ByteArray → ByteArray → List (S25) → List (S40) → ByteArray → ByteArray → List ByteArray → ByteArray → ByteArray → List ByteArray → Option (Bool)
  | 0, _, _, _, _, _, _, _, _, _, _, _, _, _, _ => none
  | k + 1, x1, x2, x15, x184000, x184001, x184002, x184003, x184004, x193000, x193001, x193002, x200000, x200001, x200002 => if x15 < (x193002.length : Int) then (if 0 ≤ x15 then (if x15 < (x200002.length : Int) then (if (rdOf ByteArray.empty x193002 x15).toList = (rdOf ByteArray.empty x200002 x15).toList then (exequaturlaw16_ClientFinds.l0 k x1 x2 (wrap64 (x15 + 1)) x184000 x184001 x184002 x184003 x184004 x193000 x193001 x193002 x200000 x200001 x200002) else (some false)) else (none)) else (none)) else ((exequaturlaw16_answers.f).bind fun t220 => (if t220 = true then ((client_Auth.f k x184000 x184001 x184002 x184003 x184004 x1 x2).bind fun t221 => ((exequaturref13_Auth.f k x184000 x184001 x184002 x184003 x184004 x1 x2).bind fun t222 => (some (t221 == t222)))) else (some false)))
end
def exequaturlaw16_ClientFinds.f (k : Nat) (a0_0 : ByteArray) (a0_1 : ByteArray) (a0_2 : ByteArray) (l0_3 : List (S25)) (l0_4 : List (S40)) (a1 : ByteArray) (a2 : ByteArray) : Option (Bool) := (exequaturlaw16_small.f k a0_0 a0_1 a0_2 l0_3 l0_4).bind fun t184 => (if t184 = true then ((client_Client.f a0_0 a0_1 a0_2 l0_3 l0_4 a1).bind fun bt186 => ((exequaturref13_Client.f k a0_0 a0_1 a0_2 l0_3 l0_4 a1).bind fun bt193 => ((client_Conn.f a0_0 a0_1 a0_2 l0_3 l0_4 a1).bind fun bt200 => ((exequaturref13_Conn.f k a0_0 a0_1 a0_2 l0_3 l0_4 a1).bind fun bt209 => (if (bt186.2.2.2 != bt193.2.2.2) = true then (exequaturlaw16_ClientFinds.j0 k a1 a2 true a0_0 a0_1 a0_2 l0_3 l0_4 bt186.1 bt186.2.1 bt186.2.2.1 bt193.1 bt193.2.1 bt193.2.2.1) else (if bt186.1.toList = bt193.1.toList then (if bt186.2.1.toList = bt193.2.1.toList then (if (bt186.2.2.1.length : Int) = (bt193.2.2.1.length : Int) then (if (bt200.2.2.2.2.2.2.2 != bt209.2.2.2.2.2.2.2) = true then (exequaturlaw16_ClientFinds.j0 k a1 a2 true a0_0 a0_1 a0_2 l0_3 l0_4 bt186.1 bt186.2.1 bt186.2.2.1 bt193.1 bt193.2.1 bt193.2.2.1) else (exequaturlaw16_ClientFinds.j0 k a1 a2 (!(bt200.1.toList == bt209.1.toList) || (!(bt200.2.1.toList == bt209.2.1.toList) || (!(bt200.2.2.1.toList == bt209.2.2.1.toList) || (!(bt200.2.2.2.1.toList == bt209.2.2.2.1.toList) || (!(bt200.2.2.2.2.1.toList == bt209.2.2.2.2.1.toList) || (!(bt200.2.2.2.2.2.1 == bt209.2.2.2.2.2.1) || (!(bt200.2.2.2.2.2.2.1.toList == bt209.2.2.2.2.2.2.1.toList)))))))) a0_0 a0_1 a0_2 l0_3 l0_4 bt186.1 bt186.2.1 bt186.2.2.1 bt193.1 bt193.2.1 bt193.2.2.1)) else (exequaturlaw16_ClientFinds.j0 k a1 a2 true a0_0 a0_1 a0_2 l0_3 l0_4 bt186.1 bt186.2.1 bt186.2.2.1 bt193.1 bt193.2.1 bt193.2.2.1)) else (exequaturlaw16_ClientFinds.j0 k a1 a2 true a0_0 a0_1 a0_2 l0_3 l0_4 bt186.1 bt186.2.1 bt186.2.2.1 bt193.1 bt193.2.1 bt193.2.2.1)) else (exequaturlaw16_ClientFinds.j0 k a1 a2 true a0_0 a0_1 a0_2 l0_3 l0_4 bt186.1 bt186.2.1 bt186.2.2.1 bt193.1 bt193.2.1 bt193.2.2.1))))))) else ((exequaturlaw16_answers.f).bind fun t185 => (some t185)))
theorem exequaturlaw16_ClientFinds.mono_l : ∀ k, (∀ y0 y1 y2 y3 y4 y5 y6 y7 y8 y9 y10 y11 y12 y13, LeO (exequaturlaw16_ClientFinds.j0 k y0 y1 y2 y3 y4 y5 y6 y7 y8 y9 y10 y11 y12 y13) (exequaturlaw16_ClientFinds.j0 (k + 1) y0 y1 y2 y3 y4 y5 y6 y7 y8 y9 y10 y11 y12 y13)) ∧ (∀ y0 y1 y2 y3 y4 y5 y6 y7 y8 y9 y10 y11 y12 y13, LeO (exequaturlaw16_ClientFinds.l0 k y0 y1 y2 y3 y4 y5 y6 y7 y8 y9 y10 y11 y12 y13) (exequaturlaw16_ClientFinds.l0 (k + 1) y0 y1 y2 y3 y4 y5 y6 y7 y8 y9 y10 y11 y12 y13))
  | 0 => ⟨fun _ _ _ _ _ _ _ _ _ _ _ _ _ _ r h => by simp [exequaturlaw16_ClientFinds.j0] at h, fun _ _ _ _ _ _ _ _ _ _ _ _ _ _ r h => by simp [exequaturlaw16_ClientFinds.l0] at h⟩
  | k + 1 => by
    obtain ⟨ih0, ih1⟩ := exequaturlaw16_ClientFinds.mono_l k
    refine ⟨?_, ?_⟩
    · intro y0 y1 y2 y3 y4 y5 y6 y7 y8 y9 y10 y11 y12 y13
      unfold exequaturlaw16_ClientFinds.j0
      repeat' first
      | (with_reducible exact ih0 _ _ _ _ _ _ _ _ _ _ _ _ _ _)
      | (with_reducible exact ih1 _ _ _ _ _ _ _ _ _ _ _ _ _ _)
      | (with_reducible exact client_Auth.mono _ _ _ _ _ _ _ _)
      | (with_reducible exact exequaturlaw16_small.mono _ _ _ _ _ _)
      | (with_reducible exact exequaturref13_Auth.mono _ _ _ _ _ _ _ _)
      | (with_reducible exact exequaturref13_Client.mono _ _ _ _ _ _ _)
      | (with_reducible exact exequaturref13_Conn.mono _ _ _ _ _ _ _)
      | (with_reducible exact LeO.refl _)
      | (with_reducible exact LeO.none _)
      | (with_reducible refine LeO.ite ?_ ?_)
      | (with_reducible refine LeO.bind ?_ (fun _ => ?_))
      | exact ih0 _ _ _ _ _ _ _ _ _ _ _ _ _ _
      | exact ih1 _ _ _ _ _ _ _ _ _ _ _ _ _ _
      | exact client_Auth.mono _ _ _ _ _ _ _ _
      | exact exequaturlaw16_small.mono _ _ _ _ _ _
      | exact exequaturref13_Auth.mono _ _ _ _ _ _ _ _
      | exact exequaturref13_Client.mono _ _ _ _ _ _ _
      | exact exequaturref13_Conn.mono _ _ _ _ _ _ _
      | exact LeO.none _
      | refine LeO.ite ?_ ?_
      | refine LeO.bind ?_ (fun _ => ?_)
    · intro y0 y1 y2 y3 y4 y5 y6 y7 y8 y9 y10 y11 y12 y13
      unfold exequaturlaw16_ClientFinds.l0
      repeat' first
      | (with_reducible exact ih0 _ _ _ _ _ _ _ _ _ _ _ _ _ _)
      | (with_reducible exact ih1 _ _ _ _ _ _ _ _ _ _ _ _ _ _)
      | (with_reducible exact client_Auth.mono _ _ _ _ _ _ _ _)
      | (with_reducible exact exequaturlaw16_small.mono _ _ _ _ _ _)
      | (with_reducible exact exequaturref13_Auth.mono _ _ _ _ _ _ _ _)
      | (with_reducible exact exequaturref13_Client.mono _ _ _ _ _ _ _)
      | (with_reducible exact exequaturref13_Conn.mono _ _ _ _ _ _ _)
      | (with_reducible exact LeO.refl _)
      | (with_reducible exact LeO.none _)
      | (with_reducible refine LeO.ite ?_ ?_)
      | (with_reducible refine LeO.bind ?_ (fun _ => ?_))
      | exact ih0 _ _ _ _ _ _ _ _ _ _ _ _ _ _
      | exact ih1 _ _ _ _ _ _ _ _ _ _ _ _ _ _
      | exact client_Auth.mono _ _ _ _ _ _ _ _
      | exact exequaturlaw16_small.mono _ _ _ _ _ _
      | exact exequaturref13_Auth.mono _ _ _ _ _ _ _ _
      | exact exequaturref13_Client.mono _ _ _ _ _ _ _
      | exact exequaturref13_Conn.mono _ _ _ _ _ _ _
      | exact LeO.none _
      | refine LeO.ite ?_ ?_
      | refine LeO.bind ?_ (fun _ => ?_)
theorem exequaturlaw16_ClientFinds.mono : ∀ a0 a1 a2 a3 a4 a5 a6 k, LeO (exequaturlaw16_ClientFinds.f k a0 a1 a2 a3 a4 a5 a6) (exequaturlaw16_ClientFinds.f (k + 1) a0 a1 a2 a3 a4 a5 a6) := by
  intro a0 a1 a2 a3 a4 a5 a6 k
  obtain ⟨ih0, ih1⟩ := exequaturlaw16_ClientFinds.mono_l k
  unfold exequaturlaw16_ClientFinds.f
  repeat' first
      | (with_reducible exact ih0 _ _ _ _ _ _ _ _ _ _ _ _ _ _)
      | (with_reducible exact ih1 _ _ _ _ _ _ _ _ _ _ _ _ _ _)
      | (with_reducible exact client_Auth.mono _ _ _ _ _ _ _ _)
      | (with_reducible exact exequaturlaw16_small.mono _ _ _ _ _ _)
      | (with_reducible exact exequaturref13_Auth.mono _ _ _ _ _ _ _ _)
      | (with_reducible exact exequaturref13_Client.mono _ _ _ _ _ _ _)
      | (with_reducible exact exequaturref13_Conn.mono _ _ _ _ _ _ _)
      | (with_reducible exact LeO.refl _)
      | (with_reducible exact LeO.none _)
      | (with_reducible refine LeO.ite ?_ ?_)
      | (with_reducible refine LeO.bind ?_ (fun _ => ?_))
      | exact ih0 _ _ _ _ _ _ _ _ _ _ _ _ _ _
      | exact ih1 _ _ _ _ _ _ _ _ _ _ _ _ _ _
      | exact client_Auth.mono _ _ _ _ _ _ _ _
      | exact exequaturlaw16_small.mono _ _ _ _ _ _
      | exact exequaturref13_Auth.mono _ _ _ _ _ _ _ _
      | exact exequaturref13_Client.mono _ _ _ _ _ _ _
      | exact exequaturref13_Conn.mono _ _ _ _ _ _ _
      | exact LeO.none _
      | refine LeO.ite ?_ ?_
      | refine LeO.bind ?_ (fun _ => ?_)
def exequaturlaw16_ClientFinds.T12 : Bool × List (List Nat × List Nat) := (true, [([], []), ([0], [0]), ([], []), ([1, 2], [1, 2]), ([3], [3]), ([], []), ([5], [5]), ([], []), ([6, 7], [6, 7]), ([8], [8]), ([4, 9], [4, 9])])
def exequaturlaw16_ClientFinds.B12 : List Nat := [0, 1, 0, 7, 15, 0, 32, 0, 224, 480, 1023]
theorem exequaturlaw16_ClientFinds.tab12 : rtab .any (opsOf Tryd.f6 12) = exequaturlaw16_ClientFinds.T12 := by kernel_rfl
theorem exequaturlaw16_ClientFinds.bits12 : waitsOk exequaturlaw16_ClientFinds.T12.2 exequaturlaw16_ClientFinds.B12 = true := by kernel_rfl
def exequaturlaw16_ClientFinds.T14 : Bool × List (List Nat × List Nat) := (true, [([], []), ([0, 0], [0]), ([1], [1]), ([1], [1]), ([1], [1]), ([2, 3, 4, 1, 1], [1, 2, 3, 4]), ([1], [1]), ([1], [1]), ([1], [1]), ([6, 7, 8, 5, 1], [1, 6, 7, 8]), ([5, 9, 1], [1, 5, 9]), ([1, 10], [1, 10]), ([11, 9, 0, 1, 2, 3, 4, 5, 6, 7, 8, 9, 10, 11], [11])])
def exequaturlaw16_ClientFinds.B14 : List Nat := [0, 1, 3, 3, 3, 31, 3, 3, 3, 511, 1023, 2047, 4095]
theorem exequaturlaw16_ClientFinds.tab14 : rtab .any (opsOf Tryd.f6 14) = exequaturlaw16_ClientFinds.T14 := by kernel_rfl
theorem exequaturlaw16_ClientFinds.bits14 : waitsOk exequaturlaw16_ClientFinds.T14.2 exequaturlaw16_ClientFinds.B14 = true := by kernel_rfl
set_option maxHeartbeats 8000000 in
set_option maxRecDepth 100000 in
theorem exequaturlaw16_ClientFinds.calls (k : Nat) (a0_0 : ByteArray) (a0_1 : ByteArray) (a0_2 : ByteArray) (A0_3 : Option Addr) (c0_3 : Nat) (l0_3 : List (S25)) (A0_4 : Option Addr) (c0_4 : Nat) (l0_4 : List (S40)) (a1 : ByteArray) (a2 : ByteArray) (r : Bool) (w : World) (hr0_3 : Kd.C k25 w A0_3 l0_3.length l0_3) (hc0_3 : l0_3.length ≤ c0_3) (hr0_4 : Kd.C k40 w A0_4 l0_4.length l0_4) (hc0_4 : l0_4.length ≤ c0_4) (h : exequaturlaw16_ClientFinds.f k a0_0 a0_1 a0_2 l0_3 l0_4 a1 a2 = some r) (hG : GOK w := by first | assumption | exact hG | exact GOK.drewN _ hG | exact GOK.below hG (by repeat (first | (with_reducible first | exact HB.out | apply below_alloc | apply pw_below_drewN | apply below_drew1 | refine below_set ?_ (Aside0.out (by assumption))) | exact HB.out))) :
  Calls Tryd.prog 6 #[.agg #[.string a0_0, .string a0_1, .string a0_2, .slice A0_3 l0_3.length c0_3, .slice A0_4 l0_4.length c0_4], .string a1, .string a2] w fun e w' => e = .returned (.bool r) ∧ Below w.heap.size w w' := by
 have hu31 := Tryd.underlying31
 have hu25 := Tryd.underlying25
 have hu40 := Tryd.underlying40
 have HR0_3 := Aside0.mk hr0_3
 have HC0_3 := Aside0.mk hc0_3
 clear hr0_3 hc0_3
 have HR0_4 := Aside0.mk hr0_4
 have HC0_4 := Aside0.mk hc0_4
 clear hr0_4 hc0_4
 have HB := Aside0.mk (Below.refl w.heap.size w)
 have H := h
 unfold exequaturlaw16_ClientFinds.f at H
 clear h
 replace H := Option.bind_eq_some_iff.mp H
 obtain ⟨t184, A40, H⟩ := H
 replace H : (if t184 = true then ((client_Client.f a0_0 a0_1 a0_2 l0_3 l0_4 a1).bind fun bt186 => ((exequaturref13_Client.f k a0_0 a0_1 a0_2 l0_3 l0_4 a1).bind fun bt193 => ((client_Conn.f a0_0 a0_1 a0_2 l0_3 l0_4 a1).bind fun bt200 => ((exequaturref13_Conn.f k a0_0 a0_1 a0_2 l0_3 l0_4 a1).bind fun bt209 => (if (bt186.2.2.2 != bt193.2.2.2) = true then (exequaturlaw16_ClientFinds.j0 k a1 a2 true a0_0 a0_1 a0_2 l0_3 l0_4 bt186.1 bt186.2.1 bt186.2.2.1 bt193.1 bt193.2.1 bt193.2.2.1) else (if bt186.1.toList = bt193.1.toList then (if bt186.2.1.toList = bt193.2.1.toList then (if (bt186.2.2.1.length : Int) = (bt193.2.2.1.length : Int) then (if (bt200.2.2.2.2.2.2.2 != bt209.2.2.2.2.2.2.2) = true then (exequaturlaw16_ClientFinds.j0 k a1 a2 true a0_0 a0_1 a0_2 l0_3 l0_4 bt186.1 bt186.2.1 bt186.2.2.1 bt193.1 bt193.2.1 bt193.2.2.1) else (exequaturlaw16_ClientFinds.j0 k a1 a2 (!(bt200.1.toList == bt209.1.toList) || (!(bt200.2.1.toList == bt209.2.1.toList) || (!(bt200.2.2.1.toList == bt209.2.2.1.toList) || (!(bt200.2.2.2.1.toList == bt209.2.2.2.1.toList) || (!(bt200.2.2.2.2.1.toList == bt209.2.2.2.2.1.toList) || (!(bt200.2.2.2.2.2.1 == bt209.2.2.2.2.2.1) || (!(bt200.2.2.2.2.2.2.1.toList == bt209.2.2.2.2.2.2.1.toList)))))))) a0_0 a0_1 a0_2 l0_3 l0_4 bt186.1 bt186.2.1 bt186.2.2.1 bt193.1 bt193.2.1 bt193.2.2.1)) else (exequaturlaw16_ClientFinds.j0 k a1 a2 true a0_0 a0_1 a0_2 l0_3 l0_4 bt186.1 bt186.2.1 bt186.2.2.1 bt193.1 bt193.2.1 bt193.2.2.1)) else (exequaturlaw16_ClientFinds.j0 k a1 a2 true a0_0 a0_1 a0_2 l0_3 l0_4 bt186.1 bt186.2.1 bt186.2.2.1 bt193.1 bt193.2.1 bt193.2.2.1)) else (exequaturlaw16_ClientFinds.j0 k a1 a2 true a0_0 a0_1 a0_2 l0_3 l0_4 bt186.1 bt186.2.1 bt186.2.2.1 bt193.1 bt193.2.1 bt193.2.2.1))))))) else ((exequaturlaw16_answers.f).bind fun t185 => (some t185))) = some r := H
 have A4 := Aside0.mk A40
 clear A40
 by_cases c5 : t184 = true
 ·subst c5
  have H1 : ((client_Client.f a0_0 a0_1 a0_2 l0_3 l0_4 a1).bind fun bt186 => ((exequaturref13_Client.f k a0_0 a0_1 a0_2 l0_3 l0_4 a1).bind fun bt193 => ((client_Conn.f a0_0 a0_1 a0_2 l0_3 l0_4 a1).bind fun bt200 => ((exequaturref13_Conn.f k a0_0 a0_1 a0_2 l0_3 l0_4 a1).bind fun bt209 => (if (bt186.2.2.2 != bt193.2.2.2) = true then (exequaturlaw16_ClientFinds.j0 k a1 a2 true a0_0 a0_1 a0_2 l0_3 l0_4 bt186.1 bt186.2.1 bt186.2.2.1 bt193.1 bt193.2.1 bt193.2.2.1) else (if bt186.1.toList = bt193.1.toList then (if bt186.2.1.toList = bt193.2.1.toList then (if (bt186.2.2.1.length : Int) = (bt193.2.2.1.length : Int) then (if (bt200.2.2.2.2.2.2.2 != bt209.2.2.2.2.2.2.2) = true then (exequaturlaw16_ClientFinds.j0 k a1 a2 true a0_0 a0_1 a0_2 l0_3 l0_4 bt186.1 bt186.2.1 bt186.2.2.1 bt193.1 bt193.2.1 bt193.2.2.1) else (exequaturlaw16_ClientFinds.j0 k a1 a2 (!(bt200.1.toList == bt209.1.toList) || (!(bt200.2.1.toList == bt209.2.1.toList) || (!(bt200.2.2.1.toList == bt209.2.2.1.toList) || (!(bt200.2.2.2.1.toList == bt209.2.2.2.1.toList) || (!(bt200.2.2.2.2.1.toList == bt209.2.2.2.2.1.toList) || (!(bt200.2.2.2.2.2.1 == bt209.2.2.2.2.2.1) || (!(bt200.2.2.2.2.2.2.1.toList == bt209.2.2.2.2.2.2.1.toList)))))))) a0_0 a0_1 a0_2 l0_3 l0_4 bt186.1 bt186.2.1 bt186.2.2.1 bt193.1 bt193.2.1 bt193.2.2.1)) else (exequaturlaw16_ClientFinds.j0 k a1 a2 true a0_0 a0_1 a0_2 l0_3 l0_4 bt186.1 bt186.2.1 bt186.2.2.1 bt193.1 bt193.2.1 bt193.2.2.1)) else (exequaturlaw16_ClientFinds.j0 k a1 a2 true a0_0 a0_1 a0_2 l0_3 l0_4 bt186.1 bt186.2.1 bt186.2.2.1 bt193.1 bt193.2.1 bt193.2.2.1)) else (exequaturlaw16_ClientFinds.j0 k a1 a2 true a0_0 a0_1 a0_2 l0_3 l0_4 bt186.1 bt186.2.1 bt186.2.2.1 bt193.1 bt193.2.1 bt193.2.2.1))))))) = some r := by rw [if_pos rfl] at H; exact H
  clear H
  have H := H1
  clear H1
  replace H := Option.bind_eq_some_iff.mp H
  obtain ⟨⟨t186, t187, t188, t191⟩, A60, H⟩ := H
  replace H : ((exequaturref13_Client.f k a0_0 a0_1 a0_2 l0_3 l0_4 a1).bind fun bt193 => ((client_Conn.f a0_0 a0_1 a0_2 l0_3 l0_4 a1).bind fun bt200 => ((exequaturref13_Conn.f k a0_0 a0_1 a0_2 l0_3 l0_4 a1).bind fun bt209 => (if (t191 != bt193.2.2.2) = true then (exequaturlaw16_ClientFinds.j0 k a1 a2 true a0_0 a0_1 a0_2 l0_3 l0_4 t186 t187 t188 bt193.1 bt193.2.1 bt193.2.2.1) else (if t186.toList = bt193.1.toList then (if t187.toList = bt193.2.1.toList then (if (t188.length : Int) = (bt193.2.2.1.length : Int) then (if (bt200.2.2.2.2.2.2.2 != bt209.2.2.2.2.2.2.2) = true then (exequaturlaw16_ClientFinds.j0 k a1 a2 true a0_0 a0_1 a0_2 l0_3 l0_4 t186 t187 t188 bt193.1 bt193.2.1 bt193.2.2.1) else (exequaturlaw16_ClientFinds.j0 k a1 a2 (!(bt200.1.toList == bt209.1.toList) || (!(bt200.2.1.toList == bt209.2.1.toList) || (!(bt200.2.2.1.toList == bt209.2.2.1.toList) || (!(bt200.2.2.2.1.toList == bt209.2.2.2.1.toList) || (!(bt200.2.2.2.2.1.toList == bt209.2.2.2.2.1.toList) || (!(bt200.2.2.2.2.2.1 == bt209.2.2.2.2.2.1) || (!(bt200.2.2.2.2.2.2.1.toList == bt209.2.2.2.2.2.2.1.toList)))))))) a0_0 a0_1 a0_2 l0_3 l0_4 t186 t187 t188 bt193.1 bt193.2.1 bt193.2.2.1)) else (exequaturlaw16_ClientFinds.j0 k a1 a2 true a0_0 a0_1 a0_2 l0_3 l0_4 t186 t187 t188 bt193.1 bt193.2.1 bt193.2.2.1)) else (exequaturlaw16_ClientFinds.j0 k a1 a2 true a0_0 a0_1 a0_2 l0_3 l0_4 t186 t187 t188 bt193.1 bt193.2.1 bt193.2.2.1)) else (exequaturlaw16_ClientFinds.j0 k a1 a2 true a0_0 a0_1 a0_2 l0_3 l0_4 t186 t187 t188 bt193.1 bt193.2.1 bt193.2.2.1)))))) = some r := H
  have A6 := Aside0.mk A60
  clear A60
  replace H := Option.bind_eq_some_iff.mp H
  obtain ⟨⟨t193, t194, t195, t198⟩, A70, H⟩ := H
  replace H : ((client_Conn.f a0_0 a0_1 a0_2 l0_3 l0_4 a1).bind fun bt200 => ((exequaturref13_Conn.f k a0_0 a0_1 a0_2 l0_3 l0_4 a1).bind fun bt209 => (if (t191 != t198) = true then (exequaturlaw16_ClientFinds.j0 k a1 a2 true a0_0 a0_1 a0_2 l0_3 l0_4 t186 t187 t188 t193 t194 t195) else (if t186.toList = t193.toList then (if t187.toList = t194.toList then (if (t188.length : Int) = (t195.length : Int) then (if (bt200.2.2.2.2.2.2.2 != bt209.2.2.2.2.2.2.2) = true then (exequaturlaw16_ClientFinds.j0 k a1 a2 true a0_0 a0_1 a0_2 l0_3 l0_4 t186 t187 t188 t193 t194 t195) else (exequaturlaw16_ClientFinds.j0 k a1 a2 (!(bt200.1.toList == bt209.1.toList) || (!(bt200.2.1.toList == bt209.2.1.toList) || (!(bt200.2.2.1.toList == bt209.2.2.1.toList) || (!(bt200.2.2.2.1.toList == bt209.2.2.2.1.toList) || (!(bt200.2.2.2.2.1.toList == bt209.2.2.2.2.1.toList) || (!(bt200.2.2.2.2.2.1 == bt209.2.2.2.2.2.1) || (!(bt200.2.2.2.2.2.2.1.toList == bt209.2.2.2.2.2.2.1.toList)))))))) a0_0 a0_1 a0_2 l0_3 l0_4 t186 t187 t188 t193 t194 t195)) else (exequaturlaw16_ClientFinds.j0 k a1 a2 true a0_0 a0_1 a0_2 l0_3 l0_4 t186 t187 t188 t193 t194 t195)) else (exequaturlaw16_ClientFinds.j0 k a1 a2 true a0_0 a0_1 a0_2 l0_3 l0_4 t186 t187 t188 t193 t194 t195)) else (exequaturlaw16_ClientFinds.j0 k a1 a2 true a0_0 a0_1 a0_2 l0_3 l0_4 t186 t187 t188 t193 t194 t195))))) = some r := H
  have A7 := Aside0.mk A70
  clear A70
  replace H := Option.bind_eq_some_iff.mp H
  obtain ⟨⟨t200, t201, t202, t203, t204, t205, t206, t207⟩, A80, H⟩ := H
  replace H : ((exequaturref13_Conn.f k a0_0 a0_1 a0_2 l0_3 l0_4 a1).bind fun bt209 => (if (t191 != t198) = true then (exequaturlaw16_ClientFinds.j0 k a1 a2 true a0_0 a0_1 a0_2 l0_3 l0_4 t186 t187 t188 t193 t194 t195) else (if t186.toList = t193.toList then (if t187.toList = t194.toList then (if (t188.length : Int) = (t195.length : Int) then (if (t207 != bt209.2.2.2.2.2.2.2) = true then (exequaturlaw16_ClientFinds.j0 k a1 a2 true a0_0 a0_1 a0_2 l0_3 l0_4 t186 t187 t188 t193 t194 t195) else (exequaturlaw16_ClientFinds.j0 k a1 a2 (!(t200.toList == bt209.1.toList) || (!(t201.toList == bt209.2.1.toList) || (!(t202.toList == bt209.2.2.1.toList) || (!(t203.toList == bt209.2.2.2.1.toList) || (!(t204.toList == bt209.2.2.2.2.1.toList) || (!(t205 == bt209.2.2.2.2.2.1) || (!(t206.toList == bt209.2.2.2.2.2.2.1.toList)))))))) a0_0 a0_1 a0_2 l0_3 l0_4 t186 t187 t188 t193 t194 t195)) else (exequaturlaw16_ClientFinds.j0 k a1 a2 true a0_0 a0_1 a0_2 l0_3 l0_4 t186 t187 t188 t193 t194 t195)) else (exequaturlaw16_ClientFinds.j0 k a1 a2 true a0_0 a0_1 a0_2 l0_3 l0_4 t186 t187 t188 t193 t194 t195)) else (exequaturlaw16_ClientFinds.j0 k a1 a2 true a0_0 a0_1 a0_2 l0_3 l0_4 t186 t187 t188 t193 t194 t195)))) = some r := H
  have A8 := Aside0.mk A80
  clear A80
  replace H := Option.bind_eq_some_iff.mp H
  obtain ⟨⟨t209, t210, t211, t212, t213, t214, t215, t216⟩, A90, H⟩ := H
  replace H : (if (t191 != t198) = true then (exequaturlaw16_ClientFinds.j0 k a1 a2 true a0_0 a0_1 a0_2 l0_3 l0_4 t186 t187 t188 t193 t194 t195) else (if t186.toList = t193.toList then (if t187.toList = t194.toList then (if (t188.length : Int) = (t195.length : Int) then (if (t207 != t216) = true then (exequaturlaw16_ClientFinds.j0 k a1 a2 true a0_0 a0_1 a0_2 l0_3 l0_4 t186 t187 t188 t193 t194 t195) else (exequaturlaw16_ClientFinds.j0 k a1 a2 (!(t200.toList == t209.toList) || (!(t201.toList == t210.toList) || (!(t202.toList == t211.toList) || (!(t203.toList == t212.toList) || (!(t204.toList == t213.toList) || (!(t205 == t214) || (!(t206.toList == t215.toList)))))))) a0_0 a0_1 a0_2 l0_3 l0_4 t186 t187 t188 t193 t194 t195)) else (exequaturlaw16_ClientFinds.j0 k a1 a2 true a0_0 a0_1 a0_2 l0_3 l0_4 t186 t187 t188 t193 t194 t195)) else (exequaturlaw16_ClientFinds.j0 k a1 a2 true a0_0 a0_1 a0_2 l0_3 l0_4 t186 t187 t188 t193 t194 t195)) else (exequaturlaw16_ClientFinds.j0 k a1 a2 true a0_0 a0_1 a0_2 l0_3 l0_4 t186 t187 t188 t193 t194 t195))) = some r := H
  have A9 := Aside0.mk A90
  clear A90
  have HC10 := Aside0.mk H
  clear H
  go_enter Tryd.func6, Tryd.ntmps6
  go_upto_region 7 with (first | ((with_reducible refine gate_dst (N := 3) rfl ?_); (try (refine gate_guard (by rfl) ?_; dsimp only)); refine box_event ?hg (N := 3) ?hd (cs := #[.string a0_0, .string a0_1, .string a0_2, .slice A0_3 l0_3.length c0_3, .slice A0_4 l0_4.length c0_4]) (t := 31) ?hr ?_; (case hd => rfl); (case hg => rfl); (case hr => first | (go_simp; done) | (go_simp; rfl)); intro gb183 hg w11 hbox hb; have n0_ := Aside0.mk (below_step (by repeat (first | (with_reducible first | exact HB.out | apply below_alloc | apply pw_below_drewN | apply below_drew1) | exact HB.out)) hb); have n1_ := Aside0.mk (hbox); have n2_ := Aside0.mk ((by rw [hg]; exact (below_size (by repeat (first | (with_reducible first | exact HB.out | apply below_alloc | apply pw_below_drewN | apply below_drew1) | exact HB.out))) : w.heap.size ≤ gb183)); have n3_ := Aside0.mk ((by rw [hg]; exact (below_size (by repeat (first | (with_reducible first | exact HB.out | apply below_alloc | apply pw_below_drewN | apply below_drew1) | exact HB.out))) : w.heap.size ≤ gb183)); clear HB; have HB := n0_; have BK183 := n1_; have GW183 := n2_; have GE183 := n3_; clear n0_ n1_ n2_ n3_; clear hb hbox hg; obtain ⟨hcz12_0, hcz12_1, hcz12_2, hcz12_3, hcz12_4⟩ := cells5 BK183.out; obtain ⟨hfz12_0, hfz12_1, hfz12_2, hfz12_3, hfz12_4⟩ := froz5 BK183.out) | ((with_reducible refine gate_callee (f := 12) rfl ?_); refine goesL_ (some 17) rfl rfl Tryd.func12 (by kernel_rfl) rfl #[.agg #[.string a0_0, .string a0_1, .string a0_2, .slice A0_3 l0_3.length c0_3, .slice A0_4 l0_4.length c0_4]] rfl (by (try simp only [List.map_toArray, List.map_cons, List.map_nil]); first | done | rfl | (simp only [List.length_drop, List.length_take]; rfl)) ?_; (with_reducible refine (exequaturlaw16_small.calls k a0_0 a0_1 a0_2 _ _ l0_3 _ _ l0_4 true _ ?side1 ?side2 ?side3 ?side4 A4.out).mono ?_); (case side1 => repeat (first | exact (Kd.C_below HR0_3.out HB.out) | (with_reducible refine Kd.C_alloc ?_ _) | (with_reducible refine Kd.C_drewN ?_ _) | (with_reducible refine Kd.C_drew ?_))); (case side2 => exact HC0_3.out); (case side3 => repeat (first | exact (Kd.C_below HR0_4.out HB.out) | (with_reducible refine Kd.C_alloc ?_ _) | (with_reducible refine Kd.C_drewN ?_ _) | (with_reducible refine Kd.C_drew ?_))); (case side4 => exact HC0_4.out); rintro e w13 ⟨rfl, hb⟩; refine ⟨_, rfl, ?_⟩; have n0_ := Aside0.mk (blk_belowB BK183.out (by (with_reducible repeat (first | refine blk_drewN ?_ _ | refine blk_drew ?_ | refine blk_alloc ?_ _)); exact BK183.out) hb); have n1_ := Aside0.mk (below_step (by repeat (first | (with_reducible first | exact HB.out | apply below_alloc | apply pw_below_drewN | apply below_drew1 | refine below_set ?_ GE183.out) | exact HB.out)) hb); clear BK183; clear HB; have BK183 := n0_; have HB := n1_; clear n0_ n1_; (try clear hb); (try clear hb2); (try clear hk); (try clear hi); obtain ⟨hcz14_0, hcz14_1, hcz14_2, hcz14_3, hcz14_4⟩ := cells5 BK183.out; obtain ⟨hfz14_0, hfz14_1, hfz14_2, hfz14_3, hfz14_4⟩ := froz5 BK183.out) | ((with_reducible refine gate_callee (f := 9) rfl ?_); refine goesL_ (some 23) rfl rfl Tryd.func9 (by kernel_rfl) rfl #[.agg #[.string a0_0, .string a0_1, .string a0_2, .slice A0_3 l0_3.length c0_3, .slice A0_4 l0_4.length c0_4], .string a1] rfl (by (try simp only [List.map_toArray, List.map_cons, List.map_nil]); first | done | rfl | (simp only [List.length_drop, List.length_take]; rfl)) ?_; (with_reducible refine (client_Client.calls a0_0 a0_1 a0_2 _ _ l0_3 _ _ l0_4 a1 t186 t187 t188 t191 _ ?side1 ?side2 ?side3 ?side4 A6.out).mono ?_); (case side1 => repeat (first | exact (Kd.C_below HR0_3.out HB.out) | (with_reducible refine Kd.C_alloc ?_ _) | (with_reducible refine Kd.C_drewN ?_ _) | (with_reducible refine Kd.C_drew ?_))); (case side2 => exact HC0_3.out); (case side3 => repeat (first | exact (Kd.C_below HR0_4.out HB.out) | (with_reducible refine Kd.C_alloc ?_ _) | (with_reducible refine Kd.C_drewN ?_ _) | (with_reducible refine Kd.C_drew ?_))); (case side4 => exact HC0_4.out); rintro e w15 ⟨v189, rfl, ho0, hb⟩; refine ⟨_, rfl, ?_⟩; have n0_ := Aside0.mk (Kd.V_lower (Kd.V_mono (ok' := fun k_ => k_ ≠ gb183) ho0 (fun k_ hk_ => (Kd.freshB (g := gb183) (o := .cells #[.string a0_0, .string a0_1, .string a0_2, .slice A0_3 l0_3.length c0_3, .slice A0_4 l0_4.length c0_4] 31 (0, 0)) (by (with_reducible repeat (first | refine blk_drewN ?_ _ | refine blk_drew ?_ | refine blk_alloc ?_ _)); exact BK183.out) k_ hk_))) (below_size (by repeat (first | (with_reducible first | exact HB.out | apply below_alloc | apply pw_below_drewN | apply below_drew1 | refine below_set ?_ GE183.out) | exact HB.out)))); have n1_ := Aside0.mk (blk_belowB BK183.out (by (with_reducible repeat (first | refine blk_drewN ?_ _ | refine blk_drew ?_ | refine blk_alloc ?_ _)); exact BK183.out) hb); have n2_ := Aside0.mk (below_step (by repeat (first | (with_reducible first | exact HB.out | apply below_alloc | apply pw_below_drewN | apply below_drew1 | refine below_set ?_ GE183.out) | exact HB.out)) hb); clear BK183; clear HB; have HO190 := n0_; have BK183 := n1_; have HB := n2_; clear n0_ n1_ n2_; (try clear hb); (try clear hb2); (try clear hk); (try clear hi); (try clear ho0)) | ((with_reducible refine gate_dst (N := 7) rfl ?_); (try (refine gate_guard (by rfl) ?_; dsimp only)); refine box_event ?hg (N := 7) ?hd (cs := #[.string (⟨#[]⟩ : ByteArray), .string (⟨#[]⟩ : ByteArray), .slice none 0 0]) (t := 25) ?hr ?_; (case hd => rfl); (case hg => rfl); (case hr => first | (go_simp; done) | (go_simp; rfl)); intro gb192 hg w16 hbox hb; have n0_ := Aside0.mk (Kd.V_below (Kd.V_elderB (by (with_reducible repeat (first | apply Kd.V_alloc | apply Kd.V_drewN | apply Kd.V_drew)); exact HO190.out) gb192 (Nat.le_of_eq hg.symm)) hb); have n1_ := Aside0.mk (blk_belowB BK183.out (by (with_reducible repeat (first | refine blk_drewN ?_ _ | refine blk_drew ?_ | refine blk_alloc ?_ _)); exact BK183.out) hb); have n2_ := Aside0.mk (below_step (by repeat (first | (with_reducible first | exact HB.out | apply below_alloc | apply pw_below_drewN | apply below_drew1 | refine below_set ?_ GE183.out) | exact HB.out)) hb); have n3_ := Aside0.mk (hbox); have n4_ := Aside0.mk ((by rw [hg]; exact (below_size (by repeat (first | (with_reducible first | exact HB.out | apply below_alloc | apply pw_below_drewN | apply below_drew1 | refine below_set ?_ GE183.out) | exact HB.out))) : w.heap.size ≤ gb192)); have n5_ := Aside0.mk ((by rw [hg]; exact (below_size (by repeat (first | (with_reducible first | exact HB.out | apply below_alloc | apply pw_below_drewN | apply below_drew1 | refine below_set ?_ GE183.out) | exact HB.out))) : w.heap.size ≤ gb192)); have n6_ := Aside0.mk ((by rw [hg]; exact Nat.ne_of_lt (blk_lt (g := gb183) (o := .cells #[.string a0_0, .string a0_1, .string a0_2, .slice A0_3 l0_3.length c0_3, .slice A0_4 l0_4.length c0_4] 31 (0, 0)) (by (with_reducible repeat (first | refine blk_drewN ?_ _ | refine blk_drew ?_ | refine blk_alloc ?_ _)); exact BK183.out)) : gb183 ≠ gb192)); have n7_ := Aside0.mk ((by rw [hg]; exact Nat.ne_of_gt (blk_lt (g := gb183) (o := .cells #[.string a0_0, .string a0_1, .string a0_2, .slice A0_3 l0_3.length c0_3, .slice A0_4 l0_4.length c0_4] 31 (0, 0)) (by (with_reducible repeat (first | refine blk_drewN ?_ _ | refine blk_drew ?_ | refine blk_alloc ?_ _)); exact BK183.out)) : gb192 ≠ gb183)); clear HO190; clear BK183; clear HB; have HO190 := n0_; have BK183 := n1_; have HB := n2_; have BK192 := n3_; have GW192 := n4_; have GE192 := n5_; have NB183_192 := n6_; have NB192_183 := n7_; clear n0_ n1_ n2_ n3_ n4_ n5_ n6_ n7_; clear hb hbox hg; have hnb17 := NB192_183.out; have hnc17 := NB183_192.out; have hcz18_0 : w16.cell? ⟨gb192, 0, none⟩ = some (.string (⟨#[]⟩ : ByteArray)) := (blk_cell BK192.out 0).trans rfl; have hcz18_1 : w16.cell? ⟨gb192, 1, none⟩ = some (.string (⟨#[]⟩ : ByteArray)) := (blk_cell BK192.out 1).trans rfl; have hcz18_2 : w16.cell? ⟨gb192, 2, none⟩ = some (.slice none 0 0) := (blk_cell BK192.out 2).trans rfl; have hfz18_0 := blk_frozen BK192.out 0; have hfz18_1 := blk_frozen BK192.out 1; have hfz18_2 := blk_frozen BK192.out 2; obtain ⟨Ao19, co19, eo19⟩ := Kd.V_slice HO190.out; subst eo19) | ((with_reducible refine gate_store (t := 25) (p := 7) rfl ?_); refine store_event (t := 25) (p := 7) (v := ?vo_w20) (w1 := (((w16.setCell ⟨gb192, 0, none⟩ (.string t186)).setCell ⟨gb192, 1, none⟩ (.string t187)).setCell ⟨gb192, 2, none⟩ (.slice Ao19 t188.length co19))) ?hg ?ho ?hn ?hr ?_; (case ho => rfl); (case hg => rfl); (case hn => rfl); (case hr => first | (go_simp; done) | (go_simp; rfl)); intro w20 hw; have n0_ : Aside0 (Kd.V Kd.string 9 w20 w.heap.size (fun k_ => k_ ≠ gb183 ∧ k_ ≠ gb192) (.slice Ao19 t188.length co19) t188) := ⟨(by rw [hw]; exact (by (with_reducible repeat (first | apply Kd.V_alloc | apply Kd.V_drewN | apply Kd.V_drew)); exact Kd.V_mono (Kd.V_far (p := ⟨gb192, 2, none⟩) (Kd.V_far (p := ⟨gb192, 1, none⟩) (Kd.V_far (p := ⟨gb192, 0, none⟩) (Kd.V_mono HO190.out (fun k_ hk => (⟨hk, hk.2⟩ : _ ∧ k_ ≠ gb192))) (fun _ hk => hk.2) (.string t186)) (fun _ hk => hk.2) (.string t187)) (fun _ hk => hk.2) (.slice Ao19 t188.length co19)) (fun _ hk => ⟨hk.1.1, hk.1.2⟩)))⟩; have n1_ : Aside0 (w20.heap[gb183]? = some (.cells #[.string a0_0, .string a0_1, .string a0_2, .slice A0_3 l0_3.length c0_3, .slice A0_4 l0_4.length c0_4] 31 (0, 0))) := ⟨(by rw [hw]; exact (by (with_reducible repeat (first | refine blk_drewN ?_ _ | refine blk_drew ?_ | refine blk_alloc ?_ _)); refine blk_far (blk_far (blk_far ?_ NB183_192.out _) NB183_192.out _) NB183_192.out _; (with_reducible repeat (first | refine blk_drewN ?_ _ | refine blk_drew ?_ | refine blk_alloc ?_ _)); exact BK183.out))⟩; have n2_ : Aside0 (w20.heap[gb192]? = some (.cells #[.string t186, .string t187, .slice Ao19 t188.length co19] 25 (0, 0))) := ⟨(by rw [hw]; exact (by (with_reducible repeat (first | refine blk_drewN ?_ _ | refine blk_drew ?_ | refine blk_alloc ?_ _)); refine fillR (cs := ?cs_) rfl rfl ?h_ ?l_; (case h_ => (with_reducible repeat (first | refine blk_drewN ?_ _ | refine blk_drew ?_ | refine blk_alloc ?_ _)); exact BK192.out); (case l_ => rfl)))⟩; have n3_ : Aside0 (Below w.heap.size w w20) := ⟨(by rw [hw]; exact (by repeat (first | (with_reducible first | exact HB.out | apply below_alloc | apply pw_below_drewN | apply below_drew1 | refine below_set ?_ GE183.out | refine below_set ?_ GE192.out) | exact HB.out)))⟩; clear hw; clear HO190; clear BK183; clear BK192; clear HB; have HO190 := n0_; have BK183 := n1_; have BK192 := n2_; have HB := n3_; clear n0_ n1_ n2_ n3_; obtain ⟨hcz21_0, hcz21_1, hcz21_2, hcz21_3, hcz21_4⟩ := cells5 BK183.out; obtain ⟨hfz21_0, hfz21_1, hfz21_2, hfz21_3, hfz21_4⟩ := froz5 BK183.out) | ((with_reducible refine gate_callee (f := 13) rfl ?_); refine goesL_ (some 29) rfl rfl Tryd.func13 (by kernel_rfl) rfl #[.agg #[.string a0_0, .string a0_1, .string a0_2, .slice A0_3 l0_3.length c0_3, .slice A0_4 l0_4.length c0_4], .string a1] rfl (by (try simp only [List.map_toArray, List.map_cons, List.map_nil]); first | done | rfl | (simp only [List.length_drop, List.length_take]; rfl)) ?_; (with_reducible refine (exequaturref13_Client.calls k a0_0 a0_1 a0_2 (fun k_ => k_ < w.heap.size) _ _ l0_3 _ _ l0_4 a1 t193 t194 t195 t198 _ ?side1 ?side2 ?side3 A7.out).mono ?_); (case side1 => exact Kd.V_mk HC0_3.out (Kd.F_below (Kd.C_F k25_heap HR0_3.out) (by repeat (first | (with_reducible first | exact HB.out | apply below_alloc | apply pw_below_drewN | apply below_drew1 | refine below_set ?_ GE183.out | refine below_set ?_ GE192.out) | exact HB.out)))); (case side2 => repeat (first | exact (Kd.C_below HR0_4.out HB.out) | (with_reducible refine Kd.C_alloc ?_ _) | (with_reducible refine Kd.C_drewN ?_ _) | (with_reducible refine Kd.C_drew ?_))); (case side3 => exact HC0_4.out); rintro e w22 ⟨v196, rfl, ho0, hb⟩; refine ⟨_, rfl, ?_⟩; have n0_ := Aside0.mk (Kd.V_below (by (with_reducible repeat (first | apply Kd.V_alloc | apply Kd.V_drewN | apply Kd.V_drew)); exact HO190.out) hb); have n1_ := Aside0.mk (Kd.V_lower (Kd.V_mono (ok' := fun k_ => k_ ≠ gb183 ∧ k_ ≠ gb192) ho0 (fun k_ hk_ => ⟨Or.elim hk_ (fun hs_ => fun e_ => Nat.not_le.2 hs_ (by rw [e_]; exact GW183.out)) (fun hn_ => (Kd.freshB (g := gb183) (o := .cells #[.string a0_0, .string a0_1, .string a0_2, .slice A0_3 l0_3.length c0_3, .slice A0_4 l0_4.length c0_4] 31 (0, 0)) (by (with_reducible repeat (first | refine blk_drewN ?_ _ | refine blk_drew ?_ | refine blk_alloc ?_ _)); exact BK183.out) k_ hn_)), Or.elim hk_ (fun hs_ => fun e_ => Nat.not_le.2 hs_ (by rw [e_]; exact GW192.out)) (fun hn_ => (Kd.freshB (g := gb192) (o := .cells #[.string t186, .string t187, .slice Ao19 t188.length co19] 25 (0, 0)) (by (with_reducible repeat (first | refine blk_drewN ?_ _ | refine blk_drew ?_ | refine blk_alloc ?_ _)); exact BK192.out) k_ hn_))⟩)) (below_size (by repeat (first | (with_reducible first | exact HB.out | apply below_alloc | apply pw_below_drewN | apply below_drew1 | refine below_set ?_ GE183.out | refine below_set ?_ GE192.out) | exact HB.out)))); have n2_ := Aside0.mk (blk_belowB BK183.out (by (with_reducible repeat (first | refine blk_drewN ?_ _ | refine blk_drew ?_ | refine blk_alloc ?_ _)); exact BK183.out) hb); have n3_ := Aside0.mk (blk_belowB BK192.out (by (with_reducible repeat (first | refine blk_drewN ?_ _ | refine blk_drew ?_ | refine blk_alloc ?_ _)); exact BK192.out) hb); have n4_ := Aside0.mk (below_step (by repeat (first | (with_reducible first | exact HB.out | apply below_alloc | apply pw_below_drewN | apply below_drew1 | refine below_set ?_ GE183.out | refine below_set ?_ GE192.out) | exact HB.out)) hb); clear HO190; clear BK183; clear BK192; clear HB; have HO190 := n0_; have HO197 := n1_; have BK183 := n2_; have BK192 := n3_; have HB := n4_; clear n0_ n1_ n2_ n3_ n4_; (try clear hb); (try clear hb2); (try clear hk); (try clear hi); (try clear ho0)) | ((with_reducible refine gate_dst (N := 9) rfl ?_); (try (refine gate_guard (by rfl) ?_; dsimp only)); refine box_event ?hg (N := 9) ?hd (cs := #[.string (⟨#[]⟩ : ByteArray), .string (⟨#[]⟩ : ByteArray), .slice none 0 0]) (t := 25) ?hr ?_; (case hd => rfl); (case hg => rfl); (case hr => first | (go_simp; done) | (go_simp; rfl)); intro gb199 hg w23 hbox hb; have n0_ := Aside0.mk (Kd.V_below (Kd.V_elderB (by (with_reducible repeat (first | apply Kd.V_alloc | apply Kd.V_drewN | apply Kd.V_drew)); exact HO190.out) gb199 (Nat.le_of_eq hg.symm)) hb); have n1_ := Aside0.mk (Kd.V_below (Kd.V_elderB (by (with_reducible repeat (first | apply Kd.V_alloc | apply Kd.V_drewN | apply Kd.V_drew)); exact HO197.out) gb199 (Nat.le_of_eq hg.symm)) hb); have n2_ := Aside0.mk (blk_belowB BK183.out (by (with_reducible repeat (first | refine blk_drewN ?_ _ | refine blk_drew ?_ | refine blk_alloc ?_ _)); exact BK183.out) hb); have n3_ := Aside0.mk (blk_belowB BK192.out (by (with_reducible repeat (first | refine blk_drewN ?_ _ | refine blk_drew ?_ | refine blk_alloc ?_ _)); exact BK192.out) hb); have n4_ := Aside0.mk (below_step (by repeat (first | (with_reducible first | exact HB.out | apply below_alloc | apply pw_below_drewN | apply below_drew1 | refine below_set ?_ GE183.out | refine below_set ?_ GE192.out) | exact HB.out)) hb); have n5_ := Aside0.mk (hbox); have n6_ := Aside0.mk ((by rw [hg]; exact (below_size (by repeat (first | (with_reducible first | exact HB.out | apply below_alloc | apply pw_below_drewN | apply below_drew1 | refine below_set ?_ GE183.out | refine below_set ?_ GE192.out) | exact HB.out))) : w.heap.size ≤ gb199)); have n7_ := Aside0.mk ((by rw [hg]; exact (below_size (by repeat (first | (with_reducible first | exact HB.out | apply below_alloc | apply pw_below_drewN | apply below_drew1 | refine below_set ?_ GE183.out | refine below_set ?_ GE192.out) | exact HB.out))) : w.heap.size ≤ gb199)); have n8_ := Aside0.mk ((by rw [hg]; exact Nat.ne_of_lt (blk_lt (g := gb183) (o := .cells #[.string a0_0, .string a0_1, .string a0_2, .slice A0_3 l0_3.length c0_3, .slice A0_4 l0_4.length c0_4] 31 (0, 0)) (by (with_reducible repeat (first | refine blk_drewN ?_ _ | refine blk_drew ?_ | refine blk_alloc ?_ _)); exact BK183.out)) : gb183 ≠ gb199)); have n9_ := Aside0.mk ((by rw [hg]; exact Nat.ne_of_gt (blk_lt (g := gb183) (o := .cells #[.string a0_0, .string a0_1, .string a0_2, .slice A0_3 l0_3.length c0_3, .slice A0_4 l0_4.length c0_4] 31 (0, 0)) (by (with_reducible repeat (first | refine blk_drewN ?_ _ | refine blk_drew ?_ | refine blk_alloc ?_ _)); exact BK183.out)) : gb199 ≠ gb183)); have n10_ := Aside0.mk ((by rw [hg]; exact Nat.ne_of_lt (blk_lt (g := gb192) (o := .cells #[.string t186, .string t187, .slice Ao19 t188.length co19] 25 (0, 0)) (by (with_reducible repeat (first | refine blk_drewN ?_ _ | refine blk_drew ?_ | refine blk_alloc ?_ _)); exact BK192.out)) : gb192 ≠ gb199)); have n11_ := Aside0.mk ((by rw [hg]; exact Nat.ne_of_gt (blk_lt (g := gb192) (o := .cells #[.string t186, .string t187, .slice Ao19 t188.length co19] 25 (0, 0)) (by (with_reducible repeat (first | refine blk_drewN ?_ _ | refine blk_drew ?_ | refine blk_alloc ?_ _)); exact BK192.out)) : gb199 ≠ gb192)); clear HO190; clear HO197; clear BK183; clear BK192; clear HB; have HO190 := n0_; have HO197 := n1_; have BK183 := n2_; have BK192 := n3_; have HB := n4_; have BK199 := n5_; have GW199 := n6_; have GE199 := n7_; have NB183_199 := n8_; have NB199_183 := n9_; have NB192_199 := n10_; have NB199_192 := n11_; clear n0_ n1_ n2_ n3_ n4_ n5_ n6_ n7_ n8_ n9_ n10_ n11_; clear hb hbox hg; have hnb24 := NB199_183.out; have hnc24 := NB183_199.out; have hnb25 := NB199_192.out; have hnc25 := NB192_199.out; have hcz26_0 : w23.cell? ⟨gb199, 0, none⟩ = some (.string (⟨#[]⟩ : ByteArray)) := (blk_cell BK199.out 0).trans rfl; have hcz26_1 : w23.cell? ⟨gb199, 1, none⟩ = some (.string (⟨#[]⟩ : ByteArray)) := (blk_cell BK199.out 1).trans rfl; have hcz26_2 : w23.cell? ⟨gb199, 2, none⟩ = some (.slice none 0 0) := (blk_cell BK199.out 2).trans rfl; have hfz26_0 := blk_frozen BK199.out 0; have hfz26_1 := blk_frozen BK199.out 1; have hfz26_2 := blk_frozen BK199.out 2; obtain ⟨Ao27, co27, eo27⟩ := Kd.V_slice HO197.out; subst eo27; obtain ⟨hcz28_0, hcz28_1, hcz28_2, hcz28_3, hcz28_4⟩ := cells5 BK183.out; obtain ⟨hfz28_0, hfz28_1, hfz28_2, hfz28_3, hfz28_4⟩ := froz5 BK183.out) | ((with_reducible refine gate_callee (f := 14) rfl ?_); refine goesL_ (some 35) rfl rfl Tryd.func14 (by kernel_rfl) rfl #[.agg #[.string a0_0, .string a0_1, .string a0_2, .slice A0_3 l0_3.length c0_3, .slice A0_4 l0_4.length c0_4], .string a1] rfl (by (try simp only [List.map_toArray, List.map_cons, List.map_nil]); first | done | rfl | (simp only [List.length_drop, List.length_take]; rfl)) ?_; (with_reducible refine (client_Conn.calls a0_0 a0_1 a0_2 _ _ l0_3 _ _ l0_4 a1 t200 t201 t202 t203 t204 t205 t206 t207 _ ?side1 ?side2 ?side3 ?side4 A8.out).mono ?_); (case side1 => exact Kd.C_below HR0_3.out (by repeat (first | (with_reducible first | exact HB.out | apply below_alloc | apply pw_below_drewN | apply below_drew1 | refine below_set ?_ GE183.out | refine below_set ?_ GE192.out | refine below_set ?_ GE199.out) | exact HB.out))); (case side2 => exact HC0_3.out); (case side3 => exact Kd.C_below HR0_4.out (by repeat (first | (with_reducible first | exact HB.out | apply below_alloc | apply pw_below_drewN | apply below_drew1 | refine below_set ?_ GE183.out | refine below_set ?_ GE192.out | refine below_set ?_ GE199.out) | exact HB.out))); (case side4 => exact HC0_4.out); rintro e w29 ⟨rfl, hb⟩; refine ⟨_, rfl, ?_⟩; have n0_ := Aside0.mk (Kd.V_below (by (with_reducible repeat (first | apply Kd.V_alloc | apply Kd.V_drewN | apply Kd.V_drew)); exact (Kd.V_mono (Kd.V_far (p := ⟨gb199, 2, none⟩) (Kd.V_far (p := ⟨gb199, 1, none⟩) (Kd.V_far (p := ⟨gb199, 0, none⟩) (Kd.V_mono HO190.out (fun k_ hk => (⟨hk, hk.2⟩ : _ ∧ k_ ≠ gb199))) (fun _ hk => hk.2) (.string t193)) (fun _ hk => hk.2) (.string t194)) (fun _ hk => hk.2) (.slice Ao27 t195.length co27)) (fun _ h_ => h_.1))) hb); have n1_ := Aside0.mk (Kd.V_below (by (with_reducible repeat (first | apply Kd.V_alloc | apply Kd.V_drewN | apply Kd.V_drew)); exact (Kd.V_mono (Kd.V_far (p := ⟨gb199, 2, none⟩) (Kd.V_far (p := ⟨gb199, 1, none⟩) (Kd.V_far (p := ⟨gb199, 0, none⟩) (Kd.V_mono HO197.out (fun k_ hk => (⟨hk, hk.2⟩ : _ ∧ k_ ≠ gb199))) (fun _ hk => hk.2) (.string t193)) (fun _ hk => hk.2) (.string t194)) (fun _ hk => hk.2) (.slice Ao27 t195.length co27)) (fun _ h_ => h_.1))) hb); have n2_ := Aside0.mk (blk_belowB BK183.out (by (with_reducible repeat (first | refine blk_drewN ?_ _ | refine blk_drew ?_ | refine blk_alloc ?_ _)); refine blk_far (blk_far (blk_far ?_ NB183_199.out _) NB183_199.out _) NB183_199.out _; (with_reducible repeat (first | refine blk_drewN ?_ _ | refine blk_drew ?_ | refine blk_alloc ?_ _)); exact BK183.out) hb); have n3_ := Aside0.mk (blk_belowB BK192.out (by (with_reducible repeat (first | refine blk_drewN ?_ _ | refine blk_drew ?_ | refine blk_alloc ?_ _)); refine blk_far (blk_far (blk_far ?_ NB192_199.out _) NB192_199.out _) NB192_199.out _; (with_reducible repeat (first | refine blk_drewN ?_ _ | refine blk_drew ?_ | refine blk_alloc ?_ _)); exact BK192.out) hb); have n4_ := Aside0.mk (blk_below (g := gb199) (o := .cells #[.string t193, .string t194, .slice Ao27 t195.length co27] 25 (0, 0)) (by (with_reducible repeat (first | refine blk_drewN ?_ _ | refine blk_drew ?_ | refine blk_alloc ?_ _)); refine fillR (cs := ?cs2_) rfl rfl ?h2_ ?l2_; (case h2_ => (with_reducible repeat (first | refine blk_drewN ?_ _ | refine blk_drew ?_ | refine blk_alloc ?_ _)); exact BK199.out); (case l2_ => rfl)) hb); have n5_ := Aside0.mk (below_step (by repeat (first | (with_reducible first | exact HB.out | apply below_alloc | apply pw_below_drewN | apply below_drew1 | refine below_set ?_ GE183.out | refine below_set ?_ GE192.out | refine below_set ?_ GE199.out) | exact HB.out)) hb); clear HO190; clear HO197; clear BK183; clear BK192; clear BK199; clear HB; have HO190 := n0_; have HO197 := n1_; have BK183 := n2_; have BK192 := n3_; have BK199 := n4_; have HB := n5_; clear n0_ n1_ n2_ n3_ n4_ n5_; (try clear hb); (try clear hb2); (try clear hk); (try clear hi)) | ((with_reducible refine gate_dst (N := 11) rfl ?_); (try (refine gate_guard (by rfl) ?_; dsimp only)); refine box_event ?hg (N := 11) ?hd (cs := #[.string (⟨#[]⟩ : ByteArray), .string (⟨#[]⟩ : ByteArray), .string (⟨#[]⟩ : ByteArray), .string (⟨#[]⟩ : ByteArray), .string (⟨#[]⟩ : ByteArray), .bool false, .string (⟨#[]⟩ : ByteArray)]) (t := 40) ?hr ?_; (case hd => rfl); (case hg => rfl); (case hr => first | (go_simp; done) | (go_simp; rfl)); intro gb208 hg w30 hbox hb; have n0_ := Aside0.mk (Kd.V_below (Kd.V_elderB (by (with_reducible repeat (first | apply Kd.V_alloc | apply Kd.V_drewN | apply Kd.V_drew)); exact HO190.out) gb208 (Nat.le_of_eq hg.symm)) hb); have n1_ := Aside0.mk (Kd.V_below (Kd.V_elderB (by (with_reducible repeat (first | apply Kd.V_alloc | apply Kd.V_drewN | apply Kd.V_drew)); exact HO197.out) gb208 (Nat.le_of_eq hg.symm)) hb); have n2_ := Aside0.mk (blk_belowB BK183.out (by (with_reducible repeat (first | refine blk_drewN ?_ _ | refine blk_drew ?_ | refine blk_alloc ?_ _)); exact BK183.out) hb); have n3_ := Aside0.mk (blk_belowB BK192.out (by (with_reducible repeat (first | refine blk_drewN ?_ _ | refine blk_drew ?_ | refine blk_alloc ?_ _)); exact BK192.out) hb); have n4_ := Aside0.mk (blk_belowB BK199.out (by (with_reducible repeat (first | refine blk_drewN ?_ _ | refine blk_drew ?_ | refine blk_alloc ?_ _)); exact BK199.out) hb); have n5_ := Aside0.mk (below_step (by repeat (first | (with_reducible first | exact HB.out | apply below_alloc | apply pw_below_drewN | apply below_drew1 | refine below_set ?_ GE183.out | refine below_set ?_ GE192.out | refine below_set ?_ GE199.out) | exact HB.out)) hb); have n6_ := Aside0.mk (hbox); have n7_ := Aside0.mk ((by rw [hg]; exact (below_size (by repeat (first | (with_reducible first | exact HB.out | apply below_alloc | apply pw_below_drewN | apply below_drew1 | refine below_set ?_ GE183.out | refine below_set ?_ GE192.out | refine below_set ?_ GE199.out) | exact HB.out))) : w.heap.size ≤ gb208)); have n8_ := Aside0.mk ((by rw [hg]; exact (below_size (by repeat (first | (with_reducible first | exact HB.out | apply below_alloc | apply pw_below_drewN | apply below_drew1 | refine below_set ?_ GE183.out | refine below_set ?_ GE192.out | refine below_set ?_ GE199.out) | exact HB.out))) : w.heap.size ≤ gb208)); have n9_ := Aside0.mk ((by rw [hg]; exact Nat.ne_of_lt (blk_lt (g := gb183) (o := .cells #[.string a0_0, .string a0_1, .string a0_2, .slice A0_3 l0_3.length c0_3, .slice A0_4 l0_4.length c0_4] 31 (0, 0)) (by (with_reducible repeat (first | refine blk_drewN ?_ _ | refine blk_drew ?_ | refine blk_alloc ?_ _)); exact BK183.out)) : gb183 ≠ gb208)); have n10_ := Aside0.mk ((by rw [hg]; exact Nat.ne_of_gt (blk_lt (g := gb183) (o := .cells #[.string a0_0, .string a0_1, .string a0_2, .slice A0_3 l0_3.length c0_3, .slice A0_4 l0_4.length c0_4] 31 (0, 0)) (by (with_reducible repeat (first | refine blk_drewN ?_ _ | refine blk_drew ?_ | refine blk_alloc ?_ _)); exact BK183.out)) : gb208 ≠ gb183)); have n11_ := Aside0.mk ((by rw [hg]; exact Nat.ne_of_lt (blk_lt (g := gb192) (o := .cells #[.string t186, .string t187, .slice Ao19 t188.length co19] 25 (0, 0)) (by (with_reducible repeat (first | refine blk_drewN ?_ _ | refine blk_drew ?_ | refine blk_alloc ?_ _)); exact BK192.out)) : gb192 ≠ gb208)); have n12_ := Aside0.mk ((by rw [hg]; exact Nat.ne_of_gt (blk_lt (g := gb192) (o := .cells #[.string t186, .string t187, .slice Ao19 t188.length co19] 25 (0, 0)) (by (with_reducible repeat (first | refine blk_drewN ?_ _ | refine blk_drew ?_ | refine blk_alloc ?_ _)); exact BK192.out)) : gb208 ≠ gb192)); have n13_ := Aside0.mk ((by rw [hg]; exact Nat.ne_of_lt (blk_lt (g := gb199) (o := .cells #[.string t193, .string t194, .slice Ao27 t195.length co27] 25 (0, 0)) (by (with_reducible repeat (first | refine blk_drewN ?_ _ | refine blk_drew ?_ | refine blk_alloc ?_ _)); exact BK199.out)) : gb199 ≠ gb208)); have n14_ := Aside0.mk ((by rw [hg]; exact Nat.ne_of_gt (blk_lt (g := gb199) (o := .cells #[.string t193, .string t194, .slice Ao27 t195.length co27] 25 (0, 0)) (by (with_reducible repeat (first | refine blk_drewN ?_ _ | refine blk_drew ?_ | refine blk_alloc ?_ _)); exact BK199.out)) : gb208 ≠ gb199)); clear HO190; clear HO197; clear BK183; clear BK192; clear BK199; clear HB; have HO190 := n0_; have HO197 := n1_; have BK183 := n2_; have BK192 := n3_; have BK199 := n4_; have HB := n5_; have BK208 := n6_; have GW208 := n7_; have GE208 := n8_; have NB183_208 := n9_; have NB208_183 := n10_; have NB192_208 := n11_; have NB208_192 := n12_; have NB199_208 := n13_; have NB208_199 := n14_; clear n0_ n1_ n2_ n3_ n4_ n5_ n6_ n7_ n8_ n9_ n10_ n11_ n12_ n13_ n14_; clear hb hbox hg; have hnb31 := NB208_183.out; have hnc31 := NB183_208.out; have hnb32 := NB208_192.out; have hnc32 := NB192_208.out; have hnb33 := NB208_199.out; have hnc33 := NB199_208.out; obtain ⟨hcz34_0, hcz34_1, hcz34_2, hcz34_3, hcz34_4, hcz34_5, hcz34_6⟩ := cells7 BK208.out; obtain ⟨hfz34_0, hfz34_1, hfz34_2, hfz34_3, hfz34_4, hfz34_5, hfz34_6⟩ := froz7 BK208.out; obtain ⟨hcz35_0, hcz35_1, hcz35_2, hcz35_3, hcz35_4⟩ := cells5 BK183.out; obtain ⟨hfz35_0, hfz35_1, hfz35_2, hfz35_3, hfz35_4⟩ := froz5 BK183.out) | ((with_reducible refine gate_callee (f := 15) rfl ?_); refine goesL_ (some 41) rfl rfl Tryd.func15 (by kernel_rfl) rfl #[.agg #[.string a0_0, .string a0_1, .string a0_2, .slice A0_3 l0_3.length c0_3, .slice A0_4 l0_4.length c0_4], .string a1] rfl (by (try simp only [List.map_toArray, List.map_cons, List.map_nil]); first | done | rfl | (simp only [List.length_drop, List.length_take]; rfl)) ?_; (with_reducible refine (exequaturref13_Conn.calls k a0_0 a0_1 a0_2 _ _ l0_3 _ _ l0_4 a1 t209 t210 t211 t212 t213 t214 t215 t216 _ ?side1 ?side2 ?side3 ?side4 A9.out).mono ?_); (case side1 => exact Kd.C_below HR0_3.out (by repeat (first | (with_reducible first | exact HB.out | apply below_alloc | apply pw_below_drewN | apply below_drew1 | refine below_set ?_ GE183.out | refine below_set ?_ GE192.out | refine below_set ?_ GE199.out | refine below_set ?_ GE208.out) | exact HB.out))); (case side2 => exact HC0_3.out); (case side3 => exact Kd.C_below HR0_4.out (by repeat (first | (with_reducible first | exact HB.out | apply below_alloc | apply pw_below_drewN | apply below_drew1 | refine below_set ?_ GE183.out | refine below_set ?_ GE192.out | refine below_set ?_ GE199.out | refine below_set ?_ GE208.out) | exact HB.out))); (case side4 => exact HC0_4.out); rintro e w36 ⟨rfl, hb⟩; refine ⟨_, rfl, ?_⟩; have n0_ := Aside0.mk (Kd.V_below (by (with_reducible repeat (first | apply Kd.V_alloc | apply Kd.V_drewN | apply Kd.V_drew)); exact (Kd.V_mono (Kd.V_far (p := ⟨gb208, 6, none⟩) (Kd.V_far (p := ⟨gb208, 5, none⟩) (Kd.V_far (p := ⟨gb208, 4, none⟩) (Kd.V_far (p := ⟨gb208, 3, none⟩) (Kd.V_far (p := ⟨gb208, 2, none⟩) (Kd.V_far (p := ⟨gb208, 1, none⟩) (Kd.V_far (p := ⟨gb208, 0, none⟩) (Kd.V_mono HO190.out (fun k_ hk => (⟨hk, hk.2⟩ : _ ∧ k_ ≠ gb208))) (fun _ hk => hk.2) (.string t200)) (fun _ hk => hk.2) (.string t201)) (fun _ hk => hk.2) (.string t202)) (fun _ hk => hk.2) (.string t203)) (fun _ hk => hk.2) (.string t204)) (fun _ hk => hk.2) (.bool t205)) (fun _ hk => hk.2) (.string t206)) (fun _ h_ => h_.1))) hb); have n1_ := Aside0.mk (Kd.V_below (by (with_reducible repeat (first | apply Kd.V_alloc | apply Kd.V_drewN | apply Kd.V_drew)); exact (Kd.V_mono (Kd.V_far (p := ⟨gb208, 6, none⟩) (Kd.V_far (p := ⟨gb208, 5, none⟩) (Kd.V_far (p := ⟨gb208, 4, none⟩) (Kd.V_far (p := ⟨gb208, 3, none⟩) (Kd.V_far (p := ⟨gb208, 2, none⟩) (Kd.V_far (p := ⟨gb208, 1, none⟩) (Kd.V_far (p := ⟨gb208, 0, none⟩) (Kd.V_mono HO197.out (fun k_ hk => (⟨hk, hk.2⟩ : _ ∧ k_ ≠ gb208))) (fun _ hk => hk.2) (.string t200)) (fun _ hk => hk.2) (.string t201)) (fun _ hk => hk.2) (.string t202)) (fun _ hk => hk.2) (.string t203)) (fun _ hk => hk.2) (.string t204)) (fun _ hk => hk.2) (.bool t205)) (fun _ hk => hk.2) (.string t206)) (fun _ h_ => h_.1))) hb); have n2_ := Aside0.mk (blk_belowB BK183.out (by (with_reducible repeat (first | refine blk_drewN ?_ _ | refine blk_drew ?_ | refine blk_alloc ?_ _)); refine blk_far (blk_far (blk_far (blk_far (blk_far (blk_far (blk_far ?_ NB183_208.out _) NB183_208.out _) NB183_208.out _) NB183_208.out _) NB183_208.out _) NB183_208.out _) NB183_208.out _; (with_reducible repeat (first | refine blk_drewN ?_ _ | refine blk_drew ?_ | refine blk_alloc ?_ _)); exact BK183.out) hb); have n3_ := Aside0.mk (blk_belowB BK192.out (by (with_reducible repeat (first | refine blk_drewN ?_ _ | refine blk_drew ?_ | refine blk_alloc ?_ _)); refine blk_far (blk_far (blk_far (blk_far (blk_far (blk_far (blk_far ?_ NB192_208.out _) NB192_208.out _) NB192_208.out _) NB192_208.out _) NB192_208.out _) NB192_208.out _) NB192_208.out _; (with_reducible repeat (first | refine blk_drewN ?_ _ | refine blk_drew ?_ | refine blk_alloc ?_ _)); exact BK192.out) hb); have n4_ := Aside0.mk (blk_belowB BK199.out (by (with_reducible repeat (first | refine blk_drewN ?_ _ | refine blk_drew ?_ | refine blk_alloc ?_ _)); refine blk_far (blk_far (blk_far (blk_far (blk_far (blk_far (blk_far ?_ NB199_208.out _) NB199_208.out _) NB199_208.out _) NB199_208.out _) NB199_208.out _) NB199_208.out _) NB199_208.out _; (with_reducible repeat (first | refine blk_drewN ?_ _ | refine blk_drew ?_ | refine blk_alloc ?_ _)); exact BK199.out) hb); have n5_ := Aside0.mk (blk_below (g := gb208) (o := .cells #[.string t200, .string t201, .string t202, .string t203, .string t204, .bool t205, .string t206] 40 (0, 0)) (by (with_reducible repeat (first | refine blk_drewN ?_ _ | refine blk_drew ?_ | refine blk_alloc ?_ _)); refine fillR (cs := ?cs3_) rfl rfl ?h3_ ?l3_; (case h3_ => (with_reducible repeat (first | refine blk_drewN ?_ _ | refine blk_drew ?_ | refine blk_alloc ?_ _)); exact BK208.out); (case l3_ => rfl)) hb); have n6_ := Aside0.mk (below_step (by repeat (first | (with_reducible first | exact HB.out | apply below_alloc | apply pw_below_drewN | apply below_drew1 | refine below_set ?_ GE183.out | refine below_set ?_ GE192.out | refine below_set ?_ GE199.out | refine below_set ?_ GE208.out) | exact HB.out)) hb); clear HO190; clear HO197; clear BK183; clear BK192; clear BK199; clear BK208; clear HB; have HO190 := n0_; have HO197 := n1_; have BK183 := n2_; have BK192 := n3_; have BK199 := n4_; have BK208 := n5_; have HB := n6_; clear n0_ n1_ n2_ n3_ n4_ n5_ n6_; (try clear hb); (try clear hb2); (try clear hk); (try clear hi)) | ((with_reducible refine gate_dst (N := 13) rfl ?_); (try (refine gate_guard (by rfl) ?_; dsimp only)); refine box_event ?hg (N := 13) ?hd (cs := #[.string (⟨#[]⟩ : ByteArray), .string (⟨#[]⟩ : ByteArray), .string (⟨#[]⟩ : ByteArray), .string (⟨#[]⟩ : ByteArray), .string (⟨#[]⟩ : ByteArray), .bool false, .string (⟨#[]⟩ : ByteArray)]) (t := 40) ?hr ?_; (case hd => rfl); (case hg => rfl); (case hr => first | (go_simp; done) | (go_simp; rfl)); intro gb217 hg w37 hbox hb; have n0_ := Aside0.mk (Kd.V_below (Kd.V_elderB (by (with_reducible repeat (first | apply Kd.V_alloc | apply Kd.V_drewN | apply Kd.V_drew)); exact HO190.out) gb217 (Nat.le_of_eq hg.symm)) hb); have n1_ := Aside0.mk (Kd.V_below (Kd.V_elderB (by (with_reducible repeat (first | apply Kd.V_alloc | apply Kd.V_drewN | apply Kd.V_drew)); exact HO197.out) gb217 (Nat.le_of_eq hg.symm)) hb); have n2_ := Aside0.mk (blk_belowB BK183.out (by (with_reducible repeat (first | refine blk_drewN ?_ _ | refine blk_drew ?_ | refine blk_alloc ?_ _)); exact BK183.out) hb); have n3_ := Aside0.mk (blk_belowB BK192.out (by (with_reducible repeat (first | refine blk_drewN ?_ _ | refine blk_drew ?_ | refine blk_alloc ?_ _)); exact BK192.out) hb); have n4_ := Aside0.mk (blk_belowB BK199.out (by (with_reducible repeat (first | refine blk_drewN ?_ _ | refine blk_drew ?_ | refine blk_alloc ?_ _)); exact BK199.out) hb); have n5_ := Aside0.mk (blk_belowB BK208.out (by (with_reducible repeat (first | refine blk_drewN ?_ _ | refine blk_drew ?_ | refine blk_alloc ?_ _)); exact BK208.out) hb); have n6_ := Aside0.mk (below_step (by repeat (first | (with_reducible first | exact HB.out | apply below_alloc | apply pw_below_drewN | apply below_drew1 | refine below_set ?_ GE183.out | refine below_set ?_ GE192.out | refine below_set ?_ GE199.out | refine below_set ?_ GE208.out) | exact HB.out)) hb); have n7_ := Aside0.mk (hbox); have n8_ := Aside0.mk ((by rw [hg]; exact (below_size (by repeat (first | (with_reducible first | exact HB.out | apply below_alloc | apply pw_below_drewN | apply below_drew1 | refine below_set ?_ GE183.out | refine below_set ?_ GE192.out | refine below_set ?_ GE199.out | refine below_set ?_ GE208.out) | exact HB.out))) : w.heap.size ≤ gb217)); have n9_ := Aside0.mk ((by rw [hg]; exact (below_size (by repeat (first | (with_reducible first | exact HB.out | apply below_alloc | apply pw_below_drewN | apply below_drew1 | refine below_set ?_ GE183.out | refine below_set ?_ GE192.out | refine below_set ?_ GE199.out | refine below_set ?_ GE208.out) | exact HB.out))) : w.heap.size ≤ gb217)); have n10_ := Aside0.mk ((by rw [hg]; exact Nat.ne_of_lt (blk_lt (g := gb183) (o := .cells #[.string a0_0, .string a0_1, .string a0_2, .slice A0_3 l0_3.length c0_3, .slice A0_4 l0_4.length c0_4] 31 (0, 0)) (by (with_reducible repeat (first | refine blk_drewN ?_ _ | refine blk_drew ?_ | refine blk_alloc ?_ _)); exact BK183.out)) : gb183 ≠ gb217)); have n11_ := Aside0.mk ((by rw [hg]; exact Nat.ne_of_gt (blk_lt (g := gb183) (o := .cells #[.string a0_0, .string a0_1, .string a0_2, .slice A0_3 l0_3.length c0_3, .slice A0_4 l0_4.length c0_4] 31 (0, 0)) (by (with_reducible repeat (first | refine blk_drewN ?_ _ | refine blk_drew ?_ | refine blk_alloc ?_ _)); exact BK183.out)) : gb217 ≠ gb183)); have n12_ := Aside0.mk ((by rw [hg]; exact Nat.ne_of_lt (blk_lt (g := gb192) (o := .cells #[.string t186, .string t187, .slice Ao19 t188.length co19] 25 (0, 0)) (by (with_reducible repeat (first | refine blk_drewN ?_ _ | refine blk_drew ?_ | refine blk_alloc ?_ _)); exact BK192.out)) : gb192 ≠ gb217)); have n13_ := Aside0.mk ((by rw [hg]; exact Nat.ne_of_gt (blk_lt (g := gb192) (o := .cells #[.string t186, .string t187, .slice Ao19 t188.length co19] 25 (0, 0)) (by (with_reducible repeat (first | refine blk_drewN ?_ _ | refine blk_drew ?_ | refine blk_alloc ?_ _)); exact BK192.out)) : gb217 ≠ gb192)); have n14_ := Aside0.mk ((by rw [hg]; exact Nat.ne_of_lt (blk_lt (g := gb199) (o := .cells #[.string t193, .string t194, .slice Ao27 t195.length co27] 25 (0, 0)) (by (with_reducible repeat (first | refine blk_drewN ?_ _ | refine blk_drew ?_ | refine blk_alloc ?_ _)); exact BK199.out)) : gb199 ≠ gb217)); have n15_ := Aside0.mk ((by rw [hg]; exact Nat.ne_of_gt (blk_lt (g := gb199) (o := .cells #[.string t193, .string t194, .slice Ao27 t195.length co27] 25 (0, 0)) (by (with_reducible repeat (first | refine blk_drewN ?_ _ | refine blk_drew ?_ | refine blk_alloc ?_ _)); exact BK199.out)) : gb217 ≠ gb199)); have n16_ := Aside0.mk ((by rw [hg]; exact Nat.ne_of_lt (blk_lt (g := gb208) (o := .cells #[.string t200, .string t201, .string t202, .string t203, .string t204, .bool t205, .string t206] 40 (0, 0)) (by (with_reducible repeat (first | refine blk_drewN ?_ _ | refine blk_drew ?_ | refine blk_alloc ?_ _)); exact BK208.out)) : gb208 ≠ gb217)); have n17_ := Aside0.mk ((by rw [hg]; exact Nat.ne_of_gt (blk_lt (g := gb208) (o := .cells #[.string t200, .string t201, .string t202, .string t203, .string t204, .bool t205, .string t206] 40 (0, 0)) (by (with_reducible repeat (first | refine blk_drewN ?_ _ | refine blk_drew ?_ | refine blk_alloc ?_ _)); exact BK208.out)) : gb217 ≠ gb208)); clear HO190; clear HO197; clear BK183; clear BK192; clear BK199; clear BK208; clear HB; have HO190 := n0_; have HO197 := n1_; have BK183 := n2_; have BK192 := n3_; have BK199 := n4_; have BK208 := n5_; have HB := n6_; have BK217 := n7_; have GW217 := n8_; have GE217 := n9_; have NB183_217 := n10_; have NB217_183 := n11_; have NB192_217 := n12_; have NB217_192 := n13_; have NB199_217 := n14_; have NB217_199 := n15_; have NB208_217 := n16_; have NB217_208 := n17_; clear n0_ n1_ n2_ n3_ n4_ n5_ n6_ n7_ n8_ n9_ n10_ n11_ n12_ n13_ n14_ n15_ n16_ n17_; clear hb hbox hg; have hnb38 := NB217_183.out; have hnc38 := NB183_217.out; have hnb39 := NB217_192.out; have hnc39 := NB192_217.out; have hnb40 := NB217_199.out; have hnc40 := NB199_217.out; have hnb41 := NB217_208.out; have hnc41 := NB208_217.out; obtain ⟨hcz42_0, hcz42_1, hcz42_2, hcz42_3, hcz42_4, hcz42_5, hcz42_6⟩ := cells7 BK217.out; obtain ⟨hfz42_0, hfz42_1, hfz42_2, hfz42_3, hfz42_4, hfz42_5, hfz42_6⟩ := froz7 BK217.out))
  (try simp only [Act.put, List.setIfInBounds_toArray, List.set_cons_zero, List.set_cons_succ])
  go_cut [79] (fun v79 wc => ∃ (kq : Nat) (x79_9 : Bool), v79 = .bool x79_9 ∧ Aside0 (exequaturlaw16_ClientFinds.j0 kq a1 a2 x79_9 a0_0 a0_1 a0_2 l0_3 l0_4 t186 t187 t188 t193 t194 t195 = some r) ∧ Aside0 (kq ≤ k) ∧ Aside0 (Kd.V Kd.string 9 wc w.heap.size (fun k_ => k_ ≠ gb183 ∧ k_ ≠ gb192 ∧ k_ ≠ gb199 ∧ k_ ≠ gb208 ∧ k_ ≠ gb217) (.slice Ao19 t188.length co19) t188) ∧ Aside0 (Kd.V Kd.string 9 wc w.heap.size (fun k_ => k_ ≠ gb183 ∧ k_ ≠ gb192 ∧ k_ ≠ gb199 ∧ k_ ≠ gb208 ∧ k_ ≠ gb217) (.slice Ao27 t195.length co27) t195) ∧ Aside0 (wc.heap[gb183]? = some (.cells #[.string a0_0, .string a0_1, .string a0_2, (.slice A0_3 l0_3.length c0_3), (.slice A0_4 l0_4.length c0_4)] 31 (0, 0))) ∧ Aside0 (wc.heap[gb192]? = some (.cells #[.string t186, .string t187, (.slice Ao19 t188.length co19)] 25 (0, 0))) ∧ Aside0 (wc.heap[gb199]? = some (.cells #[.string t193, .string t194, (.slice Ao27 t195.length co27)] 25 (0, 0))) ∧ Aside0 (wc.heap[gb208]? = some (.cells #[.string t200, .string t201, .string t202, .string t203, .string t204, .bool t205, .string t206] 40 (0, 0))) ∧ Aside0 (wc.heap[gb217]? = some (.cells #[.string t209, .string t210, .string t211, .string t212, .string t213, .bool t214, .string t215] 40 (0, 0))) ∧ Aside0 (Below w.heap.size w wc))
  case first =>
   have H := HC10.out
   clear HC10
   by_cases c43 : (t191 != t198) = true
   ·rw [if_pos c43] at H
    have c43b0 : (t191 != t198) = true := c43
    (try (have c43b1 : decide (t191 = t198) = false := by simpa using c43))
    (try (have c43b2 : (t191 == t198) = false := by simpa using c43))
    (try (have c43b3 : ¬ (t191 = t198) := by simpa using c43))
    clear c43
    (first | rw [c43b0] | (simp only [i64_w, i32_w]; rw [c43b0]) | skip)
    have H' := Aside0.mk H
    clear H
    go_wp2
    go_meet
    case rel => exact ⟨_, (true), (by first | rfl | (simp; done) | (simp [*]; done) | (refine congrArg Value.bool ?_; rw [Bool.eq_iff_iff]; simp; done)), H', ⟨by first | omega | exact Nat.le_refl _⟩, ⟨by (with_reducible repeat (first | apply Kd.V_alloc | apply Kd.V_drewN | apply Kd.V_drew)); exact Kd.V_mono (Kd.V_far (p := ⟨gb217, 6, none⟩) (Kd.V_far (p := ⟨gb217, 5, none⟩) (Kd.V_far (p := ⟨gb217, 4, none⟩) (Kd.V_far (p := ⟨gb217, 3, none⟩) (Kd.V_far (p := ⟨gb217, 2, none⟩) (Kd.V_far (p := ⟨gb217, 1, none⟩) (Kd.V_far (p := ⟨gb217, 0, none⟩) (Kd.V_mono HO190.out (fun k_ hk => (⟨hk, hk.2⟩ : _ ∧ k_ ≠ gb217))) (fun _ hk => hk.2) (.string t209)) (fun _ hk => hk.2) (.string t210)) (fun _ hk => hk.2) (.string t211)) (fun _ hk => hk.2) (.string t212)) (fun _ hk => hk.2) (.string t213)) (fun _ hk => hk.2) (.bool t214)) (fun _ hk => hk.2) (.string t215)) (fun _ hk => ⟨hk.1.1.1.1.1, ⟨hk.1.1.1.1.2, ⟨hk.1.1.1.2, ⟨hk.1.1.2, hk.1.2⟩⟩⟩⟩)⟩, ⟨by (with_reducible repeat (first | apply Kd.V_alloc | apply Kd.V_drewN | apply Kd.V_drew)); exact Kd.V_mono (Kd.V_far (p := ⟨gb217, 6, none⟩) (Kd.V_far (p := ⟨gb217, 5, none⟩) (Kd.V_far (p := ⟨gb217, 4, none⟩) (Kd.V_far (p := ⟨gb217, 3, none⟩) (Kd.V_far (p := ⟨gb217, 2, none⟩) (Kd.V_far (p := ⟨gb217, 1, none⟩) (Kd.V_far (p := ⟨gb217, 0, none⟩) (Kd.V_mono HO197.out (fun k_ hk => (⟨hk, hk.2⟩ : _ ∧ k_ ≠ gb217))) (fun _ hk => hk.2) (.string t209)) (fun _ hk => hk.2) (.string t210)) (fun _ hk => hk.2) (.string t211)) (fun _ hk => hk.2) (.string t212)) (fun _ hk => hk.2) (.string t213)) (fun _ hk => hk.2) (.bool t214)) (fun _ hk => hk.2) (.string t215)) (fun _ hk => ⟨hk.1.1.1.1.1, ⟨hk.1.1.1.1.2, ⟨hk.1.1.1.2, ⟨hk.1.1.2, hk.1.2⟩⟩⟩⟩)⟩, ⟨by (with_reducible repeat (first | refine blk_drewN ?_ _ | refine blk_drew ?_ | refine blk_alloc ?_ _)); refine blk_far (blk_far (blk_far (blk_far (blk_far (blk_far (blk_far ?_ NB183_217.out _) NB183_217.out _) NB183_217.out _) NB183_217.out _) NB183_217.out _) NB183_217.out _) NB183_217.out _; (with_reducible repeat (first | refine blk_drewN ?_ _ | refine blk_drew ?_ | refine blk_alloc ?_ _)); exact BK183.out⟩, ⟨by (with_reducible repeat (first | refine blk_drewN ?_ _ | refine blk_drew ?_ | refine blk_alloc ?_ _)); refine blk_far (blk_far (blk_far (blk_far (blk_far (blk_far (blk_far ?_ NB192_217.out _) NB192_217.out _) NB192_217.out _) NB192_217.out _) NB192_217.out _) NB192_217.out _) NB192_217.out _; (with_reducible repeat (first | refine blk_drewN ?_ _ | refine blk_drew ?_ | refine blk_alloc ?_ _)); exact BK192.out⟩, ⟨by (with_reducible repeat (first | refine blk_drewN ?_ _ | refine blk_drew ?_ | refine blk_alloc ?_ _)); refine blk_far (blk_far (blk_far (blk_far (blk_far (blk_far (blk_far ?_ NB199_217.out _) NB199_217.out _) NB199_217.out _) NB199_217.out _) NB199_217.out _) NB199_217.out _) NB199_217.out _; (with_reducible repeat (first | refine blk_drewN ?_ _ | refine blk_drew ?_ | refine blk_alloc ?_ _)); exact BK199.out⟩, ⟨by (with_reducible repeat (first | refine blk_drewN ?_ _ | refine blk_drew ?_ | refine blk_alloc ?_ _)); refine blk_far (blk_far (blk_far (blk_far (blk_far (blk_far (blk_far ?_ NB208_217.out _) NB208_217.out _) NB208_217.out _) NB208_217.out _) NB208_217.out _) NB208_217.out _) NB208_217.out _; (with_reducible repeat (first | refine blk_drewN ?_ _ | refine blk_drew ?_ | refine blk_alloc ?_ _)); exact BK208.out⟩, ⟨by (with_reducible repeat (first | refine blk_drewN ?_ _ | refine blk_drew ?_ | refine blk_alloc ?_ _)); refine fillR (cs := ?cs4_) rfl rfl ?h4_ ?l4_; (case h4_ => (with_reducible repeat (first | refine blk_drewN ?_ _ | refine blk_drew ?_ | refine blk_alloc ?_ _)); exact BK217.out); (case l4_ => rfl)⟩, ⟨by repeat (first | (with_reducible first | exact HB.out | apply below_alloc | apply pw_below_drewN | apply below_drew1 | refine below_set ?_ GE183.out | refine below_set ?_ GE192.out | refine below_set ?_ GE199.out | refine below_set ?_ GE208.out | refine below_set ?_ GE217.out) | exact HB.out)⟩⟩
   ·rw [if_neg c43] at H
    have c43b0 : (t191 != t198) = false := by simpa using c43
    (try (have c43b1 : decide (t191 = t198) = true := by simpa using c43))
    (try (have c43b2 : (t191 == t198) = true := by simpa using c43))
    clear c43
    (first | rw [c43b0] | (simp only [i64_w, i32_w]; rw [c43b0]) | skip)
    by_cases c44 : t186.toList = t193.toList
    ·rw [if_pos c44] at H
     have c44b0 : (t186.toList == t193.toList) = true := beq_iff_eq.mpr c44
     have c44b1 : (t186.toList != t193.toList) = false := bne_eq_false_iff_eq.mpr c44
     clear c44
     by_cases c45 : t187.toList = t194.toList
     ·rw [if_pos c45] at H
      have c45b0 : (t187.toList == t194.toList) = true := beq_iff_eq.mpr c45
      have c45b1 : (t187.toList != t194.toList) = false := bne_eq_false_iff_eq.mpr c45
      clear c45
      by_cases c46 : (t188.length : Int) = (t195.length : Int)
      ·rw [if_pos c46] at H
       have c46b0 : ((t188.length : Int) == (t195.length : Int)) = true := beq_iff_eq.mpr c46
       have c46b1 : ((t188.length : Int) != (t195.length : Int)) = false := bne_eq_false_iff_eq.mpr c46
       have c46b2 : (t188.length == t195.length) = true := by first | simpa using c46 | (simp at c46 ⊢; omega)
       clear c46
       by_cases c47 : (t207 != t216) = true
       ·rw [if_pos c47] at H
        have c47b0 : (t207 != t216) = true := c47
        (try (have c47b1 : decide (t207 = t216) = false := by simpa using c47))
        (try (have c47b2 : (t207 == t216) = false := by simpa using c47))
        (try (have c47b3 : ¬ (t207 = t216) := by simpa using c47))
        clear c47
        have H' := Aside0.mk H
        clear H
        have hnb48 := NB192_183.out
        have hnc48 := NB183_192.out
        have hnb49 := NB192_199.out
        have hnc49 := NB199_192.out
        have hnb50 := NB192_208.out
        have hnc50 := NB208_192.out
        have hnb51 := NB192_217.out
        have hnc51 := NB217_192.out
        have hcz52_0 : w37.cell? ⟨gb192, 0, none⟩ = some (.string t186) := (blk_cell BK192.out 0).trans rfl
        have hcz52_1 : w37.cell? ⟨gb192, 1, none⟩ = some (.string t187) := (blk_cell BK192.out 1).trans rfl
        have hcz52_2 : w37.cell? ⟨gb192, 2, none⟩ = some (.slice Ao19 t188.length co19) := (blk_cell BK192.out 2).trans rfl
        have hfz52_0 := blk_frozen BK192.out 0
        have hfz52_1 := blk_frozen BK192.out 1
        have hfz52_2 := blk_frozen BK192.out 2
        have hnb53 := NB199_183.out
        have hnc53 := NB183_199.out
        have hnb54 := NB199_208.out
        have hnc54 := NB208_199.out
        have hnb55 := NB199_217.out
        have hnc55 := NB217_199.out
        have hcz56_0 : w37.cell? ⟨gb199, 0, none⟩ = some (.string t193) := (blk_cell BK199.out 0).trans rfl
        have hcz56_1 : w37.cell? ⟨gb199, 1, none⟩ = some (.string t194) := (blk_cell BK199.out 1).trans rfl
        have hcz56_2 : w37.cell? ⟨gb199, 2, none⟩ = some (.slice Ao27 t195.length co27) := (blk_cell BK199.out 2).trans rfl
        have hfz56_0 := blk_frozen BK199.out 0
        have hfz56_1 := blk_frozen BK199.out 1
        have hfz56_2 := blk_frozen BK199.out 2
        go_wp2
        go_meet
        case rel => exact ⟨_, (true), (by first | rfl | (simp; done) | (simp [*]; done) | (refine congrArg Value.bool ?_; rw [Bool.eq_iff_iff]; simp; done)), H', ⟨by first | omega | exact Nat.le_refl _⟩, ⟨by (with_reducible repeat (first | apply Kd.V_alloc | apply Kd.V_drewN | apply Kd.V_drew)); exact Kd.V_mono (Kd.V_far (p := ⟨gb217, 6, none⟩) (Kd.V_far (p := ⟨gb217, 5, none⟩) (Kd.V_far (p := ⟨gb217, 4, none⟩) (Kd.V_far (p := ⟨gb217, 3, none⟩) (Kd.V_far (p := ⟨gb217, 2, none⟩) (Kd.V_far (p := ⟨gb217, 1, none⟩) (Kd.V_far (p := ⟨gb217, 0, none⟩) (Kd.V_mono HO190.out (fun k_ hk => (⟨hk, hk.2⟩ : _ ∧ k_ ≠ gb217))) (fun _ hk => hk.2) (.string t209)) (fun _ hk => hk.2) (.string t210)) (fun _ hk => hk.2) (.string t211)) (fun _ hk => hk.2) (.string t212)) (fun _ hk => hk.2) (.string t213)) (fun _ hk => hk.2) (.bool t214)) (fun _ hk => hk.2) (.string t215)) (fun _ hk => ⟨hk.1.1.1.1.1, ⟨hk.1.1.1.1.2, ⟨hk.1.1.1.2, ⟨hk.1.1.2, hk.1.2⟩⟩⟩⟩)⟩, ⟨by (with_reducible repeat (first | apply Kd.V_alloc | apply Kd.V_drewN | apply Kd.V_drew)); exact Kd.V_mono (Kd.V_far (p := ⟨gb217, 6, none⟩) (Kd.V_far (p := ⟨gb217, 5, none⟩) (Kd.V_far (p := ⟨gb217, 4, none⟩) (Kd.V_far (p := ⟨gb217, 3, none⟩) (Kd.V_far (p := ⟨gb217, 2, none⟩) (Kd.V_far (p := ⟨gb217, 1, none⟩) (Kd.V_far (p := ⟨gb217, 0, none⟩) (Kd.V_mono HO197.out (fun k_ hk => (⟨hk, hk.2⟩ : _ ∧ k_ ≠ gb217))) (fun _ hk => hk.2) (.string t209)) (fun _ hk => hk.2) (.string t210)) (fun _ hk => hk.2) (.string t211)) (fun _ hk => hk.2) (.string t212)) (fun _ hk => hk.2) (.string t213)) (fun _ hk => hk.2) (.bool t214)) (fun _ hk => hk.2) (.string t215)) (fun _ hk => ⟨hk.1.1.1.1.1, ⟨hk.1.1.1.1.2, ⟨hk.1.1.1.2, ⟨hk.1.1.2, hk.1.2⟩⟩⟩⟩)⟩, ⟨by (with_reducible repeat (first | refine blk_drewN ?_ _ | refine blk_drew ?_ | refine blk_alloc ?_ _)); refine blk_far (blk_far (blk_far (blk_far (blk_far (blk_far (blk_far ?_ NB183_217.out _) NB183_217.out _) NB183_217.out _) NB183_217.out _) NB183_217.out _) NB183_217.out _) NB183_217.out _; (with_reducible repeat (first | refine blk_drewN ?_ _ | refine blk_drew ?_ | refine blk_alloc ?_ _)); exact BK183.out⟩, ⟨by (with_reducible repeat (first | refine blk_drewN ?_ _ | refine blk_drew ?_ | refine blk_alloc ?_ _)); refine blk_far (blk_far (blk_far (blk_far (blk_far (blk_far (blk_far ?_ NB192_217.out _) NB192_217.out _) NB192_217.out _) NB192_217.out _) NB192_217.out _) NB192_217.out _) NB192_217.out _; (with_reducible repeat (first | refine blk_drewN ?_ _ | refine blk_drew ?_ | refine blk_alloc ?_ _)); exact BK192.out⟩, ⟨by (with_reducible repeat (first | refine blk_drewN ?_ _ | refine blk_drew ?_ | refine blk_alloc ?_ _)); refine blk_far (blk_far (blk_far (blk_far (blk_far (blk_far (blk_far ?_ NB199_217.out _) NB199_217.out _) NB199_217.out _) NB199_217.out _) NB199_217.out _) NB199_217.out _) NB199_217.out _; (with_reducible repeat (first | refine blk_drewN ?_ _ | refine blk_drew ?_ | refine blk_alloc ?_ _)); exact BK199.out⟩, ⟨by (with_reducible repeat (first | refine blk_drewN ?_ _ | refine blk_drew ?_ | refine blk_alloc ?_ _)); refine blk_far (blk_far (blk_far (blk_far (blk_far (blk_far (blk_far ?_ NB208_217.out _) NB208_217.out _) NB208_217.out _) NB208_217.out _) NB208_217.out _) NB208_217.out _) NB208_217.out _; (with_reducible repeat (first | refine blk_drewN ?_ _ | refine blk_drew ?_ | refine blk_alloc ?_ _)); exact BK208.out⟩, ⟨by (with_reducible repeat (first | refine blk_drewN ?_ _ | refine blk_drew ?_ | refine blk_alloc ?_ _)); refine fillR (cs := ?cs5_) rfl rfl ?h5_ ?l5_; (case h5_ => (with_reducible repeat (first | refine blk_drewN ?_ _ | refine blk_drew ?_ | refine blk_alloc ?_ _)); exact BK217.out); (case l5_ => rfl)⟩, ⟨by repeat (first | (with_reducible first | exact HB.out | apply below_alloc | apply pw_below_drewN | apply below_drew1 | refine below_set ?_ GE183.out | refine below_set ?_ GE192.out | refine below_set ?_ GE199.out | refine below_set ?_ GE208.out | refine below_set ?_ GE217.out) | exact HB.out)⟩⟩
       ·rw [if_neg c47] at H
        have c47b0 : (t207 != t216) = false := by simpa using c47
        (try (have c47b1 : decide (t207 = t216) = true := by simpa using c47))
        (try (have c47b2 : (t207 == t216) = true := by simpa using c47))
        clear c47
        have H' := Aside0.mk H
        clear H
        have hnb57 := NB192_183.out
        have hnc57 := NB183_192.out
        have hnb58 := NB192_199.out
        have hnc58 := NB199_192.out
        have hnb59 := NB192_208.out
        have hnc59 := NB208_192.out
        have hnb60 := NB192_217.out
        have hnc60 := NB217_192.out
        have hcz61_0 : w37.cell? ⟨gb192, 0, none⟩ = some (.string t186) := (blk_cell BK192.out 0).trans rfl
        have hcz61_1 : w37.cell? ⟨gb192, 1, none⟩ = some (.string t187) := (blk_cell BK192.out 1).trans rfl
        have hcz61_2 : w37.cell? ⟨gb192, 2, none⟩ = some (.slice Ao19 t188.length co19) := (blk_cell BK192.out 2).trans rfl
        have hfz61_0 := blk_frozen BK192.out 0
        have hfz61_1 := blk_frozen BK192.out 1
        have hfz61_2 := blk_frozen BK192.out 2
        have hnb62 := NB199_183.out
        have hnc62 := NB183_199.out
        have hnb63 := NB199_208.out
        have hnc63 := NB208_199.out
        have hnb64 := NB199_217.out
        have hnc64 := NB217_199.out
        have hcz65_0 : w37.cell? ⟨gb199, 0, none⟩ = some (.string t193) := (blk_cell BK199.out 0).trans rfl
        have hcz65_1 : w37.cell? ⟨gb199, 1, none⟩ = some (.string t194) := (blk_cell BK199.out 1).trans rfl
        have hcz65_2 : w37.cell? ⟨gb199, 2, none⟩ = some (.slice Ao27 t195.length co27) := (blk_cell BK199.out 2).trans rfl
        have hfz65_0 := blk_frozen BK199.out 0
        have hfz65_1 := blk_frozen BK199.out 1
        have hfz65_2 := blk_frozen BK199.out 2
        have hnb66 := NB208_183.out
        have hnc66 := NB183_208.out
        have hnb67 := NB208_217.out
        have hnc67 := NB217_208.out
        obtain ⟨hcz68_0, hcz68_1, hcz68_2, hcz68_3, hcz68_4, hcz68_5, hcz68_6⟩ := cells7 BK208.out
        obtain ⟨hfz68_0, hfz68_1, hfz68_2, hfz68_3, hfz68_4, hfz68_5, hfz68_6⟩ := froz7 BK208.out
        have hnb69 := NB217_183.out
        have hnc69 := NB183_217.out
        obtain ⟨hcz70_0, hcz70_1, hcz70_2, hcz70_3, hcz70_4, hcz70_5, hcz70_6⟩ := cells7 BK217.out
        obtain ⟨hfz70_0, hfz70_1, hfz70_2, hfz70_3, hfz70_4, hfz70_5, hfz70_6⟩ := froz7 BK217.out
        go_wp2
        go_meet
        case rel => exact ⟨_, ((!(t200.toList == t209.toList) || (!(t201.toList == t210.toList) || (!(t202.toList == t211.toList) || (!(t203.toList == t212.toList) || (!(t204.toList == t213.toList) || (!(t205 == t214) || (!(t206.toList == t215.toList))))))))), (by first | rfl | (simp; done) | (simp [*]; done) | (refine congrArg Value.bool ?_; rw [Bool.eq_iff_iff]; simp; done)), H', ⟨by first | omega | exact Nat.le_refl _⟩, ⟨by (with_reducible repeat (first | apply Kd.V_alloc | apply Kd.V_drewN | apply Kd.V_drew)); exact Kd.V_mono (Kd.V_far (p := ⟨gb217, 6, none⟩) (Kd.V_far (p := ⟨gb217, 5, none⟩) (Kd.V_far (p := ⟨gb217, 4, none⟩) (Kd.V_far (p := ⟨gb217, 3, none⟩) (Kd.V_far (p := ⟨gb217, 2, none⟩) (Kd.V_far (p := ⟨gb217, 1, none⟩) (Kd.V_far (p := ⟨gb217, 0, none⟩) (Kd.V_mono HO190.out (fun k_ hk => (⟨hk, hk.2⟩ : _ ∧ k_ ≠ gb217))) (fun _ hk => hk.2) (.string t209)) (fun _ hk => hk.2) (.string t210)) (fun _ hk => hk.2) (.string t211)) (fun _ hk => hk.2) (.string t212)) (fun _ hk => hk.2) (.string t213)) (fun _ hk => hk.2) (.bool t214)) (fun _ hk => hk.2) (.string t215)) (fun _ hk => ⟨hk.1.1.1.1.1, ⟨hk.1.1.1.1.2, ⟨hk.1.1.1.2, ⟨hk.1.1.2, hk.1.2⟩⟩⟩⟩)⟩, ⟨by (with_reducible repeat (first | apply Kd.V_alloc | apply Kd.V_drewN | apply Kd.V_drew)); exact Kd.V_mono (Kd.V_far (p := ⟨gb217, 6, none⟩) (Kd.V_far (p := ⟨gb217, 5, none⟩) (Kd.V_far (p := ⟨gb217, 4, none⟩) (Kd.V_far (p := ⟨gb217, 3, none⟩) (Kd.V_far (p := ⟨gb217, 2, none⟩) (Kd.V_far (p := ⟨gb217, 1, none⟩) (Kd.V_far (p := ⟨gb217, 0, none⟩) (Kd.V_mono HO197.out (fun k_ hk => (⟨hk, hk.2⟩ : _ ∧ k_ ≠ gb217))) (fun _ hk => hk.2) (.string t209)) (fun _ hk => hk.2) (.string t210)) (fun _ hk => hk.2) (.string t211)) (fun _ hk => hk.2) (.string t212)) (fun _ hk => hk.2) (.string t213)) (fun _ hk => hk.2) (.bool t214)) (fun _ hk => hk.2) (.string t215)) (fun _ hk => ⟨hk.1.1.1.1.1, ⟨hk.1.1.1.1.2, ⟨hk.1.1.1.2, ⟨hk.1.1.2, hk.1.2⟩⟩⟩⟩)⟩, ⟨by (with_reducible repeat (first | refine blk_drewN ?_ _ | refine blk_drew ?_ | refine blk_alloc ?_ _)); refine blk_far (blk_far (blk_far (blk_far (blk_far (blk_far (blk_far ?_ NB183_217.out _) NB183_217.out _) NB183_217.out _) NB183_217.out _) NB183_217.out _) NB183_217.out _) NB183_217.out _; (with_reducible repeat (first | refine blk_drewN ?_ _ | refine blk_drew ?_ | refine blk_alloc ?_ _)); exact BK183.out⟩, ⟨by (with_reducible repeat (first | refine blk_drewN ?_ _ | refine blk_drew ?_ | refine blk_alloc ?_ _)); refine blk_far (blk_far (blk_far (blk_far (blk_far (blk_far (blk_far ?_ NB192_217.out _) NB192_217.out _) NB192_217.out _) NB192_217.out _) NB192_217.out _) NB192_217.out _) NB192_217.out _; (with_reducible repeat (first | refine blk_drewN ?_ _ | refine blk_drew ?_ | refine blk_alloc ?_ _)); exact BK192.out⟩, ⟨by (with_reducible repeat (first | refine blk_drewN ?_ _ | refine blk_drew ?_ | refine blk_alloc ?_ _)); refine blk_far (blk_far (blk_far (blk_far (blk_far (blk_far (blk_far ?_ NB199_217.out _) NB199_217.out _) NB199_217.out _) NB199_217.out _) NB199_217.out _) NB199_217.out _) NB199_217.out _; (with_reducible repeat (first | refine blk_drewN ?_ _ | refine blk_drew ?_ | refine blk_alloc ?_ _)); exact BK199.out⟩, ⟨by (with_reducible repeat (first | refine blk_drewN ?_ _ | refine blk_drew ?_ | refine blk_alloc ?_ _)); refine blk_far (blk_far (blk_far (blk_far (blk_far (blk_far (blk_far ?_ NB208_217.out _) NB208_217.out _) NB208_217.out _) NB208_217.out _) NB208_217.out _) NB208_217.out _) NB208_217.out _; (with_reducible repeat (first | refine blk_drewN ?_ _ | refine blk_drew ?_ | refine blk_alloc ?_ _)); exact BK208.out⟩, ⟨by (with_reducible repeat (first | refine blk_drewN ?_ _ | refine blk_drew ?_ | refine blk_alloc ?_ _)); refine fillR (cs := ?cs6_) rfl rfl ?h6_ ?l6_; (case h6_ => (with_reducible repeat (first | refine blk_drewN ?_ _ | refine blk_drew ?_ | refine blk_alloc ?_ _)); exact BK217.out); (case l6_ => rfl)⟩, ⟨by repeat (first | (with_reducible first | exact HB.out | apply below_alloc | apply pw_below_drewN | apply below_drew1 | refine below_set ?_ GE183.out | refine below_set ?_ GE192.out | refine below_set ?_ GE199.out | refine below_set ?_ GE208.out | refine below_set ?_ GE217.out) | exact HB.out)⟩⟩
      ·rw [if_neg c46] at H
       have c46b0 : ((t188.length : Int) == (t195.length : Int)) = false := beq_eq_false_iff_ne.mpr c46
       have c46b1 : ((t188.length : Int) != (t195.length : Int)) = true := bne_iff_ne.mpr c46
       have c46b2 : (t188.length == t195.length) = false := by first | simpa using c46 | (simp at c46 ⊢; omega)
       have H' := Aside0.mk H
       clear H
       have hnb71 := NB192_183.out
       have hnc71 := NB183_192.out
       have hnb72 := NB192_199.out
       have hnc72 := NB199_192.out
       have hnb73 := NB192_208.out
       have hnc73 := NB208_192.out
       have hnb74 := NB192_217.out
       have hnc74 := NB217_192.out
       have hcz75_0 : w37.cell? ⟨gb192, 0, none⟩ = some (.string t186) := (blk_cell BK192.out 0).trans rfl
       have hcz75_1 : w37.cell? ⟨gb192, 1, none⟩ = some (.string t187) := (blk_cell BK192.out 1).trans rfl
       have hcz75_2 : w37.cell? ⟨gb192, 2, none⟩ = some (.slice Ao19 t188.length co19) := (blk_cell BK192.out 2).trans rfl
       have hfz75_0 := blk_frozen BK192.out 0
       have hfz75_1 := blk_frozen BK192.out 1
       have hfz75_2 := blk_frozen BK192.out 2
       have hnb76 := NB199_183.out
       have hnc76 := NB183_199.out
       have hnb77 := NB199_208.out
       have hnc77 := NB208_199.out
       have hnb78 := NB199_217.out
       have hnc78 := NB217_199.out
       have hcz79_0 : w37.cell? ⟨gb199, 0, none⟩ = some (.string t193) := (blk_cell BK199.out 0).trans rfl
       have hcz79_1 : w37.cell? ⟨gb199, 1, none⟩ = some (.string t194) := (blk_cell BK199.out 1).trans rfl
       have hcz79_2 : w37.cell? ⟨gb199, 2, none⟩ = some (.slice Ao27 t195.length co27) := (blk_cell BK199.out 2).trans rfl
       have hfz79_0 := blk_frozen BK199.out 0
       have hfz79_1 := blk_frozen BK199.out 1
       have hfz79_2 := blk_frozen BK199.out 2
       go_wp2
       go_meet
       case rel => exact ⟨_, (true), (by first | rfl | (simp; done) | (simp [*]; done) | (refine congrArg Value.bool ?_; rw [Bool.eq_iff_iff]; simp; done)), H', ⟨by first | omega | exact Nat.le_refl _⟩, ⟨by (with_reducible repeat (first | apply Kd.V_alloc | apply Kd.V_drewN | apply Kd.V_drew)); exact Kd.V_mono (Kd.V_far (p := ⟨gb217, 6, none⟩) (Kd.V_far (p := ⟨gb217, 5, none⟩) (Kd.V_far (p := ⟨gb217, 4, none⟩) (Kd.V_far (p := ⟨gb217, 3, none⟩) (Kd.V_far (p := ⟨gb217, 2, none⟩) (Kd.V_far (p := ⟨gb217, 1, none⟩) (Kd.V_far (p := ⟨gb217, 0, none⟩) (Kd.V_mono HO190.out (fun k_ hk => (⟨hk, hk.2⟩ : _ ∧ k_ ≠ gb217))) (fun _ hk => hk.2) (.string t209)) (fun _ hk => hk.2) (.string t210)) (fun _ hk => hk.2) (.string t211)) (fun _ hk => hk.2) (.string t212)) (fun _ hk => hk.2) (.string t213)) (fun _ hk => hk.2) (.bool t214)) (fun _ hk => hk.2) (.string t215)) (fun _ hk => ⟨hk.1.1.1.1.1, ⟨hk.1.1.1.1.2, ⟨hk.1.1.1.2, ⟨hk.1.1.2, hk.1.2⟩⟩⟩⟩)⟩, ⟨by (with_reducible repeat (first | apply Kd.V_alloc | apply Kd.V_drewN | apply Kd.V_drew)); exact Kd.V_mono (Kd.V_far (p := ⟨gb217, 6, none⟩) (Kd.V_far (p := ⟨gb217, 5, none⟩) (Kd.V_far (p := ⟨gb217, 4, none⟩) (Kd.V_far (p := ⟨gb217, 3, none⟩) (Kd.V_far (p := ⟨gb217, 2, none⟩) (Kd.V_far (p := ⟨gb217, 1, none⟩) (Kd.V_far (p := ⟨gb217, 0, none⟩) (Kd.V_mono HO197.out (fun k_ hk => (⟨hk, hk.2⟩ : _ ∧ k_ ≠ gb217))) (fun _ hk => hk.2) (.string t209)) (fun _ hk => hk.2) (.string t210)) (fun _ hk => hk.2) (.string t211)) (fun _ hk => hk.2) (.string t212)) (fun _ hk => hk.2) (.string t213)) (fun _ hk => hk.2) (.bool t214)) (fun _ hk => hk.2) (.string t215)) (fun _ hk => ⟨hk.1.1.1.1.1, ⟨hk.1.1.1.1.2, ⟨hk.1.1.1.2, ⟨hk.1.1.2, hk.1.2⟩⟩⟩⟩)⟩, ⟨by (with_reducible repeat (first | refine blk_drewN ?_ _ | refine blk_drew ?_ | refine blk_alloc ?_ _)); refine blk_far (blk_far (blk_far (blk_far (blk_far (blk_far (blk_far ?_ NB183_217.out _) NB183_217.out _) NB183_217.out _) NB183_217.out _) NB183_217.out _) NB183_217.out _) NB183_217.out _; (with_reducible repeat (first | refine blk_drewN ?_ _ | refine blk_drew ?_ | refine blk_alloc ?_ _)); exact BK183.out⟩, ⟨by (with_reducible repeat (first | refine blk_drewN ?_ _ | refine blk_drew ?_ | refine blk_alloc ?_ _)); refine blk_far (blk_far (blk_far (blk_far (blk_far (blk_far (blk_far ?_ NB192_217.out _) NB192_217.out _) NB192_217.out _) NB192_217.out _) NB192_217.out _) NB192_217.out _) NB192_217.out _; (with_reducible repeat (first | refine blk_drewN ?_ _ | refine blk_drew ?_ | refine blk_alloc ?_ _)); exact BK192.out⟩, ⟨by (with_reducible repeat (first | refine blk_drewN ?_ _ | refine blk_drew ?_ | refine blk_alloc ?_ _)); refine blk_far (blk_far (blk_far (blk_far (blk_far (blk_far (blk_far ?_ NB199_217.out _) NB199_217.out _) NB199_217.out _) NB199_217.out _) NB199_217.out _) NB199_217.out _) NB199_217.out _; (with_reducible repeat (first | refine blk_drewN ?_ _ | refine blk_drew ?_ | refine blk_alloc ?_ _)); exact BK199.out⟩, ⟨by (with_reducible repeat (first | refine blk_drewN ?_ _ | refine blk_drew ?_ | refine blk_alloc ?_ _)); refine blk_far (blk_far (blk_far (blk_far (blk_far (blk_far (blk_far ?_ NB208_217.out _) NB208_217.out _) NB208_217.out _) NB208_217.out _) NB208_217.out _) NB208_217.out _) NB208_217.out _; (with_reducible repeat (first | refine blk_drewN ?_ _ | refine blk_drew ?_ | refine blk_alloc ?_ _)); exact BK208.out⟩, ⟨by (with_reducible repeat (first | refine blk_drewN ?_ _ | refine blk_drew ?_ | refine blk_alloc ?_ _)); refine fillR (cs := ?cs7_) rfl rfl ?h7_ ?l7_; (case h7_ => (with_reducible repeat (first | refine blk_drewN ?_ _ | refine blk_drew ?_ | refine blk_alloc ?_ _)); exact BK217.out); (case l7_ => rfl)⟩, ⟨by repeat (first | (with_reducible first | exact HB.out | apply below_alloc | apply pw_below_drewN | apply below_drew1 | refine below_set ?_ GE183.out | refine below_set ?_ GE192.out | refine below_set ?_ GE199.out | refine below_set ?_ GE208.out | refine below_set ?_ GE217.out) | exact HB.out)⟩⟩
     ·rw [if_neg c45] at H
      have c45b0 : (t187.toList == t194.toList) = false := beq_eq_false_iff_ne.mpr c45
      have c45b1 : (t187.toList != t194.toList) = true := bne_iff_ne.mpr c45
      have H' := Aside0.mk H
      clear H
      have hnb80 := NB192_183.out
      have hnc80 := NB183_192.out
      have hnb81 := NB192_199.out
      have hnc81 := NB199_192.out
      have hnb82 := NB192_208.out
      have hnc82 := NB208_192.out
      have hnb83 := NB192_217.out
      have hnc83 := NB217_192.out
      have hcz84_0 : w37.cell? ⟨gb192, 0, none⟩ = some (.string t186) := (blk_cell BK192.out 0).trans rfl
      have hcz84_1 : w37.cell? ⟨gb192, 1, none⟩ = some (.string t187) := (blk_cell BK192.out 1).trans rfl
      have hcz84_2 : w37.cell? ⟨gb192, 2, none⟩ = some (.slice Ao19 t188.length co19) := (blk_cell BK192.out 2).trans rfl
      have hfz84_0 := blk_frozen BK192.out 0
      have hfz84_1 := blk_frozen BK192.out 1
      have hfz84_2 := blk_frozen BK192.out 2
      have hnb85 := NB199_183.out
      have hnc85 := NB183_199.out
      have hnb86 := NB199_208.out
      have hnc86 := NB208_199.out
      have hnb87 := NB199_217.out
      have hnc87 := NB217_199.out
      have hcz88_0 : w37.cell? ⟨gb199, 0, none⟩ = some (.string t193) := (blk_cell BK199.out 0).trans rfl
      have hcz88_1 : w37.cell? ⟨gb199, 1, none⟩ = some (.string t194) := (blk_cell BK199.out 1).trans rfl
      have hcz88_2 : w37.cell? ⟨gb199, 2, none⟩ = some (.slice Ao27 t195.length co27) := (blk_cell BK199.out 2).trans rfl
      have hfz88_0 := blk_frozen BK199.out 0
      have hfz88_1 := blk_frozen BK199.out 1
      have hfz88_2 := blk_frozen BK199.out 2
      go_wp2
      go_meet
      case rel => exact ⟨_, (true), (by first | rfl | (simp; done) | (simp [*]; done) | (refine congrArg Value.bool ?_; rw [Bool.eq_iff_iff]; simp; done)), H', ⟨by first | omega | exact Nat.le_refl _⟩, ⟨by (with_reducible repeat (first | apply Kd.V_alloc | apply Kd.V_drewN | apply Kd.V_drew)); exact Kd.V_mono (Kd.V_far (p := ⟨gb217, 6, none⟩) (Kd.V_far (p := ⟨gb217, 5, none⟩) (Kd.V_far (p := ⟨gb217, 4, none⟩) (Kd.V_far (p := ⟨gb217, 3, none⟩) (Kd.V_far (p := ⟨gb217, 2, none⟩) (Kd.V_far (p := ⟨gb217, 1, none⟩) (Kd.V_far (p := ⟨gb217, 0, none⟩) (Kd.V_mono HO190.out (fun k_ hk => (⟨hk, hk.2⟩ : _ ∧ k_ ≠ gb217))) (fun _ hk => hk.2) (.string t209)) (fun _ hk => hk.2) (.string t210)) (fun _ hk => hk.2) (.string t211)) (fun _ hk => hk.2) (.string t212)) (fun _ hk => hk.2) (.string t213)) (fun _ hk => hk.2) (.bool t214)) (fun _ hk => hk.2) (.string t215)) (fun _ hk => ⟨hk.1.1.1.1.1, ⟨hk.1.1.1.1.2, ⟨hk.1.1.1.2, ⟨hk.1.1.2, hk.1.2⟩⟩⟩⟩)⟩, ⟨by (with_reducible repeat (first | apply Kd.V_alloc | apply Kd.V_drewN | apply Kd.V_drew)); exact Kd.V_mono (Kd.V_far (p := ⟨gb217, 6, none⟩) (Kd.V_far (p := ⟨gb217, 5, none⟩) (Kd.V_far (p := ⟨gb217, 4, none⟩) (Kd.V_far (p := ⟨gb217, 3, none⟩) (Kd.V_far (p := ⟨gb217, 2, none⟩) (Kd.V_far (p := ⟨gb217, 1, none⟩) (Kd.V_far (p := ⟨gb217, 0, none⟩) (Kd.V_mono HO197.out (fun k_ hk => (⟨hk, hk.2⟩ : _ ∧ k_ ≠ gb217))) (fun _ hk => hk.2) (.string t209)) (fun _ hk => hk.2) (.string t210)) (fun _ hk => hk.2) (.string t211)) (fun _ hk => hk.2) (.string t212)) (fun _ hk => hk.2) (.string t213)) (fun _ hk => hk.2) (.bool t214)) (fun _ hk => hk.2) (.string t215)) (fun _ hk => ⟨hk.1.1.1.1.1, ⟨hk.1.1.1.1.2, ⟨hk.1.1.1.2, ⟨hk.1.1.2, hk.1.2⟩⟩⟩⟩)⟩, ⟨by (with_reducible repeat (first | refine blk_drewN ?_ _ | refine blk_drew ?_ | refine blk_alloc ?_ _)); refine blk_far (blk_far (blk_far (blk_far (blk_far (blk_far (blk_far ?_ NB183_217.out _) NB183_217.out _) NB183_217.out _) NB183_217.out _) NB183_217.out _) NB183_217.out _) NB183_217.out _; (with_reducible repeat (first | refine blk_drewN ?_ _ | refine blk_drew ?_ | refine blk_alloc ?_ _)); exact BK183.out⟩, ⟨by (with_reducible repeat (first | refine blk_drewN ?_ _ | refine blk_drew ?_ | refine blk_alloc ?_ _)); refine blk_far (blk_far (blk_far (blk_far (blk_far (blk_far (blk_far ?_ NB192_217.out _) NB192_217.out _) NB192_217.out _) NB192_217.out _) NB192_217.out _) NB192_217.out _) NB192_217.out _; (with_reducible repeat (first | refine blk_drewN ?_ _ | refine blk_drew ?_ | refine blk_alloc ?_ _)); exact BK192.out⟩, ⟨by (with_reducible repeat (first | refine blk_drewN ?_ _ | refine blk_drew ?_ | refine blk_alloc ?_ _)); refine blk_far (blk_far (blk_far (blk_far (blk_far (blk_far (blk_far ?_ NB199_217.out _) NB199_217.out _) NB199_217.out _) NB199_217.out _) NB199_217.out _) NB199_217.out _) NB199_217.out _; (with_reducible repeat (first | refine blk_drewN ?_ _ | refine blk_drew ?_ | refine blk_alloc ?_ _)); exact BK199.out⟩, ⟨by (with_reducible repeat (first | refine blk_drewN ?_ _ | refine blk_drew ?_ | refine blk_alloc ?_ _)); refine blk_far (blk_far (blk_far (blk_far (blk_far (blk_far (blk_far ?_ NB208_217.out _) NB208_217.out _) NB208_217.out _) NB208_217.out _) NB208_217.out _) NB208_217.out _) NB208_217.out _; (with_reducible repeat (first | refine blk_drewN ?_ _ | refine blk_drew ?_ | refine blk_alloc ?_ _)); exact BK208.out⟩, ⟨by (with_reducible repeat (first | refine blk_drewN ?_ _ | refine blk_drew ?_ | refine blk_alloc ?_ _)); refine fillR (cs := ?cs8_) rfl rfl ?h8_ ?l8_; (case h8_ => (with_reducible repeat (first | refine blk_drewN ?_ _ | refine blk_drew ?_ | refine blk_alloc ?_ _)); exact BK217.out); (case l8_ => rfl)⟩, ⟨by repeat (first | (with_reducible first | exact HB.out | apply below_alloc | apply pw_below_drewN | apply below_drew1 | refine below_set ?_ GE183.out | refine below_set ?_ GE192.out | refine below_set ?_ GE199.out | refine below_set ?_ GE208.out | refine below_set ?_ GE217.out) | exact HB.out)⟩⟩
    ·rw [if_neg c44] at H
     have c44b0 : (t186.toList == t193.toList) = false := beq_eq_false_iff_ne.mpr c44
     have c44b1 : (t186.toList != t193.toList) = true := bne_iff_ne.mpr c44
     have H' := Aside0.mk H
     clear H
     have hnb89 := NB192_183.out
     have hnc89 := NB183_192.out
     have hnb90 := NB192_199.out
     have hnc90 := NB199_192.out
     have hnb91 := NB192_208.out
     have hnc91 := NB208_192.out
     have hnb92 := NB192_217.out
     have hnc92 := NB217_192.out
     have hcz93_0 : w37.cell? ⟨gb192, 0, none⟩ = some (.string t186) := (blk_cell BK192.out 0).trans rfl
     have hcz93_1 : w37.cell? ⟨gb192, 1, none⟩ = some (.string t187) := (blk_cell BK192.out 1).trans rfl
     have hcz93_2 : w37.cell? ⟨gb192, 2, none⟩ = some (.slice Ao19 t188.length co19) := (blk_cell BK192.out 2).trans rfl
     have hfz93_0 := blk_frozen BK192.out 0
     have hfz93_1 := blk_frozen BK192.out 1
     have hfz93_2 := blk_frozen BK192.out 2
     have hnb94 := NB199_183.out
     have hnc94 := NB183_199.out
     have hnb95 := NB199_208.out
     have hnc95 := NB208_199.out
     have hnb96 := NB199_217.out
     have hnc96 := NB217_199.out
     have hcz97_0 : w37.cell? ⟨gb199, 0, none⟩ = some (.string t193) := (blk_cell BK199.out 0).trans rfl
     have hcz97_1 : w37.cell? ⟨gb199, 1, none⟩ = some (.string t194) := (blk_cell BK199.out 1).trans rfl
     have hcz97_2 : w37.cell? ⟨gb199, 2, none⟩ = some (.slice Ao27 t195.length co27) := (blk_cell BK199.out 2).trans rfl
     have hfz97_0 := blk_frozen BK199.out 0
     have hfz97_1 := blk_frozen BK199.out 1
     have hfz97_2 := blk_frozen BK199.out 2
     go_wp2
     go_meet
     case rel => exact ⟨_, (true), (by first | rfl | (simp; done) | (simp [*]; done) | (refine congrArg Value.bool ?_; rw [Bool.eq_iff_iff]; simp; done)), H', ⟨by first | omega | exact Nat.le_refl _⟩, ⟨by (with_reducible repeat (first | apply Kd.V_alloc | apply Kd.V_drewN | apply Kd.V_drew)); exact Kd.V_mono (Kd.V_far (p := ⟨gb217, 6, none⟩) (Kd.V_far (p := ⟨gb217, 5, none⟩) (Kd.V_far (p := ⟨gb217, 4, none⟩) (Kd.V_far (p := ⟨gb217, 3, none⟩) (Kd.V_far (p := ⟨gb217, 2, none⟩) (Kd.V_far (p := ⟨gb217, 1, none⟩) (Kd.V_far (p := ⟨gb217, 0, none⟩) (Kd.V_mono HO190.out (fun k_ hk => (⟨hk, hk.2⟩ : _ ∧ k_ ≠ gb217))) (fun _ hk => hk.2) (.string t209)) (fun _ hk => hk.2) (.string t210)) (fun _ hk => hk.2) (.string t211)) (fun _ hk => hk.2) (.string t212)) (fun _ hk => hk.2) (.string t213)) (fun _ hk => hk.2) (.bool t214)) (fun _ hk => hk.2) (.string t215)) (fun _ hk => ⟨hk.1.1.1.1.1, ⟨hk.1.1.1.1.2, ⟨hk.1.1.1.2, ⟨hk.1.1.2, hk.1.2⟩⟩⟩⟩)⟩, ⟨by (with_reducible repeat (first | apply Kd.V_alloc | apply Kd.V_drewN | apply Kd.V_drew)); exact Kd.V_mono (Kd.V_far (p := ⟨gb217, 6, none⟩) (Kd.V_far (p := ⟨gb217, 5, none⟩) (Kd.V_far (p := ⟨gb217, 4, none⟩) (Kd.V_far (p := ⟨gb217, 3, none⟩) (Kd.V_far (p := ⟨gb217, 2, none⟩) (Kd.V_far (p := ⟨gb217, 1, none⟩) (Kd.V_far (p := ⟨gb217, 0, none⟩) (Kd.V_mono HO197.out (fun k_ hk => (⟨hk, hk.2⟩ : _ ∧ k_ ≠ gb217))) (fun _ hk => hk.2) (.string t209)) (fun _ hk => hk.2) (.string t210)) (fun _ hk => hk.2) (.string t211)) (fun _ hk => hk.2) (.string t212)) (fun _ hk => hk.2) (.string t213)) (fun _ hk => hk.2) (.bool t214)) (fun _ hk => hk.2) (.string t215)) (fun _ hk => ⟨hk.1.1.1.1.1, ⟨hk.1.1.1.1.2, ⟨hk.1.1.1.2, ⟨hk.1.1.2, hk.1.2⟩⟩⟩⟩)⟩, ⟨by (with_reducible repeat (first | refine blk_drewN ?_ _ | refine blk_drew ?_ | refine blk_alloc ?_ _)); refine blk_far (blk_far (blk_far (blk_far (blk_far (blk_far (blk_far ?_ NB183_217.out _) NB183_217.out _) NB183_217.out _) NB183_217.out _) NB183_217.out _) NB183_217.out _) NB183_217.out _; (with_reducible repeat (first | refine blk_drewN ?_ _ | refine blk_drew ?_ | refine blk_alloc ?_ _)); exact BK183.out⟩, ⟨by (with_reducible repeat (first | refine blk_drewN ?_ _ | refine blk_drew ?_ | refine blk_alloc ?_ _)); refine blk_far (blk_far (blk_far (blk_far (blk_far (blk_far (blk_far ?_ NB192_217.out _) NB192_217.out _) NB192_217.out _) NB192_217.out _) NB192_217.out _) NB192_217.out _) NB192_217.out _; (with_reducible repeat (first | refine blk_drewN ?_ _ | refine blk_drew ?_ | refine blk_alloc ?_ _)); exact BK192.out⟩, ⟨by (with_reducible repeat (first | refine blk_drewN ?_ _ | refine blk_drew ?_ | refine blk_alloc ?_ _)); refine blk_far (blk_far (blk_far (blk_far (blk_far (blk_far (blk_far ?_ NB199_217.out _) NB199_217.out _) NB199_217.out _) NB199_217.out _) NB199_217.out _) NB199_217.out _) NB199_217.out _; (with_reducible repeat (first | refine blk_drewN ?_ _ | refine blk_drew ?_ | refine blk_alloc ?_ _)); exact BK199.out⟩, ⟨by (with_reducible repeat (first | refine blk_drewN ?_ _ | refine blk_drew ?_ | refine blk_alloc ?_ _)); refine blk_far (blk_far (blk_far (blk_far (blk_far (blk_far (blk_far ?_ NB208_217.out _) NB208_217.out _) NB208_217.out _) NB208_217.out _) NB208_217.out _) NB208_217.out _) NB208_217.out _; (with_reducible repeat (first | refine blk_drewN ?_ _ | refine blk_drew ?_ | refine blk_alloc ?_ _)); exact BK208.out⟩, ⟨by (with_reducible repeat (first | refine blk_drewN ?_ _ | refine blk_drew ?_ | refine blk_alloc ?_ _)); refine fillR (cs := ?cs9_) rfl rfl ?h9_ ?l9_; (case h9_ => (with_reducible repeat (first | refine blk_drewN ?_ _ | refine blk_drew ?_ | refine blk_alloc ?_ _)); exact BK217.out); (case l9_ => rfl)⟩, ⟨by repeat (first | (with_reducible first | exact HB.out | apply below_alloc | apply pw_below_drewN | apply below_drew1 | refine below_set ?_ GE183.out | refine below_set ?_ GE192.out | refine below_set ?_ GE199.out | refine below_set ?_ GE208.out | refine below_set ?_ GE217.out) | exact HB.out)⟩⟩
  case rest =>
   clear HC10; try clear c1; try clear c2; try clear p2; try clear c3; try clear c4; try clear c5; try clear c6; try clear c7; try clear c8; try clear c9; try clear c12; try clear c13; try clear c14; try clear c15; try clear c17; try clear c24; try clear c25; try clear c31; try clear c32; try clear c33; try clear c38; try clear c39; try clear c40; try clear c41; try clear c43; try clear c43b0; try clear c43b1; try clear c43b2; try clear c44; try clear c44b0; try clear c44b1; try clear c45; try clear c45b0; try clear c45b1; try clear c46; try clear c46b0; try clear c46b1; try clear c46b2; try clear c47; try clear c47b0; try clear c47b1; try clear c47b2; try clear c48; try clear c49; try clear c50; try clear c51; try clear c53; try clear c54; try clear c55; try clear c57; try clear c58; try clear c59; try clear c60; try clear c62; try clear c63; try clear c64; try clear c66; try clear c67; try clear c69; try clear c71; try clear c72; try clear c73; try clear c74; try clear c76; try clear c77; try clear c78; try clear c80; try clear c81; try clear c82; try clear c83; try clear c85; try clear c86; try clear c87; try clear c89; try clear c90; try clear c91; try clear c92; try clear c94; try clear c95; try clear c96; try clear hcz12_0; try clear hcz12_1; try clear hcz12_2; try clear hcz12_3; try clear hcz12_4; try clear hcz14_0; try clear hcz14_1; try clear hcz14_2; try clear hcz14_3; try clear hcz14_4; try clear hcz18_0; try clear hcz18_1; try clear hcz18_2; try clear hcz21_0; try clear hcz21_1; try clear hcz21_2; try clear hcz21_3; try clear hcz21_4; try clear hcz26_0; try clear hcz26_1; try clear hcz26_2; try clear hcz28_0; try clear hcz28_1; try clear hcz28_2; try clear hcz28_3; try clear hcz28_4; try clear hcz34_0; try clear hcz34_1; try clear hcz34_2; try clear hcz34_3; try clear hcz34_4; try clear hcz34_5; try clear hcz34_6; try clear hcz35_0; try clear hcz35_1; try clear hcz35_2; try clear hcz35_3; try clear hcz35_4; try clear hcz42_0; try clear hcz42_1; try clear hcz42_2; try clear hcz42_3; try clear hcz42_4; try clear hcz42_5; try clear hcz42_6; try clear hcz52_0; try clear hcz52_1; try clear hcz52_2; try clear hcz56_0; try clear hcz56_1; try clear hcz56_2; try clear hcz61_0; try clear hcz61_1; try clear hcz61_2; try clear hcz65_0; try clear hcz65_1; try clear hcz65_2; try clear hcz68_0; try clear hcz68_1; try clear hcz68_2; try clear hcz68_3; try clear hcz68_4; try clear hcz68_5; try clear hcz68_6; try clear hcz70_0; try clear hcz70_1; try clear hcz70_2; try clear hcz70_3; try clear hcz70_4; try clear hcz70_5; try clear hcz70_6; try clear hcz75_0; try clear hcz75_1; try clear hcz75_2; try clear hcz79_0; try clear hcz79_1; try clear hcz79_2; try clear hcz84_0; try clear hcz84_1; try clear hcz84_2; try clear hcz88_0; try clear hcz88_1; try clear hcz88_2; try clear hcz93_0; try clear hcz93_1; try clear hcz93_2; try clear hcz97_0; try clear hcz97_1; try clear hcz97_2; try clear hfz12_0; try clear hfz12_1; try clear hfz12_2; try clear hfz12_3; try clear hfz12_4; try clear hfz14_0; try clear hfz14_1; try clear hfz14_2; try clear hfz14_3; try clear hfz14_4; try clear hfz18_0; try clear hfz18_1; try clear hfz18_2; try clear hfz21_0; try clear hfz21_1; try clear hfz21_2; try clear hfz21_3; try clear hfz21_4; try clear hfz26_0; try clear hfz26_1; try clear hfz26_2; try clear hfz28_0; try clear hfz28_1; try clear hfz28_2; try clear hfz28_3; try clear hfz28_4; try clear hfz34_0; try clear hfz34_1; try clear hfz34_2; try clear hfz34_3; try clear hfz34_4; try clear hfz34_5; try clear hfz34_6; try clear hfz35_0; try clear hfz35_1; try clear hfz35_2; try clear hfz35_3; try clear hfz35_4; try clear hfz42_0; try clear hfz42_1; try clear hfz42_2; try clear hfz42_3; try clear hfz42_4; try clear hfz42_5; try clear hfz42_6; try clear hfz52_0; try clear hfz52_1; try clear hfz52_2; try clear hfz56_0; try clear hfz56_1; try clear hfz56_2; try clear hfz61_0; try clear hfz61_1; try clear hfz61_2; try clear hfz65_0; try clear hfz65_1; try clear hfz65_2; try clear hfz68_0; try clear hfz68_1; try clear hfz68_2; try clear hfz68_3; try clear hfz68_4; try clear hfz68_5; try clear hfz68_6; try clear hfz70_0; try clear hfz70_1; try clear hfz70_2; try clear hfz70_3; try clear hfz70_4; try clear hfz70_5; try clear hfz70_6; try clear hfz75_0; try clear hfz75_1; try clear hfz75_2; try clear hfz79_0; try clear hfz79_1; try clear hfz79_2; try clear hfz84_0; try clear hfz84_1; try clear hfz84_2; try clear hfz88_0; try clear hfz88_1; try clear hfz88_2; try clear hfz93_0; try clear hfz93_1; try clear hfz93_2; try clear hfz97_0; try clear hfz97_1; try clear hfz97_2
   obtain ⟨kq, x79_9, rfl, HA, HJ9, HO_193002, HO_200002, BK183, BK192, BK199, BK208, BK217, HB⟩ := hcut
   cases kq with
   | zero => exact absurd HA.out (by simp [exequaturlaw16_ClientFinds.j0])
   | succ kj9 =>
    have H := HA.out
    clear HA
    simp only [exequaturlaw16_ClientFinds.j0] at H
    by_cases c98 : x79_9 = true
    ·subst c98
     have H1 : (some false) = some r := by rw [if_pos rfl] at H; exact H
     clear H
     have H := H1
     clear H1
     obtain rfl := Option.some.inj H
     go_wp2
     go_ret
     first | (exact ⟨by first | rfl | (simp [errW_none, errW_some] <;> rfl) | (simp [*, errW_none, errW_some] <;> rfl), by repeat (first | (with_reducible first | exact HB.out | apply below_alloc | apply pw_below_drewN | apply below_drew1 | refine below_set ?_ GE183.out | refine below_set ?_ GE192.out | refine below_set ?_ GE199.out | refine below_set ?_ GE208.out | refine below_set ?_ GE217.out) | exact HB.out)⟩) | (focus (exfalso; simp_all; done))
     all_goals (first | (exfalso; simp_all <;> omega) | (go_ret; exact ⟨by first | rfl | (simp [errW_none, errW_some] <;> rfl) | (simp [*, errW_none, errW_some] <;> rfl), by repeat (first | (with_reducible first | exact HB.out | apply below_alloc | apply pw_below_drewN | apply below_drew1 | refine below_set ?_ GE183.out | refine below_set ?_ GE192.out | refine below_set ?_ GE199.out | refine below_set ?_ GE208.out | refine below_set ?_ GE217.out) | exact HB.out)⟩))
    ·replace c98 := Bool.eq_false_iff.mpr c98
     subst c98
     have H1 : (exequaturlaw16_ClientFinds.l0 kj9 a1 a2 0 a0_0 a0_1 a0_2 l0_3 l0_4 t186 t187 t188 t193 t194 t195) = some r := by rw [if_neg (show ¬ (false = true) by decide)] at H; exact H
     clear H
     have H := H1
     clear H1
     have H' := Aside0.mk H
     clear H
     go_wp2
     go_loopg [15] kj9 (fun kq v15 w' => ∃ (x15_2 : Int), v15 = .int .i64 x15_2 ∧ Aside0 (exequaturlaw16_ClientFinds.l0 kq a1 a2 x15_2 a0_0 a0_1 a0_2 l0_3 l0_4 t186 t187 t188 t193 t194 t195 = some r) ∧ Aside0 (kq ≤ kj9) ∧ Aside0 (Kd.V Kd.string 9 w' w.heap.size (fun k_ => k_ ≠ gb183 ∧ k_ ≠ gb192 ∧ k_ ≠ gb199 ∧ k_ ≠ gb208 ∧ k_ ≠ gb217) (.slice Ao19 t188.length co19) t188) ∧ Aside0 (Kd.V Kd.string 9 w' w.heap.size (fun k_ => k_ ≠ gb183 ∧ k_ ≠ gb192 ∧ k_ ≠ gb199 ∧ k_ ≠ gb208 ∧ k_ ≠ gb217) (.slice Ao27 t195.length co27) t195) ∧ Aside0 (w'.heap[gb183]? = some (.cells #[.string a0_0, .string a0_1, .string a0_2, (.slice A0_3 l0_3.length c0_3), (.slice A0_4 l0_4.length c0_4)] 31 (0, 0))) ∧ Aside0 (w'.heap[gb192]? = some (.cells #[.string t186, .string t187, (.slice Ao19 t188.length co19)] 25 (0, 0))) ∧ Aside0 (w'.heap[gb199]? = some (.cells #[.string t193, .string t194, (.slice Ao27 t195.length co27)] 25 (0, 0))) ∧ Aside0 (w'.heap[gb208]? = some (.cells #[.string t200, .string t201, .string t202, .string t203, .string t204, .bool t205, .string t206] 40 (0, 0))) ∧ Aside0 (w'.heap[gb217]? = some (.cells #[.string t209, .string t210, .string t211, .string t212, .string t213, .bool t214, .string t215] 40 (0, 0))) ∧ Aside0 (Below w.heap.size w w'))
     case atStart => exact ⟨(0), (by first | rfl | (simp; done) | (simp [*]; done) | (refine congrArg Value.bool ?_; rw [Bool.eq_iff_iff]; simp; done)), H', ⟨Nat.le_refl _⟩, ⟨by (with_reducible repeat (first | apply Kd.V_alloc | apply Kd.V_drewN | apply Kd.V_drew)); exact HO_193002.out⟩, ⟨by (with_reducible repeat (first | apply Kd.V_alloc | apply Kd.V_drewN | apply Kd.V_drew)); exact HO_200002.out⟩, ⟨by (with_reducible repeat (first | refine blk_drewN ?_ _ | refine blk_drew ?_ | refine blk_alloc ?_ _)); exact BK183.out⟩, ⟨by (with_reducible repeat (first | refine blk_drewN ?_ _ | refine blk_drew ?_ | refine blk_alloc ?_ _)); exact BK192.out⟩, ⟨by (with_reducible repeat (first | refine blk_drewN ?_ _ | refine blk_drew ?_ | refine blk_alloc ?_ _)); exact BK199.out⟩, ⟨by (with_reducible repeat (first | refine blk_drewN ?_ _ | refine blk_drew ?_ | refine blk_alloc ?_ _)); exact BK208.out⟩, ⟨by (with_reducible repeat (first | refine blk_drewN ?_ _ | refine blk_drew ?_ | refine blk_alloc ?_ _)); exact BK217.out⟩, ⟨by repeat (first | (with_reducible first | exact HB.out | apply below_alloc | apply pw_below_drewN | apply below_drew1 | refine below_set ?_ GE183.out | refine below_set ?_ GE192.out | refine below_set ?_ GE199.out | refine below_set ?_ GE208.out | refine below_set ?_ GE217.out) | exact HB.out)⟩⟩
     case round =>
      clear H'
      try clear c1; try clear c2; try clear p2; try clear c3; try clear c4; try clear c5; try clear c6; try clear c7; try clear c8; try clear c9; try clear c12; try clear c13; try clear c14; try clear c15; try clear c17; try clear c24; try clear c25; try clear c31; try clear c32; try clear c33; try clear c38; try clear c39; try clear c40; try clear c41; try clear c43; try clear c43b0; try clear c43b1; try clear c43b2; try clear c44; try clear c44b0; try clear c44b1; try clear c45; try clear c45b0; try clear c45b1; try clear c46; try clear c46b0; try clear c46b1; try clear c46b2; try clear c47; try clear c47b0; try clear c47b1; try clear c47b2; try clear c48; try clear c49; try clear c50; try clear c51; try clear c53; try clear c54; try clear c55; try clear c57; try clear c58; try clear c59; try clear c60; try clear c62; try clear c63; try clear c64; try clear c66; try clear c67; try clear c69; try clear c71; try clear c72; try clear c73; try clear c74; try clear c76; try clear c77; try clear c78; try clear c80; try clear c81; try clear c82; try clear c83; try clear c85; try clear c86; try clear c87; try clear c89; try clear c90; try clear c91; try clear c92; try clear c94; try clear c95; try clear c96; try clear c98; try clear hcz12_0; try clear hcz12_1; try clear hcz12_2; try clear hcz12_3; try clear hcz12_4; try clear hcz14_0; try clear hcz14_1; try clear hcz14_2; try clear hcz14_3; try clear hcz14_4; try clear hcz18_0; try clear hcz18_1; try clear hcz18_2; try clear hcz21_0; try clear hcz21_1; try clear hcz21_2; try clear hcz21_3; try clear hcz21_4; try clear hcz26_0; try clear hcz26_1; try clear hcz26_2; try clear hcz28_0; try clear hcz28_1; try clear hcz28_2; try clear hcz28_3; try clear hcz28_4; try clear hcz34_0; try clear hcz34_1; try clear hcz34_2; try clear hcz34_3; try clear hcz34_4; try clear hcz34_5; try clear hcz34_6; try clear hcz35_0; try clear hcz35_1; try clear hcz35_2; try clear hcz35_3; try clear hcz35_4; try clear hcz42_0; try clear hcz42_1; try clear hcz42_2; try clear hcz42_3; try clear hcz42_4; try clear hcz42_5; try clear hcz42_6; try clear hcz52_0; try clear hcz52_1; try clear hcz52_2; try clear hcz56_0; try clear hcz56_1; try clear hcz56_2; try clear hcz61_0; try clear hcz61_1; try clear hcz61_2; try clear hcz65_0; try clear hcz65_1; try clear hcz65_2; try clear hcz68_0; try clear hcz68_1; try clear hcz68_2; try clear hcz68_3; try clear hcz68_4; try clear hcz68_5; try clear hcz68_6; try clear hcz70_0; try clear hcz70_1; try clear hcz70_2; try clear hcz70_3; try clear hcz70_4; try clear hcz70_5; try clear hcz70_6; try clear hcz75_0; try clear hcz75_1; try clear hcz75_2; try clear hcz79_0; try clear hcz79_1; try clear hcz79_2; try clear hcz84_0; try clear hcz84_1; try clear hcz84_2; try clear hcz88_0; try clear hcz88_1; try clear hcz88_2; try clear hcz93_0; try clear hcz93_1; try clear hcz93_2; try clear hcz97_0; try clear hcz97_1; try clear hcz97_2; try clear hfz12_0; try clear hfz12_1; try clear hfz12_2; try clear hfz12_3; try clear hfz12_4; try clear hfz14_0; try clear hfz14_1; try clear hfz14_2; try clear hfz14_3; try clear hfz14_4; try clear hfz18_0; try clear hfz18_1; try clear hfz18_2; try clear hfz21_0; try clear hfz21_1; try clear hfz21_2; try clear hfz21_3; try clear hfz21_4; try clear hfz26_0; try clear hfz26_1; try clear hfz26_2; try clear hfz28_0; try clear hfz28_1; try clear hfz28_2; try clear hfz28_3; try clear hfz28_4; try clear hfz34_0; try clear hfz34_1; try clear hfz34_2; try clear hfz34_3; try clear hfz34_4; try clear hfz34_5; try clear hfz34_6; try clear hfz35_0; try clear hfz35_1; try clear hfz35_2; try clear hfz35_3; try clear hfz35_4; try clear hfz42_0; try clear hfz42_1; try clear hfz42_2; try clear hfz42_3; try clear hfz42_4; try clear hfz42_5; try clear hfz42_6; try clear hfz52_0; try clear hfz52_1; try clear hfz52_2; try clear hfz56_0; try clear hfz56_1; try clear hfz56_2; try clear hfz61_0; try clear hfz61_1; try clear hfz61_2; try clear hfz65_0; try clear hfz65_1; try clear hfz65_2; try clear hfz68_0; try clear hfz68_1; try clear hfz68_2; try clear hfz68_3; try clear hfz68_4; try clear hfz68_5; try clear hfz68_6; try clear hfz70_0; try clear hfz70_1; try clear hfz70_2; try clear hfz70_3; try clear hfz70_4; try clear hfz70_5; try clear hfz70_6; try clear hfz75_0; try clear hfz75_1; try clear hfz75_2; try clear hfz79_0; try clear hfz79_1; try clear hfz79_2; try clear hfz84_0; try clear hfz84_1; try clear hfz84_2; try clear hfz88_0; try clear hfz88_1; try clear hfz88_2; try clear hfz93_0; try clear hfz93_1; try clear hfz93_2; try clear hfz97_0; try clear hfz97_1; try clear hfz97_2; try clear p2
      obtain ⟨x15_2, rfl, HA, HK2, HO_193002, HO_200002, BK183, BK192, BK199, BK208, BK217, HB⟩ := hrel
      cases gk with
      | zero => exact absurd HA.out (by simp [exequaturlaw16_ClientFinds.l0])
      | succ k2 =>
       have H := HA.out
       clear HA
       simp only [exequaturlaw16_ClientFinds.l0] at H
       by_cases c99 : x15_2 < (t188.length : Int)
       ·rw [if_pos c99] at H
        have c99b0 : decide (x15_2 < (t188.length : Int)) = true := decide_eq_true c99
        clear c99
        by_cases c100 : 0 ≤ x15_2
        rotate_left
        ·rw [if_neg c100] at H; exact absurd H (by simp)
        rw [if_pos c100] at H
        have c100b0 : decide (0 ≤ x15_2) = true := decide_eq_true c100
        clear c100
        by_cases c101 : x15_2 < (t195.length : Int)
        rotate_left
        ·rw [if_neg c101] at H; exact absurd H (by simp)
        rw [if_pos c101] at H
        have c101b0 : decide (x15_2 < (t195.length : Int)) = true := decide_eq_true c101
        clear c101
        by_cases c102 : (rdOf ByteArray.empty t188 x15_2).toList = (rdOf ByteArray.empty t195 x15_2).toList
        ·rw [if_pos c102] at H
         have c102b0 : ((rdOf ByteArray.empty t188 x15_2).toList == (rdOf ByteArray.empty t195 x15_2).toList) = true := beq_iff_eq.mpr c102
         have c102b1 : ((rdOf ByteArray.empty t188 x15_2).toList != (rdOf ByteArray.empty t195 x15_2).toList) = false := bne_eq_false_iff_eq.mpr c102
         clear c102
         have H' := Aside0.mk H
         clear H
         have hnb103 := NB192_183.out
         have hnc103 := NB183_192.out
         have hnb104 := NB192_199.out
         have hnc104 := NB199_192.out
         have hnb105 := NB192_208.out
         have hnc105 := NB208_192.out
         have hnb106 := NB192_217.out
         have hnc106 := NB217_192.out
         have hcz107_0 : wr.cell? ⟨gb192, 0, none⟩ = some (.string t186) := (blk_cell BK192.out 0).trans rfl
         have hcz107_1 : wr.cell? ⟨gb192, 1, none⟩ = some (.string t187) := (blk_cell BK192.out 1).trans rfl
         have hcz107_2 : wr.cell? ⟨gb192, 2, none⟩ = some (.slice Ao19 t188.length co19) := (blk_cell BK192.out 2).trans rfl
         have hfz107_0 := blk_frozen BK192.out 0
         have hfz107_1 := blk_frozen BK192.out 1
         have hfz107_2 := blk_frozen BK192.out 2
         try go_wp2
         have n0_ := Aside0.mk (Kd.V_drew HO_193002.out)
         have n1_ := Aside0.mk (Kd.V_drew HO_200002.out)
         have n2_ := Aside0.mk (blk_drew BK183.out)
         have n3_ := Aside0.mk (blk_drew BK192.out)
         have n4_ := Aside0.mk (blk_drew BK199.out)
         have n5_ := Aside0.mk (blk_drew BK208.out)
         have n6_ := Aside0.mk (blk_drew BK217.out)
         have n7_ := Aside0.mk (below_drew1 HB.out)
         clear HO_193002; clear HO_200002; clear BK183; clear BK192; clear BK199; clear BK208; clear BK217; clear HB
         have HO_193002 := n0_
         have HO_200002 := n1_
         have BK183 := n2_
         have BK192 := n3_
         have BK199 := n4_
         have BK208 := n5_
         have BK217 := n6_
         have HB := n7_
         clear n0_ n1_ n2_ n3_ n4_ n5_ n6_ n7_
         have p218 : 0 ≤ (x15_2 : Int) := of_decide_eq_true (by first | (with_reducible assumption) | assumption)
         have q218 : x15_2 < (t188.length : Int) := of_decide_eq_true (by first | (with_reducible assumption) | assumption)
         obtain ⟨ad218, e218, hx218_0⟩ := Kd.at_string (Kd.V_reads' HO_193002.out).2.2 x15_2 p218 q218
         cases e218
         replace p218 := eq_true p218
         replace q218 := eq_true q218
         have p219 : 0 ≤ (x15_2 : Int) := of_decide_eq_true (by first | (with_reducible assumption) | assumption)
         have q219 : x15_2 < (t195.length : Int) := of_decide_eq_true (by first | (with_reducible assumption) | assumption)
         obtain ⟨ad219, e219, hx219_0⟩ := Kd.at_string (Kd.V_reads' HO_200002.out).2.2 x15_2 p219 q219
         cases e219
         replace p219 := eq_true p219
         replace q219 := eq_true q219
         refine start_ (n := 11) (S := fun w' => w'.cell? ⟨gb192, 0, none⟩ = some (.string t186) ∧ w'.cell? ⟨gb192, 1, none⟩ = some (.string t187) ∧ w'.cell? ⟨gb192, 2, none⟩ = some (.slice (some ad218) t188.length co19) ∧ w'.cell? ⟨gb199, 0, none⟩ = some (.string t193) ∧ w'.cell? ⟨gb199, 1, none⟩ = some (.string t194) ∧ w'.cell? ⟨gb199, 2, none⟩ = some (.slice (some ad219) t195.length co27) ∧ w'.cell? (ad218.add (x15_2).toNat) = some (.string (rdOf ByteArray.empty t188 x15_2)) ∧ w'.cell? (ad219.add (x15_2).toNat) = some (.string (rdOf ByteArray.empty t195 x15_2))) (ds := []) #[false, false, false, false, false, false, false, false, false, false, false] (by kernel_rfl) rfl rfl ⟨(blk_cell BK192.out 0).trans rfl, (blk_cell BK192.out 1).trans rfl, (blk_cell BK192.out 2).trans rfl, (blk_cell BK199.out 0).trans rfl, (blk_cell BK199.out 1).trans rfl, (blk_cell BK199.out 2).trans rfl, hx218_0, hx219_0⟩ (fun hHeld => ?_); refine with_tabW exequaturlaw16_ClientFinds.tab12 exequaturlaw16_ClientFinds.bits12 (fun HT_ HW_ => ?_)
         generalize wr.drew = w108 at HO_193002 HO_200002 BK183 BK192 BK199 BK208 BK217 HB hx218_0 hx219_0 hHeld ⊢
         refine pure_ (i := 0) (N := some 87) (v := ?_) (a' := ?_) #[true, false, false, false, false, false, false, false, false, false, false] rfl rfl (any_of HT_.out (by kernel_rfl)) (fun _ _ _ h => h) (Or.inl ⟨by rfl, ?_⟩) ?_ ?_
         rotate_left
         ·intro w'
          go_simp
          with_reducible rfl
         rotate_left
         ·simp only [Act.put, List.setIfInBounds_toArray, List.set_cons_zero, List.set_cons_succ, i64_w, i32_w]
          rfl
         refine pure_ (i := 2) (N := some 89) (v := ?_) (a' := ?_) #[true, false, true, false, false, false, false, false, false, false, false] rfl rfl (any_of HT_.out (by kernel_rfl)) (fun _ _ _ h => h) (Or.inl ⟨by rfl, ?_⟩) ?_ ?_
         rotate_left
         ·intro w'
          go_simp
          with_reducible rfl
         rotate_left
         ·simp only [Act.put, List.setIfInBounds_toArray, List.set_cons_zero, List.set_cons_succ, i64_w, i32_w]
          rfl
         refine pure_ (i := 5) (N := some 92) (v := ?_) (a' := ?_) #[true, false, true, false, false, true, false, false, false, false, false] rfl rfl (any_of HT_.out (by kernel_rfl)) (fun _ _ _ h => h) (Or.inl ⟨by rfl, ?_⟩) ?_ ?_
         rotate_left
         ·intro w'
          go_simp
          with_reducible rfl
         rotate_left
         ·simp only [Act.put, List.setIfInBounds_toArray, List.set_cons_zero, List.set_cons_succ, i64_w, i32_w]
          rfl
         refine pure_ (i := 7) (N := some 94) (v := ?_) (a' := ?_) #[true, false, true, false, false, true, false, true, false, false, false] rfl rfl (any_of HT_.out (by kernel_rfl)) (fun _ _ _ h => h) (Or.inl ⟨by rfl, ?_⟩) ?_ ?_
         rotate_left
         ·intro w'
          go_simp
          with_reducible rfl
         rotate_left
         ·simp only [Act.put, List.setIfInBounds_toArray, List.set_cons_zero, List.set_cons_succ, i64_w, i32_w]
          rfl
         refine take_ (i := 1) (N := some 88) (v := ?_) (a' := ?_) #[true, true, true, false, false, true, false, true, false, false, false] rfl rfl (take_ofW HT_.out HW_.out (by kernel_rfl)) (fun _ _ _ h => h) (Or.inl ⟨by rfl, ?_⟩) hHeld ?_ ?_
         rotate_left
         ·rintro w' ⟨s0, s1, s2, s3, s4, s5, s6, s7⟩
          go_simp
          with_reducible rfl
         rotate_left
         ·simp only [Act.put, List.setIfInBounds_toArray, List.set_cons_zero, List.set_cons_succ, i64_w, i32_w]
          rfl
         refine pure_ (i := 3) (N := some 90) (v := ?_) (a' := ?_) #[true, true, true, true, false, true, false, true, false, false, false] rfl rfl (any_of HT_.out (by kernel_rfl)) (fun _ _ _ h => h) (Or.inl ⟨by rfl, ?_⟩) ?_ ?_
         rotate_left
         ·intro w'
          go_simp
          with_reducible rfl
         rotate_left
         ·simp only [Act.put, List.setIfInBounds_toArray, List.set_cons_zero, List.set_cons_succ, i64_w, i32_w]
          rfl
         refine take_ (i := 4) (N := some 91) (v := ?_) (a' := ?_) #[true, true, true, true, true, true, false, true, false, false, false] rfl rfl (take_ofW HT_.out HW_.out (by kernel_rfl)) (fun _ _ _ h => h) (Or.inl ⟨by rfl, ?_⟩) hHeld ?_ ?_
         rotate_left
         ·rintro w' ⟨s0, s1, s2, s3, s4, s5, s6, s7⟩
          go_simp
          with_reducible rfl
         rotate_left
         ·simp only [Act.put, List.setIfInBounds_toArray, List.set_cons_zero, List.set_cons_succ, i64_w, i32_w]
          rfl
         refine take_ (i := 6) (N := some 93) (v := ?_) (a' := ?_) #[true, true, true, true, true, true, true, true, false, false, false] rfl rfl (take_ofW HT_.out HW_.out (by kernel_rfl)) (fun _ _ _ h => h) (Or.inl ⟨by rfl, ?_⟩) hHeld ?_ ?_
         rotate_left
         ·rintro w' ⟨s0, s1, s2, s3, s4, s5, s6, s7⟩
          go_simp
          with_reducible rfl
         rotate_left
         ·simp only [Act.put, List.setIfInBounds_toArray, List.set_cons_zero, List.set_cons_succ, i64_w, i32_w]
          rfl
         refine pure_ (i := 8) (N := some 95) (v := ?_) (a' := ?_) #[true, true, true, true, true, true, true, true, true, false, false] rfl rfl (any_of HT_.out (by kernel_rfl)) (fun _ _ _ h => h) (Or.inl ⟨by rfl, ?_⟩) ?_ ?_
         rotate_left
         ·intro w'
          go_simp
          with_reducible rfl
         rotate_left
         ·simp only [Act.put, List.setIfInBounds_toArray, List.set_cons_zero, List.set_cons_succ, i64_w, i32_w]
          rfl
         refine take_ (i := 9) (N := some 96) (v := ?_) (a' := ?_) #[true, true, true, true, true, true, true, true, true, true, false] rfl rfl (take_ofW HT_.out HW_.out (by kernel_rfl)) (fun _ _ _ h => h) (Or.inl ⟨by rfl, ?_⟩) hHeld ?_ ?_
         rotate_left
         ·rintro w' ⟨s0, s1, s2, s3, s4, s5, s6, s7⟩
          go_simp
          with_reducible rfl
         rotate_left
         ·simp only [Act.put, List.setIfInBounds_toArray, List.set_cons_zero, List.set_cons_succ, i64_w, i32_w]
          rfl
         refine pure_ (i := 10) (N := some 97) (v := ?_) (a' := ?_) #[true, true, true, true, true, true, true, true, true, true, true] rfl rfl (any_of HT_.out (by kernel_rfl)) (fun _ _ _ h => h) (Or.inl ⟨by rfl, ?_⟩) ?_ ?_
         rotate_left
         ·intro w'
          go_simp
          with_reducible rfl
         rotate_left
         ·simp only [Act.put, List.setIfInBounds_toArray, List.set_cons_zero, List.set_cons_succ, i64_w, i32_w]
          rfl
         refine done_ (done_of HT_.out (by kernel_rfl)) ?_
         try go_wp2
         go_roundg k2
         case measure => have := HJ9.out; have := HK2.out; omega
         case rel => exact ⟨(wrap64 (x15_2 + 1)), (by first | rfl | (simp; done) | (simp [*]; done) | (refine congrArg Value.bool ?_; rw [Bool.eq_iff_iff]; simp; done)), H', ⟨by have := HJ9.out; have := HK2.out; omega⟩, ⟨by (with_reducible repeat (first | apply Kd.V_alloc | apply Kd.V_drewN | apply Kd.V_drew)); exact HO_193002.out⟩, ⟨by (with_reducible repeat (first | apply Kd.V_alloc | apply Kd.V_drewN | apply Kd.V_drew)); exact HO_200002.out⟩, ⟨by (with_reducible repeat (first | refine blk_drewN ?_ _ | refine blk_drew ?_ | refine blk_alloc ?_ _)); exact BK183.out⟩, ⟨by (with_reducible repeat (first | refine blk_drewN ?_ _ | refine blk_drew ?_ | refine blk_alloc ?_ _)); exact BK192.out⟩, ⟨by (with_reducible repeat (first | refine blk_drewN ?_ _ | refine blk_drew ?_ | refine blk_alloc ?_ _)); exact BK199.out⟩, ⟨by (with_reducible repeat (first | refine blk_drewN ?_ _ | refine blk_drew ?_ | refine blk_alloc ?_ _)); exact BK208.out⟩, ⟨by (with_reducible repeat (first | refine blk_drewN ?_ _ | refine blk_drew ?_ | refine blk_alloc ?_ _)); exact BK217.out⟩, ⟨by repeat (first | (with_reducible first | exact HB.out | apply below_alloc | apply pw_below_drewN | apply below_drew1 | refine below_set ?_ GE183.out | refine below_set ?_ GE192.out | refine below_set ?_ GE199.out | refine below_set ?_ GE208.out | refine below_set ?_ GE217.out) | exact HB.out)⟩⟩
        ·rw [if_neg c102] at H
         have c102b0 : ((rdOf ByteArray.empty t188 x15_2).toList == (rdOf ByteArray.empty t195 x15_2).toList) = false := beq_eq_false_iff_ne.mpr c102
         have c102b1 : ((rdOf ByteArray.empty t188 x15_2).toList != (rdOf ByteArray.empty t195 x15_2).toList) = true := bne_iff_ne.mpr c102
         obtain rfl := Option.some.inj H
         have hnb109 := NB192_183.out
         have hnc109 := NB183_192.out
         have hnb110 := NB192_199.out
         have hnc110 := NB199_192.out
         have hnb111 := NB192_208.out
         have hnc111 := NB208_192.out
         have hnb112 := NB192_217.out
         have hnc112 := NB217_192.out
         have hcz113_0 : wr.cell? ⟨gb192, 0, none⟩ = some (.string t186) := (blk_cell BK192.out 0).trans rfl
         have hcz113_1 : wr.cell? ⟨gb192, 1, none⟩ = some (.string t187) := (blk_cell BK192.out 1).trans rfl
         have hcz113_2 : wr.cell? ⟨gb192, 2, none⟩ = some (.slice Ao19 t188.length co19) := (blk_cell BK192.out 2).trans rfl
         have hfz113_0 := blk_frozen BK192.out 0
         have hfz113_1 := blk_frozen BK192.out 1
         have hfz113_2 := blk_frozen BK192.out 2
         try go_wp2
         have n0_ := Aside0.mk (Kd.V_drew HO_193002.out)
         have n1_ := Aside0.mk (Kd.V_drew HO_200002.out)
         have n2_ := Aside0.mk (blk_drew BK183.out)
         have n3_ := Aside0.mk (blk_drew BK192.out)
         have n4_ := Aside0.mk (blk_drew BK199.out)
         have n5_ := Aside0.mk (blk_drew BK208.out)
         have n6_ := Aside0.mk (blk_drew BK217.out)
         have n7_ := Aside0.mk (below_drew1 HB.out)
         clear HO_193002; clear HO_200002; clear BK183; clear BK192; clear BK199; clear BK208; clear BK217; clear HB
         have HO_193002 := n0_
         have HO_200002 := n1_
         have BK183 := n2_
         have BK192 := n3_
         have BK199 := n4_
         have BK208 := n5_
         have BK217 := n6_
         have HB := n7_
         clear n0_ n1_ n2_ n3_ n4_ n5_ n6_ n7_
         have p218 : 0 ≤ (x15_2 : Int) := of_decide_eq_true (by first | (with_reducible assumption) | assumption)
         have q218 : x15_2 < (t188.length : Int) := of_decide_eq_true (by first | (with_reducible assumption) | assumption)
         obtain ⟨ad218, e218, hx218_0⟩ := Kd.at_string (Kd.V_reads' HO_193002.out).2.2 x15_2 p218 q218
         cases e218
         replace p218 := eq_true p218
         replace q218 := eq_true q218
         have p219 : 0 ≤ (x15_2 : Int) := of_decide_eq_true (by first | (with_reducible assumption) | assumption)
         have q219 : x15_2 < (t195.length : Int) := of_decide_eq_true (by first | (with_reducible assumption) | assumption)
         obtain ⟨ad219, e219, hx219_0⟩ := Kd.at_string (Kd.V_reads' HO_200002.out).2.2 x15_2 p219 q219
         cases e219
         replace p219 := eq_true p219
         replace q219 := eq_true q219
         refine start_ (n := 11) (S := fun w' => w'.cell? ⟨gb192, 0, none⟩ = some (.string t186) ∧ w'.cell? ⟨gb192, 1, none⟩ = some (.string t187) ∧ w'.cell? ⟨gb192, 2, none⟩ = some (.slice (some ad218) t188.length co19) ∧ w'.cell? ⟨gb199, 0, none⟩ = some (.string t193) ∧ w'.cell? ⟨gb199, 1, none⟩ = some (.string t194) ∧ w'.cell? ⟨gb199, 2, none⟩ = some (.slice (some ad219) t195.length co27) ∧ w'.cell? (ad218.add (x15_2).toNat) = some (.string (rdOf ByteArray.empty t188 x15_2)) ∧ w'.cell? (ad219.add (x15_2).toNat) = some (.string (rdOf ByteArray.empty t195 x15_2))) (ds := []) #[false, false, false, false, false, false, false, false, false, false, false] (by kernel_rfl) rfl rfl ⟨(blk_cell BK192.out 0).trans rfl, (blk_cell BK192.out 1).trans rfl, (blk_cell BK192.out 2).trans rfl, (blk_cell BK199.out 0).trans rfl, (blk_cell BK199.out 1).trans rfl, (blk_cell BK199.out 2).trans rfl, hx218_0, hx219_0⟩ (fun hHeld => ?_); refine with_tabW exequaturlaw16_ClientFinds.tab12 exequaturlaw16_ClientFinds.bits12 (fun HT_ HW_ => ?_)
         generalize wr.drew = w114 at HO_193002 HO_200002 BK183 BK192 BK199 BK208 BK217 HB hx218_0 hx219_0 hHeld ⊢
         refine pure_ (i := 0) (N := some 87) (v := ?_) (a' := ?_) #[true, false, false, false, false, false, false, false, false, false, false] rfl rfl (any_of HT_.out (by kernel_rfl)) (fun _ _ _ h => h) (Or.inl ⟨by rfl, ?_⟩) ?_ ?_
         rotate_left
         ·intro w'
          go_simp
          with_reducible rfl
         rotate_left
         ·simp only [Act.put, List.setIfInBounds_toArray, List.set_cons_zero, List.set_cons_succ, i64_w, i32_w]
          rfl
         refine pure_ (i := 2) (N := some 89) (v := ?_) (a' := ?_) #[true, false, true, false, false, false, false, false, false, false, false] rfl rfl (any_of HT_.out (by kernel_rfl)) (fun _ _ _ h => h) (Or.inl ⟨by rfl, ?_⟩) ?_ ?_
         rotate_left
         ·intro w'
          go_simp
          with_reducible rfl
         rotate_left
         ·simp only [Act.put, List.setIfInBounds_toArray, List.set_cons_zero, List.set_cons_succ, i64_w, i32_w]
          rfl
         refine pure_ (i := 5) (N := some 92) (v := ?_) (a' := ?_) #[true, false, true, false, false, true, false, false, false, false, false] rfl rfl (any_of HT_.out (by kernel_rfl)) (fun _ _ _ h => h) (Or.inl ⟨by rfl, ?_⟩) ?_ ?_
         rotate_left
         ·intro w'
          go_simp
          with_reducible rfl
         rotate_left
         ·simp only [Act.put, List.setIfInBounds_toArray, List.set_cons_zero, List.set_cons_succ, i64_w, i32_w]
          rfl
         refine pure_ (i := 7) (N := some 94) (v := ?_) (a' := ?_) #[true, false, true, false, false, true, false, true, false, false, false] rfl rfl (any_of HT_.out (by kernel_rfl)) (fun _ _ _ h => h) (Or.inl ⟨by rfl, ?_⟩) ?_ ?_
         rotate_left
         ·intro w'
          go_simp
          with_reducible rfl
         rotate_left
         ·simp only [Act.put, List.setIfInBounds_toArray, List.set_cons_zero, List.set_cons_succ, i64_w, i32_w]
          rfl
         refine take_ (i := 1) (N := some 88) (v := ?_) (a' := ?_) #[true, true, true, false, false, true, false, true, false, false, false] rfl rfl (take_ofW HT_.out HW_.out (by kernel_rfl)) (fun _ _ _ h => h) (Or.inl ⟨by rfl, ?_⟩) hHeld ?_ ?_
         rotate_left
         ·rintro w' ⟨s0, s1, s2, s3, s4, s5, s6, s7⟩
          go_simp
          with_reducible rfl
         rotate_left
         ·simp only [Act.put, List.setIfInBounds_toArray, List.set_cons_zero, List.set_cons_succ, i64_w, i32_w]
          rfl
         refine pure_ (i := 3) (N := some 90) (v := ?_) (a' := ?_) #[true, true, true, true, false, true, false, true, false, false, false] rfl rfl (any_of HT_.out (by kernel_rfl)) (fun _ _ _ h => h) (Or.inl ⟨by rfl, ?_⟩) ?_ ?_
         rotate_left
         ·intro w'
          go_simp
          with_reducible rfl
         rotate_left
         ·simp only [Act.put, List.setIfInBounds_toArray, List.set_cons_zero, List.set_cons_succ, i64_w, i32_w]
          rfl
         refine take_ (i := 4) (N := some 91) (v := ?_) (a' := ?_) #[true, true, true, true, true, true, false, true, false, false, false] rfl rfl (take_ofW HT_.out HW_.out (by kernel_rfl)) (fun _ _ _ h => h) (Or.inl ⟨by rfl, ?_⟩) hHeld ?_ ?_
         rotate_left
         ·rintro w' ⟨s0, s1, s2, s3, s4, s5, s6, s7⟩
          go_simp
          with_reducible rfl
         rotate_left
         ·simp only [Act.put, List.setIfInBounds_toArray, List.set_cons_zero, List.set_cons_succ, i64_w, i32_w]
          rfl
         refine take_ (i := 6) (N := some 93) (v := ?_) (a' := ?_) #[true, true, true, true, true, true, true, true, false, false, false] rfl rfl (take_ofW HT_.out HW_.out (by kernel_rfl)) (fun _ _ _ h => h) (Or.inl ⟨by rfl, ?_⟩) hHeld ?_ ?_
         rotate_left
         ·rintro w' ⟨s0, s1, s2, s3, s4, s5, s6, s7⟩
          go_simp
          with_reducible rfl
         rotate_left
         ·simp only [Act.put, List.setIfInBounds_toArray, List.set_cons_zero, List.set_cons_succ, i64_w, i32_w]
          rfl
         refine pure_ (i := 8) (N := some 95) (v := ?_) (a' := ?_) #[true, true, true, true, true, true, true, true, true, false, false] rfl rfl (any_of HT_.out (by kernel_rfl)) (fun _ _ _ h => h) (Or.inl ⟨by rfl, ?_⟩) ?_ ?_
         rotate_left
         ·intro w'
          go_simp
          with_reducible rfl
         rotate_left
         ·simp only [Act.put, List.setIfInBounds_toArray, List.set_cons_zero, List.set_cons_succ, i64_w, i32_w]
          rfl
         refine take_ (i := 9) (N := some 96) (v := ?_) (a' := ?_) #[true, true, true, true, true, true, true, true, true, true, false] rfl rfl (take_ofW HT_.out HW_.out (by kernel_rfl)) (fun _ _ _ h => h) (Or.inl ⟨by rfl, ?_⟩) hHeld ?_ ?_
         rotate_left
         ·rintro w' ⟨s0, s1, s2, s3, s4, s5, s6, s7⟩
          go_simp
          with_reducible rfl
         rotate_left
         ·simp only [Act.put, List.setIfInBounds_toArray, List.set_cons_zero, List.set_cons_succ, i64_w, i32_w]
          rfl
         refine pure_ (i := 10) (N := some 97) (v := ?_) (a' := ?_) #[true, true, true, true, true, true, true, true, true, true, true] rfl rfl (any_of HT_.out (by kernel_rfl)) (fun _ _ _ h => h) (Or.inl ⟨by rfl, ?_⟩) ?_ ?_
         rotate_left
         ·intro w'
          go_simp
          with_reducible rfl
         rotate_left
         ·simp only [Act.put, List.setIfInBounds_toArray, List.set_cons_zero, List.set_cons_succ, i64_w, i32_w]
          rfl
         refine done_ (done_of HT_.out (by kernel_rfl)) ?_
         try go_wp2
         go_ret
         first | (exact ⟨by first | rfl | (simp [errW_none, errW_some] <;> rfl) | (simp [*, errW_none, errW_some] <;> rfl), by repeat (first | (with_reducible first | exact HB.out | apply below_alloc | apply pw_below_drewN | apply below_drew1 | refine below_set ?_ GE183.out | refine below_set ?_ GE192.out | refine below_set ?_ GE199.out | refine below_set ?_ GE208.out | refine below_set ?_ GE217.out) | exact HB.out)⟩) | (focus (exfalso; simp_all; done))
         all_goals (first | (exfalso; simp_all <;> omega) | (go_ret; exact ⟨by first | rfl | (simp [errW_none, errW_some] <;> rfl) | (simp [*, errW_none, errW_some] <;> rfl), by repeat (first | (with_reducible first | exact HB.out | apply below_alloc | apply pw_below_drewN | apply below_drew1 | refine below_set ?_ GE183.out | refine below_set ?_ GE192.out | refine below_set ?_ GE199.out | refine below_set ?_ GE208.out | refine below_set ?_ GE217.out) | exact HB.out)⟩))
       ·rw [if_neg c99] at H
        have c99b0 : decide (x15_2 < (t188.length : Int)) = false := decide_eq_false c99
        clear c99
        replace H := Option.bind_eq_some_iff.mp H
        obtain ⟨t220, A1150, H⟩ := H
        replace H : (if t220 = true then ((client_Auth.f k2 a0_0 a0_1 a0_2 l0_3 l0_4 a1 a2).bind fun t221 => ((exequaturref13_Auth.f k2 a0_0 a0_1 a0_2 l0_3 l0_4 a1 a2).bind fun t222 => (some (t221 == t222)))) else (some false)) = some r := H
        have A115 := Aside0.mk A1150
        clear A1150
        by_cases c116 : t220 = true
        ·subst c116
         have H1 : ((client_Auth.f k2 a0_0 a0_1 a0_2 l0_3 l0_4 a1 a2).bind fun t221 => ((exequaturref13_Auth.f k2 a0_0 a0_1 a0_2 l0_3 l0_4 a1 a2).bind fun t222 => (some (t221 == t222)))) = some r := by rw [if_pos rfl] at H; exact H
         clear H
         have H := H1
         clear H1
         replace H := Option.bind_eq_some_iff.mp H
         obtain ⟨t221, A1170, H⟩ := H
         replace H : ((exequaturref13_Auth.f k2 a0_0 a0_1 a0_2 l0_3 l0_4 a1 a2).bind fun t222 => (some (t221 == t222))) = some r := H
         have A117 := Aside0.mk A1170
         clear A1170
         replace H := Option.bind_eq_some_iff.mp H
         obtain ⟨t222, A1180, H⟩ := H
         replace H : (some (t221 == t222)) = some r := H
         have A118 := Aside0.mk A1180
         clear A1180
         obtain rfl := Option.some.inj H
         have hnb119 := NB192_183.out
         have hnc119 := NB183_192.out
         have hnb120 := NB192_199.out
         have hnc120 := NB199_192.out
         have hnb121 := NB192_208.out
         have hnc121 := NB208_192.out
         have hnb122 := NB192_217.out
         have hnc122 := NB217_192.out
         have hcz123_0 : wr.cell? ⟨gb192, 0, none⟩ = some (.string t186) := (blk_cell BK192.out 0).trans rfl
         have hcz123_1 : wr.cell? ⟨gb192, 1, none⟩ = some (.string t187) := (blk_cell BK192.out 1).trans rfl
         have hcz123_2 : wr.cell? ⟨gb192, 2, none⟩ = some (.slice Ao19 t188.length co19) := (blk_cell BK192.out 2).trans rfl
         have hfz123_0 := blk_frozen BK192.out 0
         have hfz123_1 := blk_frozen BK192.out 1
         have hfz123_2 := blk_frozen BK192.out 2
         try go_wp2
         have n0_ := Aside0.mk (Kd.V_drew HO_193002.out)
         have n1_ := Aside0.mk (Kd.V_drew HO_200002.out)
         have n2_ := Aside0.mk (blk_drew BK183.out)
         have n3_ := Aside0.mk (blk_drew BK192.out)
         have n4_ := Aside0.mk (blk_drew BK199.out)
         have n5_ := Aside0.mk (blk_drew BK208.out)
         have n6_ := Aside0.mk (blk_drew BK217.out)
         have n7_ := Aside0.mk (below_drew1 HB.out)
         clear HO_193002; clear HO_200002; clear BK183; clear BK192; clear BK199; clear BK208; clear BK217; clear HB
         have HO_193002 := n0_
         have HO_200002 := n1_
         have BK183 := n2_
         have BK192 := n3_
         have BK199 := n4_
         have BK208 := n5_
         have BK217 := n6_
         have HB := n7_
         clear n0_ n1_ n2_ n3_ n4_ n5_ n6_ n7_
         refine start_ (n := 13) (S := fun w' => w'.cell? ⟨gb183, 0, none⟩ = some (.string a0_0) ∧ w'.cell? ⟨gb183, 1, none⟩ = some (.string a0_1) ∧ w'.cell? ⟨gb183, 2, none⟩ = some (.string a0_2) ∧ w'.cell? ⟨gb183, 3, none⟩ = some (.slice A0_3 l0_3.length c0_3) ∧ w'.cell? ⟨gb183, 4, none⟩ = some (.slice A0_4 l0_4.length c0_4)) (ds := []) #[false, false, false, false, false, false, false, false, false, false, false, false, false] (by kernel_rfl) rfl rfl ⟨(blk_cell BK183.out 0).trans rfl, (blk_cell BK183.out 1).trans rfl, (blk_cell BK183.out 2).trans rfl, (blk_cell BK183.out 3).trans rfl, (blk_cell BK183.out 4).trans rfl⟩ (fun hHeld => ?_); refine with_tabW exequaturlaw16_ClientFinds.tab14 exequaturlaw16_ClientFinds.bits14 (fun HT_ HW_ => ?_)
         generalize wr.drew = w124 at HO_193002 HO_200002 BK183 BK192 BK199 BK208 BK217 HB hHeld ⊢
         refine one_ (i := 0) (N := some 98) #[true, false, false, false, false, false, false, false, false, false, false, false, false] rfl rfl (one_of HT_.out (by kernel_rfl)) (by decide) (fun K hK => ?_)
         refine goes_ Tryd.func7 (by kernel_rfl) rfl #[] (by rfl) rfl rfl (by (try simp only [List.map_toArray, List.map_cons, List.map_nil]); first | done | rfl | (simp only [List.length_drop, List.length_take]; rfl)) ?_
         with_reducible refine (exequaturlaw16_answers.calls  true _ A115.out (hG := GOK.below hG (by repeat (first | (with_reducible first | exact HB.out | apply below_alloc | apply pw_below_drewN | apply below_drew1 | refine below_set ?_ GE183.out | refine below_set ?_ GE192.out | refine below_set ?_ GE199.out | refine below_set ?_ GE208.out | refine below_set ?_ GE217.out) | exact HB.out)))).mono ?_
         rintro e w125 ⟨rfl, hb⟩
         refine ⟨_, rfl, ?_⟩
         have n0_ := Aside0.mk (Kd.V_below (by (with_reducible repeat (first | apply Kd.V_alloc | apply Kd.V_drewN | apply Kd.V_drew)); exact HO_193002.out) hb)
         have n1_ := Aside0.mk (Kd.V_below (by (with_reducible repeat (first | apply Kd.V_alloc | apply Kd.V_drewN | apply Kd.V_drew)); exact HO_200002.out) hb)
         have n2_ := Aside0.mk (blk_belowB BK183.out (by (with_reducible repeat (first | refine blk_drewN ?_ _ | refine blk_drew ?_ | refine blk_alloc ?_ _)); exact BK183.out) hb)
         have n3_ := Aside0.mk (blk_belowB BK192.out (by (with_reducible repeat (first | refine blk_drewN ?_ _ | refine blk_drew ?_ | refine blk_alloc ?_ _)); exact BK192.out) hb)
         have n4_ := Aside0.mk (blk_belowB BK199.out (by (with_reducible repeat (first | refine blk_drewN ?_ _ | refine blk_drew ?_ | refine blk_alloc ?_ _)); exact BK199.out) hb)
         have n5_ := Aside0.mk (blk_belowB BK208.out (by (with_reducible repeat (first | refine blk_drewN ?_ _ | refine blk_drew ?_ | refine blk_alloc ?_ _)); exact BK208.out) hb)
         have n6_ := Aside0.mk (blk_belowB BK217.out (by (with_reducible repeat (first | refine blk_drewN ?_ _ | refine blk_drew ?_ | refine blk_alloc ?_ _)); exact BK217.out) hb)
         have n7_ := Aside0.mk (below_step (by repeat (first | (with_reducible first | exact HB.out | apply below_alloc | apply pw_below_drewN | apply below_drew1 | refine below_set ?_ GE183.out | refine below_set ?_ GE192.out | refine below_set ?_ GE199.out | refine below_set ?_ GE208.out | refine below_set ?_ GE217.out) | exact HB.out)) hb)
         clear HO_193002; clear HO_200002; clear BK183; clear BK192; clear BK199; clear BK208; clear BK217; clear HB
         have HO_193002 := n0_
         have HO_200002 := n1_
         have BK183 := n2_
         have BK192 := n3_
         have BK199 := n4_
         have BK208 := n5_
         have BK217 := n6_
         have HB := n7_
         clear n0_ n1_ n2_ n3_ n4_ n5_ n6_ n7_; (try clear hb); (try clear hb2); (try clear hk); (try clear hi)
         refine hK.out _ _ ⟨(blk_cell BK183.out 0).trans rfl, (blk_cell BK183.out 1).trans rfl, (blk_cell BK183.out 2).trans rfl, (blk_cell BK183.out 3).trans rfl, (blk_cell BK183.out 4).trans rfl⟩ (fun hHeld => ?_)
         clear hK K
         refine norm_ (a' := ?_) ?_ ?_
         rotate_left
         ·show Act.put _ (some 98) _ = _
          simp only [Act.put, List.setIfInBounds_toArray, List.set_cons_zero, List.set_cons_succ, i64_w, i32_w]
          rfl
         refine pure_ (i := 1) (N := some 99) (v := ?_) (a' := ?_) #[true, true, false, false, false, false, false, false, false, false, false, false, false] rfl rfl (any_of HT_.out (by kernel_rfl)) (fun _ _ _ h => h) (Or.inl ⟨by rfl, ?_⟩) ?_ ?_
         rotate_left
         ·intro w'
          go_simp
          with_reducible rfl
         rotate_left
         ·simp only [Act.put, List.setIfInBounds_toArray, List.set_cons_zero, List.set_cons_succ, i64_w, i32_w]
          rfl
         refine pure_ (i := 3) (N := some 101) (v := ?_) (a' := ?_) #[true, true, false, true, false, false, false, false, false, false, false, false, false] rfl rfl (any_of HT_.out (by kernel_rfl)) (fun _ _ _ h => h) (Or.inl ⟨by rfl, ?_⟩) ?_ ?_
         rotate_left
         ·intro w'
          go_simp
          with_reducible rfl
         rotate_left
         ·simp only [Act.put, List.setIfInBounds_toArray, List.set_cons_zero, List.set_cons_succ, i64_w, i32_w]
          rfl
         refine pure_ (i := 4) (N := some 102) (v := ?_) (a' := ?_) #[true, true, false, true, true, false, false, false, false, false, false, false, false] rfl rfl (any_of HT_.out (by kernel_rfl)) (fun _ _ _ h => h) (Or.inl ⟨by rfl, ?_⟩) ?_ ?_
         rotate_left
         ·intro w'
          go_simp
          with_reducible rfl
         rotate_left
         ·simp only [Act.put, List.setIfInBounds_toArray, List.set_cons_zero, List.set_cons_succ, i64_w, i32_w]
          rfl
         refine pure_ (i := 7) (N := some 105) (v := ?_) (a' := ?_) #[true, true, false, true, true, false, false, true, false, false, false, false, false] rfl rfl (any_of HT_.out (by kernel_rfl)) (fun _ _ _ h => h) (Or.inl ⟨by rfl, ?_⟩) ?_ ?_
         rotate_left
         ·intro w'
          go_simp
          with_reducible rfl
         rotate_left
         ·simp only [Act.put, List.setIfInBounds_toArray, List.set_cons_zero, List.set_cons_succ, i64_w, i32_w]
          rfl
         refine pure_ (i := 8) (N := some 106) (v := ?_) (a' := ?_) #[true, true, false, true, true, false, false, true, true, false, false, false, false] rfl rfl (any_of HT_.out (by kernel_rfl)) (fun _ _ _ h => h) (Or.inl ⟨by rfl, ?_⟩) ?_ ?_
         rotate_left
         ·intro w'
          go_simp
          with_reducible rfl
         rotate_left
         ·simp only [Act.put, List.setIfInBounds_toArray, List.set_cons_zero, List.set_cons_succ, i64_w, i32_w]
          rfl
         refine take_ (i := 2) (N := some 100) (v := ?_) (a' := ?_) #[true, true, true, true, true, false, false, true, true, false, false, false, false] rfl rfl (take_ofW HT_.out HW_.out (by kernel_rfl)) (fun _ _ _ h => h) (Or.inl ⟨by rfl, ?_⟩) hHeld ?_ ?_
         rotate_left
         ·rintro w' ⟨s0, s1, s2, s3, s4⟩
          go_simp
          with_reducible rfl
         rotate_left
         ·simp only [Act.put, List.setIfInBounds_toArray, List.set_cons_zero, List.set_cons_succ, i64_w, i32_w]
          rfl
         refine take_ (i := 6) (N := some 104) (v := ?_) (a' := ?_) #[true, true, true, true, true, false, true, true, true, false, false, false, false] rfl rfl (take_ofW HT_.out HW_.out (by kernel_rfl)) (fun _ _ _ h => h) (Or.inl ⟨by rfl, ?_⟩) hHeld ?_ ?_
         rotate_left
         ·rintro w' ⟨s0, s1, s2, s3, s4⟩
          go_simp
          with_reducible rfl
         rotate_left
         ·simp only [Act.put, List.setIfInBounds_toArray, List.set_cons_zero, List.set_cons_succ, i64_w, i32_w]
          rfl
         refine one_ (i := 5) (N := some 103) #[true, true, true, true, true, true, true, true, true, false, false, false, false] rfl rfl (one_of HT_.out (by kernel_rfl)) (by decide) (fun K hK => ?_)
         refine goes_ Tryd.func8 (by kernel_rfl) rfl #[.agg #[.string a0_0, .string a0_1, .string a0_2, .slice A0_3 l0_3.length c0_3, .slice A0_4 l0_4.length c0_4], .string a1, .string a2] (by rfl) rfl rfl (by (try simp only [List.map_toArray, List.map_cons, List.map_nil]); first | done | rfl | (simp only [List.length_drop, List.length_take]; rfl)) ?_
         with_reducible refine (client_Auth.calls k2 a0_0 a0_1 a0_2 _ _ l0_3 _ _ l0_4 a1 a2 t221 _ ?side1 ?side2 ?side3 ?side4 A117.out).mono ?_
         (case side1 => repeat (first | exact (Kd.C_below HR0_3.out HB.out) | (with_reducible refine Kd.C_alloc ?_ _) | (with_reducible refine Kd.C_drewN ?_ _) | (with_reducible refine Kd.C_drew ?_)))
         (case side2 => exact HC0_3.out)
         (case side3 => repeat (first | exact (Kd.C_below HR0_4.out HB.out) | (with_reducible refine Kd.C_alloc ?_ _) | (with_reducible refine Kd.C_drewN ?_ _) | (with_reducible refine Kd.C_drew ?_)))
         (case side4 => exact HC0_4.out)
         rintro e w126 ⟨rfl, hb⟩
         refine ⟨_, rfl, ?_⟩
         have n0_ := Aside0.mk (Kd.V_below (by (with_reducible repeat (first | apply Kd.V_alloc | apply Kd.V_drewN | apply Kd.V_drew)); exact HO_193002.out) hb)
         have n1_ := Aside0.mk (Kd.V_below (by (with_reducible repeat (first | apply Kd.V_alloc | apply Kd.V_drewN | apply Kd.V_drew)); exact HO_200002.out) hb)
         have n2_ := Aside0.mk (blk_belowB BK183.out (by (with_reducible repeat (first | refine blk_drewN ?_ _ | refine blk_drew ?_ | refine blk_alloc ?_ _)); exact BK183.out) hb)
         have n3_ := Aside0.mk (blk_belowB BK192.out (by (with_reducible repeat (first | refine blk_drewN ?_ _ | refine blk_drew ?_ | refine blk_alloc ?_ _)); exact BK192.out) hb)
         have n4_ := Aside0.mk (blk_belowB BK199.out (by (with_reducible repeat (first | refine blk_drewN ?_ _ | refine blk_drew ?_ | refine blk_alloc ?_ _)); exact BK199.out) hb)
         have n5_ := Aside0.mk (blk_belowB BK208.out (by (with_reducible repeat (first | refine blk_drewN ?_ _ | refine blk_drew ?_ | refine blk_alloc ?_ _)); exact BK208.out) hb)
         have n6_ := Aside0.mk (blk_belowB BK217.out (by (with_reducible repeat (first | refine blk_drewN ?_ _ | refine blk_drew ?_ | refine blk_alloc ?_ _)); exact BK217.out) hb)
         have n7_ := Aside0.mk (below_step (by repeat (first | (with_reducible first | exact HB.out | apply below_alloc | apply pw_below_drewN | apply below_drew1 | refine below_set ?_ GE183.out | refine below_set ?_ GE192.out | refine below_set ?_ GE199.out | refine below_set ?_ GE208.out | refine below_set ?_ GE217.out) | exact HB.out)) hb)
         clear HO_193002; clear HO_200002; clear BK183; clear BK192; clear BK199; clear BK208; clear BK217; clear HB
         have HO_193002 := n0_
         have HO_200002 := n1_
         have BK183 := n2_
         have BK192 := n3_
         have BK199 := n4_
         have BK208 := n5_
         have BK217 := n6_
         have HB := n7_
         clear n0_ n1_ n2_ n3_ n4_ n5_ n6_ n7_; (try clear hb); (try clear hb2); (try clear hk); (try clear hi)
         refine hK.out _ _ ⟨(blk_cell BK183.out 0).trans rfl, (blk_cell BK183.out 1).trans rfl, (blk_cell BK183.out 2).trans rfl, (blk_cell BK183.out 3).trans rfl, (blk_cell BK183.out 4).trans rfl⟩ (fun hHeld => ?_)
         clear hK K
         refine norm_ (a' := ?_) ?_ ?_
         rotate_left
         ·show Act.put _ (some 103) _ = _
          simp only [Act.put, List.setIfInBounds_toArray, List.set_cons_zero, List.set_cons_succ, i64_w, i32_w]
          rfl
         refine one_ (i := 9) (N := some 107) #[true, true, true, true, true, true, true, true, true, true, false, false, false] rfl rfl (one_of HT_.out (by kernel_rfl)) (by decide) (fun K hK => ?_)
         refine goes_ Tryd.func16 (by kernel_rfl) rfl #[.agg #[.string a0_0, .string a0_1, .string a0_2, .slice A0_3 l0_3.length c0_3, .slice A0_4 l0_4.length c0_4], .string a1, .string a2] (by rfl) rfl rfl (by (try simp only [List.map_toArray, List.map_cons, List.map_nil]); first | done | rfl | (simp only [List.length_drop, List.length_take]; rfl)) ?_
         with_reducible refine (exequaturref13_Auth.calls k2 a0_0 a0_1 a0_2 _ _ l0_3 _ _ l0_4 a1 a2 t222 _ ?side1 ?side2 ?side3 ?side4 A118.out).mono ?_
         (case side1 => repeat (first | exact (Kd.C_below HR0_3.out HB.out) | (with_reducible refine Kd.C_alloc ?_ _) | (with_reducible refine Kd.C_drewN ?_ _) | (with_reducible refine Kd.C_drew ?_)))
         (case side2 => exact HC0_3.out)
         (case side3 => repeat (first | exact (Kd.C_below HR0_4.out HB.out) | (with_reducible refine Kd.C_alloc ?_ _) | (with_reducible refine Kd.C_drewN ?_ _) | (with_reducible refine Kd.C_drew ?_)))
         (case side4 => exact HC0_4.out)
         rintro e w127 ⟨rfl, hb⟩
         refine ⟨_, rfl, ?_⟩
         have n0_ := Aside0.mk (Kd.V_below (by (with_reducible repeat (first | apply Kd.V_alloc | apply Kd.V_drewN | apply Kd.V_drew)); exact HO_193002.out) hb)
         have n1_ := Aside0.mk (Kd.V_below (by (with_reducible repeat (first | apply Kd.V_alloc | apply Kd.V_drewN | apply Kd.V_drew)); exact HO_200002.out) hb)
         have n2_ := Aside0.mk (blk_belowB BK183.out (by (with_reducible repeat (first | refine blk_drewN ?_ _ | refine blk_drew ?_ | refine blk_alloc ?_ _)); exact BK183.out) hb)
         have n3_ := Aside0.mk (blk_belowB BK192.out (by (with_reducible repeat (first | refine blk_drewN ?_ _ | refine blk_drew ?_ | refine blk_alloc ?_ _)); exact BK192.out) hb)
         have n4_ := Aside0.mk (blk_belowB BK199.out (by (with_reducible repeat (first | refine blk_drewN ?_ _ | refine blk_drew ?_ | refine blk_alloc ?_ _)); exact BK199.out) hb)
         have n5_ := Aside0.mk (blk_belowB BK208.out (by (with_reducible repeat (first | refine blk_drewN ?_ _ | refine blk_drew ?_ | refine blk_alloc ?_ _)); exact BK208.out) hb)
         have n6_ := Aside0.mk (blk_belowB BK217.out (by (with_reducible repeat (first | refine blk_drewN ?_ _ | refine blk_drew ?_ | refine blk_alloc ?_ _)); exact BK217.out) hb)
         have n7_ := Aside0.mk (below_step (by repeat (first | (with_reducible first | exact HB.out | apply below_alloc | apply pw_below_drewN | apply below_drew1 | refine below_set ?_ GE183.out | refine below_set ?_ GE192.out | refine below_set ?_ GE199.out | refine below_set ?_ GE208.out | refine below_set ?_ GE217.out) | exact HB.out)) hb)
         clear HO_193002; clear HO_200002; clear BK183; clear BK192; clear BK199; clear BK208; clear BK217; clear HB
         have HO_193002 := n0_
         have HO_200002 := n1_
         have BK183 := n2_
         have BK192 := n3_
         have BK199 := n4_
         have BK208 := n5_
         have BK217 := n6_
         have HB := n7_
         clear n0_ n1_ n2_ n3_ n4_ n5_ n6_ n7_; (try clear hb); (try clear hb2); (try clear hk); (try clear hi)
         refine hK.out _ _ ⟨(blk_cell BK183.out 0).trans rfl, (blk_cell BK183.out 1).trans rfl, (blk_cell BK183.out 2).trans rfl, (blk_cell BK183.out 3).trans rfl, (blk_cell BK183.out 4).trans rfl⟩ (fun hHeld => ?_)
         clear hK K
         refine norm_ (a' := ?_) ?_ ?_
         rotate_left
         ·show Act.put _ (some 107) _ = _
          simp only [Act.put, List.setIfInBounds_toArray, List.set_cons_zero, List.set_cons_succ, i64_w, i32_w]
          rfl
         refine pure_ (i := 10) (N := some 108) (v := ?_) (a' := ?_) #[true, true, true, true, true, true, true, true, true, true, true, false, false] rfl rfl (any_of HT_.out (by kernel_rfl)) (fun _ _ _ h => h) (Or.inl ⟨by rfl, ?_⟩) ?_ ?_
         rotate_left
         ·intro w'
          go_simp
          with_reducible rfl
         rotate_left
         ·simp only [Act.put, List.setIfInBounds_toArray, List.set_cons_zero, List.set_cons_succ, i64_w, i32_w]
          rfl
         refine pure_ (i := 11) (N := some 109) (v := ?_) (a' := ?_) #[true, true, true, true, true, true, true, true, true, true, true, true, false] rfl rfl (any_of HT_.out (by kernel_rfl)) (fun _ _ _ h => h) (Or.inl ⟨by rfl, ?_⟩) ?_ ?_
         rotate_left
         ·intro w'
          go_simp
          with_reducible rfl
         rotate_left
         ·simp only [Act.put, List.setIfInBounds_toArray, List.set_cons_zero, List.set_cons_succ, i64_w, i32_w]
          rfl
         refine pure_ (i := 12) (N := some 6) (v := ?_) (a' := ?_) #[true, true, true, true, true, true, true, true, true, true, true, true, true] rfl rfl (any_of HT_.out (by kernel_rfl)) (fun _ _ _ h => h) (Or.inl ⟨by rfl, ?_⟩) ?_ ?_
         rotate_left
         ·intro w'
          go_simp
          with_reducible rfl
         rotate_left
         ·simp only [Act.put, List.setIfInBounds_toArray, List.set_cons_zero, List.set_cons_succ, i64_w, i32_w]
          rfl
         refine done_ (done_of HT_.out (by kernel_rfl)) ?_
         try go_wp2
         go_ret
         first | (exact ⟨by first | rfl | (simp [errW_none, errW_some] <;> rfl) | (simp [*, errW_none, errW_some] <;> rfl), by repeat (first | (with_reducible first | exact HB.out | apply below_alloc | apply pw_below_drewN | apply below_drew1 | refine below_set ?_ GE183.out | refine below_set ?_ GE192.out | refine below_set ?_ GE199.out | refine below_set ?_ GE208.out | refine below_set ?_ GE217.out) | exact HB.out)⟩) | (focus (exfalso; simp_all; done))
         all_goals (first | (exfalso; simp_all <;> omega) | (go_ret; exact ⟨by first | rfl | (simp [errW_none, errW_some] <;> rfl) | (simp [*, errW_none, errW_some] <;> rfl), by repeat (first | (with_reducible first | exact HB.out | apply below_alloc | apply pw_below_drewN | apply below_drew1 | refine below_set ?_ GE183.out | refine below_set ?_ GE192.out | refine below_set ?_ GE199.out | refine below_set ?_ GE208.out | refine below_set ?_ GE217.out) | exact HB.out)⟩))
        ·replace c116 := Bool.eq_false_iff.mpr c116
         subst c116
         have H1 : (some false) = some r := by rw [if_neg (show ¬ (false = true) by decide)] at H; exact H
         clear H
         have H := H1
         clear H1
         obtain rfl := Option.some.inj H
         have hnb128 := NB192_183.out
         have hnc128 := NB183_192.out
         have hnb129 := NB192_199.out
         have hnc129 := NB199_192.out
         have hnb130 := NB192_208.out
         have hnc130 := NB208_192.out
         have hnb131 := NB192_217.out
         have hnc131 := NB217_192.out
         have hcz132_0 : wr.cell? ⟨gb192, 0, none⟩ = some (.string t186) := (blk_cell BK192.out 0).trans rfl
         have hcz132_1 : wr.cell? ⟨gb192, 1, none⟩ = some (.string t187) := (blk_cell BK192.out 1).trans rfl
         have hcz132_2 : wr.cell? ⟨gb192, 2, none⟩ = some (.slice Ao19 t188.length co19) := (blk_cell BK192.out 2).trans rfl
         have hfz132_0 := blk_frozen BK192.out 0
         have hfz132_1 := blk_frozen BK192.out 1
         have hfz132_2 := blk_frozen BK192.out 2
         try go_wp2
         have n0_ := Aside0.mk (Kd.V_drew HO_193002.out)
         have n1_ := Aside0.mk (Kd.V_drew HO_200002.out)
         have n2_ := Aside0.mk (blk_drew BK183.out)
         have n3_ := Aside0.mk (blk_drew BK192.out)
         have n4_ := Aside0.mk (blk_drew BK199.out)
         have n5_ := Aside0.mk (blk_drew BK208.out)
         have n6_ := Aside0.mk (blk_drew BK217.out)
         have n7_ := Aside0.mk (below_drew1 HB.out)
         clear HO_193002; clear HO_200002; clear BK183; clear BK192; clear BK199; clear BK208; clear BK217; clear HB
         have HO_193002 := n0_
         have HO_200002 := n1_
         have BK183 := n2_
         have BK192 := n3_
         have BK199 := n4_
         have BK208 := n5_
         have BK217 := n6_
         have HB := n7_
         clear n0_ n1_ n2_ n3_ n4_ n5_ n6_ n7_
         refine start_ (n := 13) (S := fun w' => True) (ds := []) #[false, false, false, false, false, false, false, false, false, false, false, false, false] (by kernel_rfl) rfl rfl trivial (fun hHeld => ?_); refine with_tabW exequaturlaw16_ClientFinds.tab14 exequaturlaw16_ClientFinds.bits14 (fun HT_ HW_ => ?_)
         generalize wr.drew = w133 at HO_193002 HO_200002 BK183 BK192 BK199 BK208 BK217 HB hHeld ⊢
         refine one_ (i := 0) (N := some 98) #[true, false, false, false, false, false, false, false, false, false, false, false, false] rfl rfl (one_of HT_.out (by kernel_rfl)) (by decide) (fun K hK => ?_)
         refine goes_ Tryd.func7 (by kernel_rfl) rfl #[] (by rfl) rfl rfl (by (try simp only [List.map_toArray, List.map_cons, List.map_nil]); first | done | rfl | (simp only [List.length_drop, List.length_take]; rfl)) ?_
         with_reducible refine (exequaturlaw16_answers.calls  false _ A115.out (hG := GOK.below hG (by repeat (first | (with_reducible first | exact HB.out | apply below_alloc | apply pw_below_drewN | apply below_drew1 | refine below_set ?_ GE183.out | refine below_set ?_ GE192.out | refine below_set ?_ GE199.out | refine below_set ?_ GE208.out | refine below_set ?_ GE217.out) | exact HB.out)))).mono ?_
         rintro e w134 ⟨rfl, hb⟩
         refine ⟨_, rfl, ?_⟩
         have n0_ := Aside0.mk (Kd.V_below (by (with_reducible repeat (first | apply Kd.V_alloc | apply Kd.V_drewN | apply Kd.V_drew)); exact HO_193002.out) hb)
         have n1_ := Aside0.mk (Kd.V_below (by (with_reducible repeat (first | apply Kd.V_alloc | apply Kd.V_drewN | apply Kd.V_drew)); exact HO_200002.out) hb)
         have n2_ := Aside0.mk (blk_belowB BK183.out (by (with_reducible repeat (first | refine blk_drewN ?_ _ | refine blk_drew ?_ | refine blk_alloc ?_ _)); exact BK183.out) hb)
         have n3_ := Aside0.mk (blk_belowB BK192.out (by (with_reducible repeat (first | refine blk_drewN ?_ _ | refine blk_drew ?_ | refine blk_alloc ?_ _)); exact BK192.out) hb)
         have n4_ := Aside0.mk (blk_belowB BK199.out (by (with_reducible repeat (first | refine blk_drewN ?_ _ | refine blk_drew ?_ | refine blk_alloc ?_ _)); exact BK199.out) hb)
         have n5_ := Aside0.mk (blk_belowB BK208.out (by (with_reducible repeat (first | refine blk_drewN ?_ _ | refine blk_drew ?_ | refine blk_alloc ?_ _)); exact BK208.out) hb)
         have n6_ := Aside0.mk (blk_belowB BK217.out (by (with_reducible repeat (first | refine blk_drewN ?_ _ | refine blk_drew ?_ | refine blk_alloc ?_ _)); exact BK217.out) hb)
         have n7_ := Aside0.mk (below_step (by repeat (first | (with_reducible first | exact HB.out | apply below_alloc | apply pw_below_drewN | apply below_drew1 | refine below_set ?_ GE183.out | refine below_set ?_ GE192.out | refine below_set ?_ GE199.out | refine below_set ?_ GE208.out | refine below_set ?_ GE217.out) | exact HB.out)) hb)
         clear HO_193002; clear HO_200002; clear BK183; clear BK192; clear BK199; clear BK208; clear BK217; clear HB
         have HO_193002 := n0_
         have HO_200002 := n1_
         have BK183 := n2_
         have BK192 := n3_
         have BK199 := n4_
         have BK208 := n5_
         have BK217 := n6_
         have HB := n7_
         clear n0_ n1_ n2_ n3_ n4_ n5_ n6_ n7_; (try clear hb); (try clear hb2); (try clear hk); (try clear hi)
         refine hK.out _ _ trivial (fun hHeld => ?_)
         clear hK K
         refine norm_ (a' := ?_) ?_ ?_
         rotate_left
         ·show Act.put _ (some 98) _ = _
          simp only [Act.put, List.setIfInBounds_toArray, List.set_cons_zero, List.set_cons_succ, i64_w, i32_w]
          rfl
         refine pure_ (i := 1) (N := some 99) (v := ?_) (a' := ?_) #[true, true, false, false, false, false, false, false, false, false, false, false, false] rfl rfl (any_of HT_.out (by kernel_rfl)) (fun _ _ _ h => h) (Or.inl ⟨by rfl, ?_⟩) ?_ ?_
         rotate_left
         ·intro w'
          go_simp
          with_reducible rfl
         rotate_left
         ·simp only [Act.put, List.setIfInBounds_toArray, List.set_cons_zero, List.set_cons_succ, i64_w, i32_w]
          rfl
         refine pure_ (i := 2) (N := some 100) (v := undef) (a' := ?_) #[true, true, true, false, false, false, false, false, false, false, false, false, false] rfl rfl (any_of HT_.out (by kernel_rfl)) (fun _ _ _ h => h) (Or.inr ⟨by rfl, rfl⟩) ?_ ?_
         rotate_left
         ·simp only [Act.put, List.setIfInBounds_toArray, List.set_cons_zero, List.set_cons_succ, i64_w, i32_w]
          rfl
         refine pure_ (i := 3) (N := some 101) (v := undef) (a' := ?_) #[true, true, true, true, false, false, false, false, false, false, false, false, false] rfl rfl (any_of HT_.out (by kernel_rfl)) (fun _ _ _ h => h) (Or.inr ⟨by rfl, rfl⟩) ?_ ?_
         rotate_left
         ·simp only [Act.put, List.setIfInBounds_toArray, List.set_cons_zero, List.set_cons_succ, i64_w, i32_w]
          rfl
         refine pure_ (i := 4) (N := some 102) (v := undef) (a' := ?_) #[true, true, true, true, true, false, false, false, false, false, false, false, false] rfl rfl (any_of HT_.out (by kernel_rfl)) (fun _ _ _ h => h) (Or.inr ⟨by rfl, rfl⟩) ?_ ?_
         rotate_left
         ·simp only [Act.put, List.setIfInBounds_toArray, List.set_cons_zero, List.set_cons_succ, i64_w, i32_w]
          rfl
         refine pure_ (i := 5) (N := some 103) (v := undef) (a' := ?_) #[true, true, true, true, true, true, false, false, false, false, false, false, false] rfl rfl (any_of HT_.out (by kernel_rfl)) (fun _ _ _ h => h) (Or.inr ⟨by rfl, rfl⟩) ?_ ?_
         rotate_left
         ·simp only [Act.put, List.setIfInBounds_toArray, List.set_cons_zero, List.set_cons_succ, i64_w, i32_w]
          rfl
         refine pure_ (i := 6) (N := some 104) (v := undef) (a' := ?_) #[true, true, true, true, true, true, true, false, false, false, false, false, false] rfl rfl (any_of HT_.out (by kernel_rfl)) (fun _ _ _ h => h) (Or.inr ⟨by rfl, rfl⟩) ?_ ?_
         rotate_left
         ·simp only [Act.put, List.setIfInBounds_toArray, List.set_cons_zero, List.set_cons_succ, i64_w, i32_w]
          rfl
         refine pure_ (i := 7) (N := some 105) (v := undef) (a' := ?_) #[true, true, true, true, true, true, true, true, false, false, false, false, false] rfl rfl (any_of HT_.out (by kernel_rfl)) (fun _ _ _ h => h) (Or.inr ⟨by rfl, rfl⟩) ?_ ?_
         rotate_left
         ·simp only [Act.put, List.setIfInBounds_toArray, List.set_cons_zero, List.set_cons_succ, i64_w, i32_w]
          rfl
         refine pure_ (i := 8) (N := some 106) (v := undef) (a' := ?_) #[true, true, true, true, true, true, true, true, true, false, false, false, false] rfl rfl (any_of HT_.out (by kernel_rfl)) (fun _ _ _ h => h) (Or.inr ⟨by rfl, rfl⟩) ?_ ?_
         rotate_left
         ·simp only [Act.put, List.setIfInBounds_toArray, List.set_cons_zero, List.set_cons_succ, i64_w, i32_w]
          rfl
         refine pure_ (i := 9) (N := some 107) (v := undef) (a' := ?_) #[true, true, true, true, true, true, true, true, true, true, false, false, false] rfl rfl (any_of HT_.out (by kernel_rfl)) (fun _ _ _ h => h) (Or.inr ⟨by rfl, rfl⟩) ?_ ?_
         rotate_left
         ·simp only [Act.put, List.setIfInBounds_toArray, List.set_cons_zero, List.set_cons_succ, i64_w, i32_w]
          rfl
         refine pure_ (i := 10) (N := some 108) (v := undef) (a' := ?_) #[true, true, true, true, true, true, true, true, true, true, true, false, false] rfl rfl (any_of HT_.out (by kernel_rfl)) (fun _ _ _ h => h) (Or.inr ⟨by rfl, rfl⟩) ?_ ?_
         rotate_left
         ·simp only [Act.put, List.setIfInBounds_toArray, List.set_cons_zero, List.set_cons_succ, i64_w, i32_w]
          rfl
         refine pure_ (i := 11) (N := some 109) (v := ?_) (a' := ?_) #[true, true, true, true, true, true, true, true, true, true, true, true, false] rfl rfl (any_of HT_.out (by kernel_rfl)) (fun _ _ _ h => h) (Or.inl ⟨by rfl, ?_⟩) ?_ ?_
         rotate_left
         ·intro w'
          go_simp
          with_reducible rfl
         rotate_left
         ·simp only [Act.put, List.setIfInBounds_toArray, List.set_cons_zero, List.set_cons_succ, i64_w, i32_w]
          rfl
         refine pure_ (i := 12) (N := some 6) (v := ?_) (a' := ?_) #[true, true, true, true, true, true, true, true, true, true, true, true, true] rfl rfl (any_of HT_.out (by kernel_rfl)) (fun _ _ _ h => h) (Or.inl ⟨by rfl, ?_⟩) ?_ ?_
         rotate_left
         ·intro w'
          go_simp
          with_reducible rfl
         rotate_left
         ·simp only [Act.put, List.setIfInBounds_toArray, List.set_cons_zero, List.set_cons_succ, i64_w, i32_w]
          rfl
         refine done_ (done_of HT_.out (by kernel_rfl)) ?_
         try go_wp2
         go_ret
         first | (exact ⟨by first | rfl | (simp [errW_none, errW_some] <;> rfl) | (simp [*, errW_none, errW_some] <;> rfl), by repeat (first | (with_reducible first | exact HB.out | apply below_alloc | apply pw_below_drewN | apply below_drew1 | refine below_set ?_ GE183.out | refine below_set ?_ GE192.out | refine below_set ?_ GE199.out | refine below_set ?_ GE208.out | refine below_set ?_ GE217.out) | exact HB.out)⟩) | (focus (exfalso; simp_all; done))
         all_goals (first | (exfalso; simp_all <;> omega) | (go_ret; exact ⟨by first | rfl | (simp [errW_none, errW_some] <;> rfl) | (simp [*, errW_none, errW_some] <;> rfl), by repeat (first | (with_reducible first | exact HB.out | apply below_alloc | apply pw_below_drewN | apply below_drew1 | refine below_set ?_ GE183.out | refine below_set ?_ GE192.out | refine below_set ?_ GE199.out | refine below_set ?_ GE208.out | refine below_set ?_ GE217.out) | exact HB.out)⟩))
 ·replace c5 := Bool.eq_false_iff.mpr c5
  subst c5
  have H1 : ((exequaturlaw16_answers.f).bind fun t185 => (some t185)) = some r := by rw [if_neg (show ¬ (false = true) by decide)] at H; exact H
  clear H
  have H := H1
  clear H1
  replace H := Option.bind_eq_some_iff.mp H
  obtain ⟨t185, A1350, H⟩ := H
  replace H : (some t185) = some r := H
  have A135 := Aside0.mk A1350
  clear A1350
  obtain rfl := Option.some.inj H
  go_enter Tryd.func6, Tryd.ntmps6
  go_wp2_with (first | ((with_reducible refine gate_dst (N := 3) rfl ?_); (try (refine gate_guard (by rfl) ?_; dsimp only)); refine box_event ?hg (N := 3) ?hd (cs := #[.string a0_0, .string a0_1, .string a0_2, .slice A0_3 l0_3.length c0_3, .slice A0_4 l0_4.length c0_4]) (t := 31) ?hr ?_; (case hd => rfl); (case hg => rfl); (case hr => first | (go_simp; done) | (go_simp; rfl)); intro gb183 hg w136 hbox hb; have n0_ := Aside0.mk (below_step (by repeat (first | (with_reducible first | exact HB.out | apply below_alloc | apply pw_below_drewN | apply below_drew1) | exact HB.out)) hb); have n1_ := Aside0.mk (hbox); have n2_ := Aside0.mk ((by rw [hg]; exact (below_size (by repeat (first | (with_reducible first | exact HB.out | apply below_alloc | apply pw_below_drewN | apply below_drew1) | exact HB.out))) : w.heap.size ≤ gb183)); have n3_ := Aside0.mk ((by rw [hg]; exact (below_size (by repeat (first | (with_reducible first | exact HB.out | apply below_alloc | apply pw_below_drewN | apply below_drew1) | exact HB.out))) : w.heap.size ≤ gb183)); clear HB; have HB := n0_; have BK183 := n1_; have GW183 := n2_; have GE183 := n3_; clear n0_ n1_ n2_ n3_; clear hb hbox hg; obtain ⟨hcz137_0, hcz137_1, hcz137_2, hcz137_3, hcz137_4⟩ := cells5 BK183.out; obtain ⟨hfz137_0, hfz137_1, hfz137_2, hfz137_3, hfz137_4⟩ := froz5 BK183.out) | ((with_reducible refine gate_callee (f := 12) rfl ?_); refine goesL_ (some 17) rfl rfl Tryd.func12 (by kernel_rfl) rfl #[.agg #[.string a0_0, .string a0_1, .string a0_2, .slice A0_3 l0_3.length c0_3, .slice A0_4 l0_4.length c0_4]] rfl (by (try simp only [List.map_toArray, List.map_cons, List.map_nil]); first | done | rfl | (simp only [List.length_drop, List.length_take]; rfl)) ?_; (with_reducible refine (exequaturlaw16_small.calls k a0_0 a0_1 a0_2 _ _ l0_3 _ _ l0_4 false _ ?side1 ?side2 ?side3 ?side4 A4.out).mono ?_); (case side1 => repeat (first | exact (Kd.C_below HR0_3.out HB.out) | (with_reducible refine Kd.C_alloc ?_ _) | (with_reducible refine Kd.C_drewN ?_ _) | (with_reducible refine Kd.C_drew ?_))); (case side2 => exact HC0_3.out); (case side3 => repeat (first | exact (Kd.C_below HR0_4.out HB.out) | (with_reducible refine Kd.C_alloc ?_ _) | (with_reducible refine Kd.C_drewN ?_ _) | (with_reducible refine Kd.C_drew ?_))); (case side4 => exact HC0_4.out); rintro e w138 ⟨rfl, hb⟩; refine ⟨_, rfl, ?_⟩; have n0_ := Aside0.mk (blk_belowB BK183.out (by (with_reducible repeat (first | refine blk_drewN ?_ _ | refine blk_drew ?_ | refine blk_alloc ?_ _)); exact BK183.out) hb); have n1_ := Aside0.mk (below_step (by repeat (first | (with_reducible first | exact HB.out | apply below_alloc | apply pw_below_drewN | apply below_drew1 | refine below_set ?_ GE183.out) | exact HB.out)) hb); clear BK183; clear HB; have BK183 := n0_; have HB := n1_; clear n0_ n1_; (try clear hb); (try clear hb2); (try clear hk); (try clear hi)) | ((with_reducible refine gate_callee (f := 7) rfl ?_); refine goesL_ (some 19) rfl rfl Tryd.func7 (by kernel_rfl) rfl #[] rfl (by (try simp only [List.map_toArray, List.map_cons, List.map_nil]); first | done | rfl | (simp only [List.length_drop, List.length_take]; rfl)) ?_; (with_reducible refine (exequaturlaw16_answers.calls  t185 _ A135.out (hG := GOK.below hG (by repeat (first | (with_reducible first | exact HB.out | apply below_alloc | apply pw_below_drewN | apply below_drew1 | refine below_set ?_ GE183.out | refine below_set ?_ GE192.out | refine below_set ?_ GE199.out | refine below_set ?_ GE208.out | refine below_set ?_ GE217.out) | exact HB.out)))).mono ?_); rintro e w139 ⟨rfl, hb⟩; refine ⟨_, rfl, ?_⟩; have n0_ := Aside0.mk (blk_belowB BK183.out (by (with_reducible repeat (first | refine blk_drewN ?_ _ | refine blk_drew ?_ | refine blk_alloc ?_ _)); exact BK183.out) hb); have n1_ := Aside0.mk (below_step (by repeat (first | (with_reducible first | exact HB.out | apply below_alloc | apply pw_below_drewN | apply below_drew1 | refine below_set ?_ GE183.out) | exact HB.out)) hb); clear BK183; clear HB; have BK183 := n0_; have HB := n1_; clear n0_ n1_; (try clear hb); (try clear hb2); (try clear hk); (try clear hi)))
  go_ret
  first | (exact ⟨by first | rfl | (simp [errW_none, errW_some] <;> rfl) | (simp [*, errW_none, errW_some] <;> rfl), by repeat (first | (with_reducible first | exact HB.out | apply below_alloc | apply pw_below_drewN | apply below_drew1 | refine below_set ?_ GE183.out) | exact HB.out)⟩) | (focus (exfalso; simp_all; done))
  all_goals (first | (exfalso; simp_all <;> omega) | (go_ret; exact ⟨by first | rfl | (simp [errW_none, errW_some] <;> rfl) | (simp [*, errW_none, errW_some] <;> rfl), by repeat (first | (with_reducible first | exact HB.out | apply below_alloc | apply pw_below_drewN | apply below_drew1 | refine below_set ?_ GE183.out) | exact HB.out)⟩))

end Go.Proofs.YtkcgalpagpgfhaaDoor.X
