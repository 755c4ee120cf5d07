-- Lean text made by xprint.py (ours) out of the seat's translation. Lean checks it.
import Derived.Test.YtmhaaggmfgojbaaDoorX0
import Derived.Test.YtmhaaggmfgojbaaDoorBB
import Derived.Test.YtmhaaggmfgojbaaDoorBG
import Derived.Test.YtmhaaggmfgojbaaDoorBQ
import Derived.Test.YtmhaaggmfgojbaaDoorBD
namespace Go.Proofs.YtmhaaggmfgojbaaDoor.X
open Go.RowKit Go.Proofs.YtmhaaggmfgojbaaDoorW.PrintWords Go.Proofs.YtmhaaggmfgojbaaDoorW.PrintLast Go.Proofs.YtmhaaggmfgojbaaDoorW.PrintMore
attribute [local go_sem] max2_int min2_int max_two min_two max_three min_three max_four min_four   -- for this text's walks alone
set_option linter.unusedVariables false
set_option linter.unusedSimpArgs false

attribute [local go_sem high] eqA30
/-! ### exequaturlaw17_AskTwice: function 6 -/
mutual
def exequaturlaw17_AskTwice.j0 : Nat → List (S39) → Int → Bool → ByteArray → ByteArray → ByteArray → List (S43) → List (S129) → Option (Bool)
  | 0, _, _, _, _, _, _, _, _ => none
  | k + 1, x1, x2, x24, x270000, x270001, x270002, x270003, x270004 => if x24 = true then ((exequaturlaw17_answers.f).bind fun t270 => (some t270)) else (exequaturlaw17_AskTwice.l0 k x1 x2 0 x270000 x270001 x270002 x270003 x270004)
def exequaturlaw17_AskTwice.l0 : Nat → List (S39) → Int → Int → ByteArray → ByteArray → ByteArray → List (S43) → List (S129) → Option (Bool)
  | 0, _, _, _, _, _, _, _, _ => none
  | k + 1, x1, x2, x7, x270000, x270001, x270002, x270003, x270004 => if x7 < (x1.length : Int) then (if 0 ≤ x7 then (if (wrap64 ((((rd_T39 x1 x7).f0).size : Int) + (((rd_T39 x1 x7).f1).size : Int))) > 300 then ((exequaturlaw17_answers.f).bind fun t273 => (some t273)) else (exequaturlaw17_AskTwice.l0 k x1 x2 (wrap64 (x7 + 1)) x270000 x270001 x270002 x270003 x270004)) else (none)) else ((some (([] : List (S39)) : List (S39))).bind fun y274 => (if y274.length + x1.length < 4398046511104 then ((some (y274 ++ x1 : List (S39))).bind fun y277 => (if (x1.length : Int) = 0 then (none) else (if 0 ≤ (Int.tmod (wrap64 (x2)) (x1.length : Int)) then (if (Int.tmod (wrap64 (x2)) (x1.length : Int)) < (x1.length : Int) then ((some (([(⟨(rd_T39 x1 (Int.tmod (wrap64 (x2)) (x1.length : Int))).f0, (rd_T39 x1 (Int.tmod (wrap64 (x2)) (x1.length : Int))).f1⟩ : S39)] : List (S39)) : List (S39))).bind fun y281 => (if y277.length + y281.length < 4398046511104 then ((exequaturref01_Build.f k (y277 ++ y281)).bind fun t287 => ((ask_Check.f x270000 x270001 x270002 x270003 x270004 t287).bind fun bt288 => ((exequaturlaw17_answers.f).bind fun t297 => (if t297 = true then (if (bt288.1.toList == ([] : List UInt8) && (bt288.2.1.toList == ([] : List UInt8) && (bt288.2.2.1.toList == ([] : List UInt8) && (bt288.2.2.2.1.toList == ([] : List UInt8) && (bt288.2.2.2.2.1.toList == ([] : List UInt8) && (bt288.2.2.2.2.2.1.toList == ([] : List UInt8))))))) = true then (if bt288.2.2.2.2.2.2.1.toList = ([105, 110, 118, 97, 108, 105, 100, 95, 114, 101, 113, 117, 101, 115, 116] : List UInt8) then (some (!bt288.2.2.2.2.2.2.2)) else (some false)) else (some false)) else (some false))))) else (none))) else (none)) else (none)))) else (none)))
end
def exequaturlaw17_AskTwice.f (k : Nat) (a0_0 : ByteArray) (a0_1 : ByteArray) (a0_2 : ByteArray) (l0_3 : List (S43)) (l0_4 : List (S129)) (l1 : List (S39)) (a2 : Int) : Option (Bool) := if (l0_3.length : Int) > 20 then (exequaturlaw17_AskTwice.j0 k l1 a2 true a0_0 a0_1 a0_2 l0_3 l0_4) else (if (l1.length : Int) = 0 then (exequaturlaw17_AskTwice.j0 k l1 a2 true a0_0 a0_1 a0_2 l0_3 l0_4) else (exequaturlaw17_AskTwice.j0 k l1 a2 (decide ((l1.length : Int) > 30)) a0_0 a0_1 a0_2 l0_3 l0_4))
theorem exequaturlaw17_AskTwice.mono_l : ∀ k, (∀ y0 y1 y2 y3 y4 y5 y6 y7, LeO (exequaturlaw17_AskTwice.j0 k y0 y1 y2 y3 y4 y5 y6 y7) (exequaturlaw17_AskTwice.j0 (k + 1) y0 y1 y2 y3 y4 y5 y6 y7)) ∧ (∀ y0 y1 y2 y3 y4 y5 y6 y7, LeO (exequaturlaw17_AskTwice.l0 k y0 y1 y2 y3 y4 y5 y6 y7) (exequaturlaw17_AskTwice.l0 (k + 1) y0 y1 y2 y3 y4 y5 y6 y7))
  | 0 => ⟨fun _ _ _ _ _ _ _ _ r h => by simp [exequaturlaw17_AskTwice.j0] at h, fun _ _ _ _ _ _ _ _ r h => by simp [exequaturlaw17_AskTwice.l0] at h⟩
  | k + 1 => by
    obtain ⟨ih0, ih1⟩ := exequaturlaw17_AskTwice.mono_l k
    refine ⟨?_, ?_⟩
    · intro y0 y1 y2 y3 y4 y5 y6 y7
      unfold exequaturlaw17_AskTwice.j0
      repeat' first
      | (with_reducible exact ih0 _ _ _ _ _ _ _ _)
      | (with_reducible exact ih1 _ _ _ _ _ _ _ _)
      | (with_reducible exact exequaturref01_Build.mono _ _)
      | (with_reducible exact LeO.refl _)
      | (with_reducible exact LeO.none _)
      | (with_reducible refine LeO.ite ?_ ?_)
      | (with_reducible refine LeO.bind ?_ (fun _ => ?_))
      | exact ih0 _ _ _ _ _ _ _ _
      | exact ih1 _ _ _ _ _ _ _ _
      | exact exequaturref01_Build.mono _ _
      | exact LeO.none _
      | refine LeO.ite ?_ ?_
      | refine LeO.bind ?_ (fun _ => ?_)
    · intro y0 y1 y2 y3 y4 y5 y6 y7
      unfold exequaturlaw17_AskTwice.l0
      repeat' first
      | (with_reducible exact ih0 _ _ _ _ _ _ _ _)
      | (with_reducible exact ih1 _ _ _ _ _ _ _ _)
      | (with_reducible exact exequaturref01_Build.mono _ _)
      | (with_reducible exact LeO.refl _)
      | (with_reducible exact LeO.none _)
      | (with_reducible refine LeO.ite ?_ ?_)
      | (with_reducible refine LeO.bind ?_ (fun _ => ?_))
      | exact ih0 _ _ _ _ _ _ _ _
      | exact ih1 _ _ _ _ _ _ _ _
      | exact exequaturref01_Build.mono _ _
      | exact LeO.none _
      | refine LeO.ite ?_ ?_
      | refine LeO.bind ?_ (fun _ => ?_)
theorem exequaturlaw17_AskTwice.mono : ∀ a0 a1 a2 a3 a4 a5 a6 k, LeO (exequaturlaw17_AskTwice.f k a0 a1 a2 a3 a4 a5 a6) (exequaturlaw17_AskTwice.f (k + 1) a0 a1 a2 a3 a4 a5 a6) := by
  intro a0 a1 a2 a3 a4 a5 a6 k
  obtain ⟨ih0, ih1⟩ := exequaturlaw17_AskTwice.mono_l k
  unfold exequaturlaw17_AskTwice.f
  repeat' first
      | (with_reducible exact ih0 _ _ _ _ _ _ _ _)
      | (with_reducible exact ih1 _ _ _ _ _ _ _ _)
      | (with_reducible exact exequaturref01_Build.mono _ _)
      | (with_reducible exact LeO.refl _)
      | (with_reducible exact LeO.none _)
      | (with_reducible refine LeO.ite ?_ ?_)
      | (with_reducible refine LeO.bind ?_ (fun _ => ?_))
      | exact ih0 _ _ _ _ _ _ _ _
      | exact ih1 _ _ _ _ _ _ _ _
      | exact exequaturref01_Build.mono _ _
      | exact LeO.none _
      | refine LeO.ite ?_ ?_
      | refine LeO.bind ?_ (fun _ => ?_)
def exequaturlaw17_AskTwice.T6 : Bool × List (List Nat × List Nat) := (true, [([], []), ([], []), ([0, 1], [0, 1]), ([2], [2]), ([3], [3]), ([4], [4]), ([], []), ([], []), ([6, 7], [6, 7]), ([8], [8]), ([9], [9]), ([10], [10]), ([5, 11], [5, 11]), ([12], [12])])
def exequaturlaw17_AskTwice.B6 : List Nat := [0, 0, 3, 7, 15, 31, 0, 0, 192, 448, 960, 1984, 4095, 8191]
theorem exequaturlaw17_AskTwice.tab6 : rtab .any (opsOf Tryd.f6 6) = exequaturlaw17_AskTwice.T6 := by kernel_rfl
theorem exequaturlaw17_AskTwice.bits6 : waitsOk exequaturlaw17_AskTwice.T6.2 exequaturlaw17_AskTwice.B6 = true := by kernel_rfl
def exequaturlaw17_AskTwice.T8 : Bool × List (List Nat × List Nat) := (true, [([], []), ([], []), ([], []), ([1, 2], [1, 2]), ([], []), ([], []), ([5], [5]), ([], []), ([7], [7]), ([6, 8], [6, 8]), ([4, 9], [4, 9]), ([10], [10]), ([11], [11]), ([3, 12, 3], [3, 12]), ([13, 13], [13]), ([0, 14, 14], [0, 14]), ([15], [15]), ([16], [16]), ([16], [16]), ([16], [16]), ([], []), ([20, 17, 15, 0, 1, 2, 3, 4, 5, 6, 7, 8, 9, 10, 11, 12, 13, 14, 15, 16, 17, 20], [17, 20]), ([18, 21, 0, 1, 2, 3, 4, 5, 6, 7, 8, 9, 10, 11, 12, 13, 14, 15, 16, 17, 18, 20, 21], [18]), ([19, 22, 0, 1, 2, 3, 4, 5, 6, 7, 8, 9, 10, 11, 12, 13, 14, 15, 16, 17, 18, 19, 20, 21, 22], [19])])
def exequaturlaw17_AskTwice.B8 : List Nat := [0, 0, 0, 6, 0, 0, 32, 0, 128, 480, 1008, 2032, 4080, 8190, 16382, 32767, 65535, 131071, 131071, 131071, 0, 1310719, 3670015, 8388607]
theorem exequaturlaw17_AskTwice.tab8 : rtab .any (opsOf Tryd.f6 8) = exequaturlaw17_AskTwice.T8 := by kernel_rfl
theorem exequaturlaw17_AskTwice.bits8 : waitsOk exequaturlaw17_AskTwice.T8.2 exequaturlaw17_AskTwice.B8 = true := by kernel_rfl
set_option maxHeartbeats 8000000 in
set_option maxRecDepth 100000 in
theorem exequaturlaw17_AskTwice.calls (k : Nat) (a0_0 : ByteArray) (a0_1 : ByteArray) (a0_2 : ByteArray) (A0_3 : Option Addr) (c0_3 : Nat) (l0_3 : List (S43)) (A0_4 : Option Addr) (c0_4 : Nat) (l0_4 : List (S129)) (A1 : Option Addr) (c1 : Nat) (l1 : List (S39)) (a2 : Int) (r : Bool) (w : World) (hr0_3 : Kd.C k43 w A0_3 l0_3.length l0_3) (hc0_3 : l0_3.length ≤ c0_3) (hr0_4 : Kd.C k129 w A0_4 l0_4.length l0_4) (hc0_4 : l0_4.length ≤ c0_4) (hr1 : Kd.C k39 w A1 l1.length l1) (hc1 : l1.length ≤ c1) (h : exequaturlaw17_AskTwice.f k a0_0 a0_1 a0_2 l0_3 l0_4 l1 a2 = some r) (hG : GOK w := by first | assumption | exact hG | exact GOK.drewN _ hG | exact GOK.below hG (by repeat (first | (with_reducible first | exact HB.out | apply below_alloc | apply pw_below_drewN | apply below_drew1 | refine below_set ?_ (Aside0.out (by assumption))) | exact HB.out))) :
  Calls Tryd.prog 6 #[.agg #[.string a0_0, .string a0_1, .string a0_2, .slice A0_3 l0_3.length c0_3, .slice A0_4 l0_4.length c0_4], .slice A1 l1.length c1, .int .u8 a2] w fun e w' => e = .returned (.bool r) ∧ Below w.heap.size w w' := by
 have hu27 := Tryd.underlying27
 have hu39 := Tryd.underlying39
 have hu30 := Tryd.underlying30
 have HR0_3 := Aside0.mk hr0_3
 have HC0_3 := Aside0.mk hc0_3
 clear hr0_3 hc0_3
 have HR0_4 := Aside0.mk hr0_4
 have HC0_4 := Aside0.mk hc0_4
 clear hr0_4 hc0_4
 have HR1 := Aside0.mk hr1
 have HC1 := Aside0.mk hc1
 clear hr1 hc1
 have HB := Aside0.mk (Below.refl w.heap.size w)
 have H : (if (l0_3.length : Int) > 20 then (exequaturlaw17_AskTwice.j0 k l1 a2 true a0_0 a0_1 a0_2 l0_3 l0_4) else (if (l1.length : Int) = 0 then (exequaturlaw17_AskTwice.j0 k l1 a2 true a0_0 a0_1 a0_2 l0_3 l0_4) else (exequaturlaw17_AskTwice.j0 k l1 a2 (decide ((l1.length : Int) > 30)) a0_0 a0_1 a0_2 l0_3 l0_4))) = some r := h
 clear h
 have HC4 := Aside0.mk H
 clear H
 go_enter Tryd.func6, Tryd.ntmps6
 go_upto_region 1 with (first | ((with_reducible refine gate_dst (N := 3) rfl ?_); (try (refine gate_guard (by rfl) ?_; dsimp only)); refine box_event ?hg (N := 3) ?hd (cs := #[.string a0_0, .string a0_1, .string a0_2, .slice A0_3 l0_3.length c0_3, .slice A0_4 l0_4.length c0_4]) (t := 27) ?hr ?_; (case hd => rfl); (case hg => rfl); (case hr => first | (go_simp; done) | (go_simp; rfl)); intro gb269 hg w5 hbox hb; have n0_ := Aside0.mk (below_step (by repeat (first | (with_reducible first | exact HB.out | apply below_alloc | apply pw_below_drewN | apply below_drew1) | exact HB.out)) hb); have n1_ := Aside0.mk (hbox); have n2_ := Aside0.mk ((by rw [hg]; exact (below_size (by repeat (first | (with_reducible first | exact HB.out | apply below_alloc | apply pw_below_drewN | apply below_drew1) | exact HB.out))) : w.heap.size ≤ gb269)); have n3_ := Aside0.mk ((by rw [hg]; exact (below_size (by repeat (first | (with_reducible first | exact HB.out | apply below_alloc | apply pw_below_drewN | apply below_drew1) | exact HB.out))) : w.heap.size ≤ gb269)); clear HB; have HB := n0_; have BK269 := n1_; have GW269 := n2_; have GE269 := n3_; clear n0_ n1_ n2_ n3_; clear hb hbox hg))
 (try simp only [Act.put, List.setIfInBounds_toArray, List.set_cons_zero, List.set_cons_succ])
 go_cut [24] (fun v24 wc => ∃ (kq : Nat) (x24_3 : Bool), v24 = .bool x24_3 ∧ Aside0 (exequaturlaw17_AskTwice.j0 kq l1 a2 x24_3 a0_0 a0_1 a0_2 l0_3 l0_4 = some r) ∧ Aside0 (kq ≤ k) ∧ Aside0 (wc.heap[gb269]? = some (.cells #[.string a0_0, .string a0_1, .string a0_2, (.slice A0_3 l0_3.length c0_3), (.slice A0_4 l0_4.length c0_4)] 27 (0, 0))) ∧ Aside0 (Below w.heap.size w wc))
 case first =>
  have H := HC4.out
  clear HC4
  by_cases c6 : (l0_3.length : Int) > 20
  ·rw [if_pos c6] at H
   have c6b0 : decide (20 < (l0_3.length : Int)) = true := decide_eq_true c6
   have c6b1 : decide (20 < l0_3.length) = true := decide_eq_true (by omega)
   clear c6
   (first | rw [c6b0] | (simp only [i64_w, i32_w]; rw [c6b0]) | skip)
   have H' := Aside0.mk H
   clear H
   obtain ⟨hcz7_0, hcz7_1, hcz7_2, hcz7_3, hcz7_4⟩ := cells5 BK269.out
   obtain ⟨hfz7_0, hfz7_1, hfz7_2, hfz7_3, hfz7_4⟩ := froz5 BK269.out
   go_wp2
   go_meet
   case rel => exact ⟨_, (true), (by first | rfl | (simp; done) | (simp [*]; done) | (refine congrArg Value.bool ?_; rw [Bool.eq_iff_iff]; simp; done)), H', ⟨by first | omega | exact Nat.le_refl _⟩, ⟨by (with_reducible repeat (first | refine blk_drewN ?_ _ | refine blk_drew ?_ | refine blk_alloc ?_ _)); exact BK269.out⟩, ⟨by repeat (first | (with_reducible first | exact HB.out | apply below_alloc | apply pw_below_drewN | apply below_drew1 | refine below_set ?_ GE269.out) | exact HB.out)⟩⟩
  ·rw [if_neg c6] at H
   have c6b0 : decide (20 < (l0_3.length : Int)) = false := decide_eq_false c6
   have c6b1 : decide (20 < l0_3.length) = false := decide_eq_false (by omega)
   clear c6
   (first | rw [c6b0] | (simp only [i64_w, i32_w]; rw [c6b0]) | skip)
   by_cases c8 : (l1.length : Int) = 0
   ·rw [if_pos c8] at H
    have c8b0 : ((l1.length : Int) == 0) = true := beq_iff_eq.mpr c8
    have c8b1 : ((l1.length : Int) != 0) = false := bne_eq_false_iff_eq.mpr c8
    clear c8
    have H' := Aside0.mk H
    clear H
    obtain ⟨hcz9_0, hcz9_1, hcz9_2, hcz9_3, hcz9_4⟩ := cells5 BK269.out
    obtain ⟨hfz9_0, hfz9_1, hfz9_2, hfz9_3, hfz9_4⟩ := froz5 BK269.out
    go_wp2
    go_meet
    case rel => exact ⟨_, (true), (by first | rfl | (simp; done) | (simp [*]; done) | (refine congrArg Value.bool ?_; rw [Bool.eq_iff_iff]; simp; done)), H', ⟨by first | omega | exact Nat.le_refl _⟩, ⟨by (with_reducible repeat (first | refine blk_drewN ?_ _ | refine blk_drew ?_ | refine blk_alloc ?_ _)); exact BK269.out⟩, ⟨by repeat (first | (with_reducible first | exact HB.out | apply below_alloc | apply pw_below_drewN | apply below_drew1 | refine below_set ?_ GE269.out) | exact HB.out)⟩⟩
   ·rw [if_neg c8] at H
    have c8b0 : ((l1.length : Int) == 0) = false := beq_eq_false_iff_ne.mpr c8
    have c8b1 : ((l1.length : Int) != 0) = true := bne_iff_ne.mpr c8
    have c8b2 : ¬ (l1 = []) := fun h_ => c8 (by rw [h_]; rfl)
    have H' := Aside0.mk H
    clear H
    obtain ⟨hcz10_0, hcz10_1, hcz10_2, hcz10_3, hcz10_4⟩ := cells5 BK269.out
    obtain ⟨hfz10_0, hfz10_1, hfz10_2, hfz10_3, hfz10_4⟩ := froz5 BK269.out
    go_wp2
    go_meet
    case rel => exact ⟨_, (decide ((l1.length : Int) > 30)), (by first | rfl | (simp; done) | (simp [*]; done) | (refine congrArg Value.bool ?_; rw [Bool.eq_iff_iff]; simp; done)), H', ⟨by first | omega | exact Nat.le_refl _⟩, ⟨by (with_reducible repeat (first | refine blk_drewN ?_ _ | refine blk_drew ?_ | refine blk_alloc ?_ _)); exact BK269.out⟩, ⟨by repeat (first | (with_reducible first | exact HB.out | apply below_alloc | apply pw_below_drewN | apply below_drew1 | refine below_set ?_ GE269.out) | exact HB.out)⟩⟩
 case rest =>
  clear HC4; try clear c1; try clear p2; try clear c6; try clear c6b0; try clear c6b1; try clear c8; try clear c8b0; try clear c8b1; try clear c8b2; try clear hcz10_0; try clear hcz10_1; try clear hcz10_2; try clear hcz10_3; try clear hcz10_4; try clear hcz7_0; try clear hcz7_1; try clear hcz7_2; try clear hcz7_3; try clear hcz7_4; try clear hcz9_0; try clear hcz9_1; try clear hcz9_2; try clear hcz9_3; try clear hcz9_4; try clear hfz10_0; try clear hfz10_1; try clear hfz10_2; try clear hfz10_3; try clear hfz10_4; try clear hfz7_0; try clear hfz7_1; try clear hfz7_2; try clear hfz7_3; try clear hfz7_4; try clear hfz9_0; try clear hfz9_1; try clear hfz9_2; try clear hfz9_3; try clear hfz9_4
  obtain ⟨kq, x24_3, rfl, HA, HJ3, BK269, HB⟩ := hcut
  cases kq with
  | zero => exact absurd HA.out (by simp [exequaturlaw17_AskTwice.j0])
  | succ kj3 =>
   have H := HA.out
   clear HA
   simp only [exequaturlaw17_AskTwice.j0] at H
   by_cases c11 : x24_3 = true
   ·subst c11
    have H1 : ((exequaturlaw17_answers.f).bind fun t270 => (some t270)) = some r := by rw [if_pos rfl] at H; exact H
    clear H
    have H := H1
    clear H1
    replace H := Option.bind_eq_some_iff.mp H
    obtain ⟨t270, A120, H⟩ := H
    replace H : (some t270) = some r := H
    have A12 := Aside0.mk A120
    clear A120
    obtain rfl := Option.some.inj H
    go_wp2_with (first | ((with_reducible refine gate_callee (f := 7) rfl ?_); refine goesL_ (some 25) rfl rfl Tryd.func7 (by kernel_rfl) rfl #[] rfl (by (try simp only [List.map_toArray, List.map_cons, List.map_nil]); first | done | rfl | (simp only [List.length_drop, List.length_take]; rfl)) ?_; (with_reducible refine (exequaturlaw17_answers.calls  t270 _ A12.out (hG := GOK.below hG (by repeat (first | (with_reducible first | exact HB.out | apply below_alloc | apply pw_below_drewN | apply below_drew1 | refine below_set ?_ GE269.out | refine below_set ?_ GE296.out) | exact HB.out)))).mono ?_); rintro e w13 ⟨rfl, hb⟩; refine ⟨_, rfl, ?_⟩; have n0_ := Aside0.mk (blk_belowB BK269.out (by (with_reducible repeat (first | refine blk_drewN ?_ _ | refine blk_drew ?_ | refine blk_alloc ?_ _)); exact BK269.out) hb); have n1_ := Aside0.mk (below_step (by repeat (first | (with_reducible first | exact HB.out | apply below_alloc | apply pw_below_drewN | apply below_drew1 | refine below_set ?_ GE269.out) | exact HB.out)) hb); clear BK269; clear HB; have BK269 := n0_; have HB := n1_; clear n0_ n1_; (try clear hb); (try clear hb2); (try clear hk); (try clear hi)))
    go_ret
    first | (focus (exfalso; simp_all; done)) | (exact ⟨by first | rfl | (simp [errW_none, errW_some] <;> rfl) | (simp [*, errW_none, errW_some] <;> rfl), by repeat (first | (with_reducible first | exact HB.out | apply below_alloc | apply pw_below_drewN | apply below_drew1 | refine below_set ?_ GE269.out) | exact HB.out)⟩) | (focus (exfalso; simp_all; done))
    all_goals (first | (exfalso; simp_all <;> omega) | (go_ret; exact ⟨by first | rfl | (simp [errW_none, errW_some] <;> rfl) | (simp [*, errW_none, errW_some] <;> rfl), by repeat (first | (with_reducible first | exact HB.out | apply below_alloc | apply pw_below_drewN | apply below_drew1 | refine below_set ?_ GE269.out) | exact HB.out)⟩))
   ·replace c11 := Bool.eq_false_iff.mpr c11
    subst c11
    have H1 : (exequaturlaw17_AskTwice.l0 kj3 l1 a2 0 a0_0 a0_1 a0_2 l0_3 l0_4) = some r := by rw [if_neg (show ¬ (false = true) by decide)] at H; exact H
    clear H
    have H := H1
    clear H1
    have H' := Aside0.mk H
    clear H
    go_wp2
    go_loopg [7] kj3 (fun kq v7 w' => ∃ (x7_2 : Int), v7 = .int .i64 x7_2 ∧ Aside0 (exequaturlaw17_AskTwice.l0 kq l1 a2 x7_2 a0_0 a0_1 a0_2 l0_3 l0_4 = some r) ∧ Aside0 (kq ≤ kj3) ∧ Aside0 (w'.heap[gb269]? = some (.cells #[.string a0_0, .string a0_1, .string a0_2, (.slice A0_3 l0_3.length c0_3), (.slice A0_4 l0_4.length c0_4)] 27 (0, 0))) ∧ Aside0 (Below w.heap.size w w'))
    case atStart => exact ⟨(0), (by first | rfl | (simp; done) | (simp [*]; done) | (refine congrArg Value.bool ?_; rw [Bool.eq_iff_iff]; simp; done)), H', ⟨Nat.le_refl _⟩, ⟨by (with_reducible repeat (first | refine blk_drewN ?_ _ | refine blk_drew ?_ | refine blk_alloc ?_ _)); exact BK269.out⟩, ⟨by repeat (first | (with_reducible first | exact HB.out | apply below_alloc | apply pw_below_drewN | apply below_drew1 | refine below_set ?_ GE269.out) | exact HB.out)⟩⟩
    case round =>
     clear H'
     try clear c1; try clear p2; try clear c6; try clear c6b0; try clear c6b1; try clear c7; try clear c8; try clear c8b0; try clear c8b1; try clear c8b2; try clear c11; try clear hcz10_0; try clear hcz10_1; try clear hcz10_2; try clear hcz10_3; try clear hcz10_4; try clear hcz7_0; try clear hcz7_1; try clear hcz7_2; try clear hcz7_3; try clear hcz7_4; try clear hcz9_0; try clear hcz9_1; try clear hcz9_2; try clear hcz9_3; try clear hcz9_4; try clear hfz10_0; try clear hfz10_1; try clear hfz10_2; try clear hfz10_3; try clear hfz10_4; try clear hfz7_0; try clear hfz7_1; try clear hfz7_2; try clear hfz7_3; try clear hfz7_4; try clear hfz9_0; try clear hfz9_1; try clear hfz9_2; try clear hfz9_3; try clear hfz9_4; try clear p2
     obtain ⟨x7_2, rfl, HA, HK2, BK269, HB⟩ := hrel
     cases gk with
     | zero => exact absurd HA.out (by simp [exequaturlaw17_AskTwice.l0])
     | succ k2 =>
      have H := HA.out
      clear HA
      simp only [exequaturlaw17_AskTwice.l0] at H
      by_cases c14 : x7_2 < (l1.length : Int)
      ·rw [if_pos c14] at H
       have c14b0 : decide (x7_2 < (l1.length : Int)) = true := decide_eq_true c14
       clear c14
       by_cases c15 : 0 ≤ x7_2
       rotate_left
       ·rw [if_neg c15] at H; exact absurd H (by simp)
       rw [if_pos c15] at H
       have c15b0 : decide (0 ≤ x7_2) = true := decide_eq_true c15
       clear c15
       by_cases c16 : (wrap64 ((((rd_T39 l1 x7_2).f0).size : Int) + (((rd_T39 l1 x7_2).f1).size : Int))) > 300
       ·rw [if_pos c16] at H
        have c16b0 : decide (300 < (wrap64 ((((rd_T39 l1 x7_2).f0).size : Int) + (((rd_T39 l1 x7_2).f1).size : Int)))) = true := decide_eq_true c16
        clear c16
        replace H := Option.bind_eq_some_iff.mp H
        obtain ⟨t273, A170, H⟩ := H
        replace H : (some t273) = some r := H
        have A17 := Aside0.mk A170
        clear A170
        obtain rfl := Option.some.inj H
        try go_wp2
        have n0_ := Aside0.mk (blk_drew BK269.out)
        have n1_ := Aside0.mk (below_drew1 HB.out)
        clear BK269; clear HB
        have BK269 := n0_
        have HB := n1_
        clear n0_ n1_
        have p271 : 0 ≤ (x7_2 : Int) := of_decide_eq_true (by first | (with_reducible assumption) | assumption)
        have q271 : x7_2 < (l1.length : Int) := of_decide_eq_true (by first | (with_reducible assumption) | assumption)
        obtain ⟨ad271, e271, hx271_0, hx271_1⟩ := at_T39 HR1.out x7_2 p271 q271
        have hw271_1 := hx271_1
        have hw271_0 := hx271_0
        cases e271
        replace hx271_0 := (HB.out.cell (World.block_lt_of_cell? w _ hx271_0)).trans hx271_0
        replace hx271_1 := (HB.out.cell (World.block_lt_of_cell? w _ hx271_1)).trans hx271_1
        replace p271 := eq_true p271
        replace q271 := eq_true q271
        have p272 : 0 ≤ (x7_2 : Int) := of_decide_eq_true (by first | (with_reducible assumption) | assumption)
        have q272 : x7_2 < (l1.length : Int) := of_decide_eq_true (by first | (with_reducible assumption) | assumption)
        obtain ⟨ad272, e272, hx272_0, hx272_1⟩ := at_T39 HR1.out x7_2 p272 q272
        have hw272_1 := hx272_1
        have hw272_0 := hx272_0
        obtain rfl : ad271 = ad272 := (by injection e272)
        replace hx272_0 := (HB.out.cell (World.block_lt_of_cell? w _ hx272_0)).trans hx272_0
        replace hx272_1 := (HB.out.cell (World.block_lt_of_cell? w _ hx272_1)).trans hx272_1
        replace p272 := eq_true p272
        replace q272 := eq_true q272
        refine start_ (n := 14) (S := fun w' => w'.cell? (ad271.add ((x7_2).toNat * 2)) = some (.string ((rd_T39 l1 x7_2).f0)) ∧ w'.cell? ⟨(ad271.add ((x7_2).toNat * 2)).block, (ad271.add ((x7_2).toNat * 2)).off + 1, none⟩ = some (.string ((rd_T39 l1 x7_2).f1)) ∧ w'.cell? (ad271.add ((x7_2).toNat * 2)) = some (.string ((rd_T39 l1 x7_2).f0)) ∧ w'.cell? ⟨(ad271.add ((x7_2).toNat * 2)).block, (ad271.add ((x7_2).toNat * 2)).off + 1, none⟩ = some (.string ((rd_T39 l1 x7_2).f1))) (ds := []) #[false, false, false, false, false, false, false, false, false, false, false, false, false, false] (by kernel_rfl) rfl rfl ⟨((HB.out.cell (World.block_lt_of_cell? w _ hw271_0)).trans hw271_0), ((HB.out.cell (World.block_lt_of_cell? w _ hw271_1)).trans hw271_1), ((HB.out.cell (World.block_lt_of_cell? w _ hw272_0)).trans hw272_0), ((HB.out.cell (World.block_lt_of_cell? w _ hw272_1)).trans hw272_1)⟩ (fun hHeld => ?_); refine with_tabW exequaturlaw17_AskTwice.tab6 exequaturlaw17_AskTwice.bits6 (fun HT_ HW_ => ?_)
        generalize wr.drew = w18 at BK269 HB hx271_0 hx271_1 hx272_0 hx272_1 hHeld ⊢
        refine pure_ (i := 0) (N := some 32) (v := ?_) (a' := ?_) #[true, false, false, false, false, false, false, false, false, false, false, false, false, false] rfl rfl (any_of HT_.out (by kernel_rfl)) (fun _ _ _ h => h) (Or.inl ⟨by rfl, ?_⟩) ?_ ?_
        rotate_left
        ·intro w'
         go_simp
         with_reducible rfl
        rotate_left
        ·simp only [Act.put, List.setIfInBounds_toArray, List.set_cons_zero, List.set_cons_succ, i64_w, i32_w]
         rfl
        refine pure_ (i := 1) (N := some 33) (v := ?_) (a' := ?_) #[true, true, false, false, false, false, false, false, false, false, false, false, false, false] rfl rfl (any_of HT_.out (by kernel_rfl)) (fun _ _ _ h => h) (Or.inl ⟨by rfl, ?_⟩) ?_ ?_
        rotate_left
        ·intro w'
         go_simp
         with_reducible rfl
        rotate_left
        ·simp only [Act.put, List.setIfInBounds_toArray, List.set_cons_zero, List.set_cons_succ, i64_w, i32_w]
         rfl
        refine pure_ (i := 2) (N := some 34) (v := ?_) (a' := ?_) #[true, true, true, false, false, false, false, false, false, false, false, false, false, false] rfl rfl (any_of HT_.out (by kernel_rfl)) (fun _ _ _ h => h) (Or.inl ⟨by rfl, ?_⟩) ?_ ?_
        rotate_left
        ·intro w'
         go_simp
         with_reducible rfl
        rotate_left
        ·simp only [Act.put, List.setIfInBounds_toArray, List.set_cons_zero, List.set_cons_succ, i64_w, i32_w]
         rfl
        refine pure_ (i := 3) (N := some 35) (v := ?_) (a' := ?_) #[true, true, true, true, false, false, false, false, false, false, false, false, false, false] rfl rfl (any_of HT_.out (by kernel_rfl)) (fun _ _ _ h => h) (Or.inl ⟨by rfl, ?_⟩) ?_ ?_
        rotate_left
        ·intro w'
         go_simp
         with_reducible rfl
        rotate_left
        ·simp only [Act.put, List.setIfInBounds_toArray, List.set_cons_zero, List.set_cons_succ, i64_w, i32_w]
         rfl
        refine pure_ (i := 6) (N := some 38) (v := ?_) (a' := ?_) #[true, true, true, true, false, false, true, false, false, false, false, false, false, false] rfl rfl (any_of HT_.out (by kernel_rfl)) (fun _ _ _ h => h) (Or.inl ⟨by rfl, ?_⟩) ?_ ?_
        rotate_left
        ·intro w'
         go_simp
         with_reducible rfl
        rotate_left
        ·simp only [Act.put, List.setIfInBounds_toArray, List.set_cons_zero, List.set_cons_succ, i64_w, i32_w]
         rfl
        refine pure_ (i := 7) (N := some 39) (v := ?_) (a' := ?_) #[true, true, true, true, false, false, true, true, false, false, false, false, false, false] rfl rfl (any_of HT_.out (by kernel_rfl)) (fun _ _ _ h => h) (Or.inl ⟨by rfl, ?_⟩) ?_ ?_
        rotate_left
        ·intro w'
         go_simp
         with_reducible rfl
        rotate_left
        ·simp only [Act.put, List.setIfInBounds_toArray, List.set_cons_zero, List.set_cons_succ, i64_w, i32_w]
         rfl
        refine pure_ (i := 8) (N := some 40) (v := ?_) (a' := ?_) #[true, true, true, true, false, false, true, true, true, false, false, false, false, false] rfl rfl (any_of HT_.out (by kernel_rfl)) (fun _ _ _ h => h) (Or.inl ⟨by rfl, ?_⟩) ?_ ?_
        rotate_left
        ·intro w'
         go_simp
         with_reducible rfl
        rotate_left
        ·simp only [Act.put, List.setIfInBounds_toArray, List.set_cons_zero, List.set_cons_succ, i64_w, i32_w]
         rfl
        refine pure_ (i := 9) (N := some 41) (v := ?_) (a' := ?_) #[true, true, true, true, false, false, true, true, true, true, false, false, false, false] rfl rfl (any_of HT_.out (by kernel_rfl)) (fun _ _ _ h => h) (Or.inl ⟨by rfl, ?_⟩) ?_ ?_
        rotate_left
        ·intro w'
         go_simp
         with_reducible rfl
        rotate_left
        ·simp only [Act.put, List.setIfInBounds_toArray, List.set_cons_zero, List.set_cons_succ, i64_w, i32_w]
         rfl
        refine take_ (i := 4) (N := some 36) (v := ?_) (a' := ?_) #[true, true, true, true, true, false, true, true, true, true, false, false, false, false] rfl rfl (take_ofW HT_.out HW_.out (by kernel_rfl)) (fun _ _ _ h => h) (Or.inl ⟨by rfl, ?_⟩) hHeld ?_ ?_
        rotate_left
        ·rintro w' ⟨s0, s1, s2, s3⟩
         go_simp
         with_reducible rfl
        rotate_left
        ·simp only [Act.put, List.setIfInBounds_toArray, List.set_cons_zero, List.set_cons_succ, i64_w, i32_w]
         rfl
        refine pure_ (i := 5) (N := some 37) (v := ?_) (a' := ?_) #[true, true, true, true, true, true, true, true, true, true, false, false, false, false] rfl rfl (any_of HT_.out (by kernel_rfl)) (fun _ _ _ h => h) (Or.inl ⟨by rfl, ?_⟩) ?_ ?_
        rotate_left
        ·intro w'
         go_simp
         with_reducible rfl
        rotate_left
        ·simp only [Act.put, List.setIfInBounds_toArray, List.set_cons_zero, List.set_cons_succ, i64_w, i32_w]
         rfl
        refine take_ (i := 10) (N := some 42) (v := ?_) (a' := ?_) #[true, true, true, true, true, true, true, true, true, true, true, false, false, false] rfl rfl (take_ofW HT_.out HW_.out (by kernel_rfl)) (fun _ _ _ h => h) (Or.inl ⟨by rfl, ?_⟩) hHeld ?_ ?_
        rotate_left
        ·rintro w' ⟨s0, s1, s2, s3⟩
         go_simp
         with_reducible rfl
        rotate_left
        ·simp only [Act.put, List.setIfInBounds_toArray, List.set_cons_zero, List.set_cons_succ, i64_w, i32_w]
         rfl
        refine pure_ (i := 11) (N := some 43) (v := ?_) (a' := ?_) #[true, true, true, true, true, true, true, true, true, true, true, true, false, false] rfl rfl (any_of HT_.out (by kernel_rfl)) (fun _ _ _ h => h) (Or.inl ⟨by rfl, ?_⟩) ?_ ?_
        rotate_left
        ·intro w'
         go_simp
         with_reducible rfl
        rotate_left
        ·simp only [Act.put, List.setIfInBounds_toArray, List.set_cons_zero, List.set_cons_succ, i64_w, i32_w]
         rfl
        refine pure_ (i := 12) (N := some 44) (v := ?_) (a' := ?_) #[true, true, true, true, true, true, true, true, true, true, true, true, true, false] rfl rfl (any_of HT_.out (by kernel_rfl)) (fun _ _ _ h => h) (Or.inl ⟨by rfl, ?_⟩) ?_ ?_
        rotate_left
        ·intro w'
         go_simp
         with_reducible rfl
        rotate_left
        ·simp only [Act.put, List.setIfInBounds_toArray, List.set_cons_zero, List.set_cons_succ, i64_w, i32_w]
         rfl
        refine pure_ (i := 13) (N := some 45) (v := ?_) (a' := ?_) #[true, true, true, true, true, true, true, true, true, true, true, true, true, true] rfl rfl (any_of HT_.out (by kernel_rfl)) (fun _ _ _ h => h) (Or.inl ⟨by rfl, ?_⟩) ?_ ?_
        rotate_left
        ·intro w'
         go_simp
         with_reducible rfl
        rotate_left
        ·simp only [Act.put, List.setIfInBounds_toArray, List.set_cons_zero, List.set_cons_succ, i64_w, i32_w]
         rfl
        refine done_ (done_of HT_.out (by kernel_rfl)) ?_
        try go_wp2_with (first | ((with_reducible refine gate_callee (f := 7) rfl ?_); refine goesL_ (some 46) rfl rfl Tryd.func7 (by kernel_rfl) rfl #[] rfl (by (try simp only [List.map_toArray, List.map_cons, List.map_nil]); first | done | rfl | (simp only [List.length_drop, List.length_take]; rfl)) ?_; (with_reducible refine (exequaturlaw17_answers.calls  t273 _ A17.out (hG := GOK.below hG (by repeat (first | (with_reducible first | exact HB.out | apply below_alloc | apply pw_below_drewN | apply below_drew1 | refine below_set ?_ GE269.out | refine below_set ?_ GE296.out) | exact HB.out)))).mono ?_); rintro e w19 ⟨rfl, hb⟩; refine ⟨_, rfl, ?_⟩; have n0_ := Aside0.mk (blk_belowB BK269.out (by (with_reducible repeat (first | refine blk_drewN ?_ _ | refine blk_drew ?_ | refine blk_alloc ?_ _)); exact BK269.out) hb); have n1_ := Aside0.mk (below_step (by repeat (first | (with_reducible first | exact HB.out | apply below_alloc | apply pw_below_drewN | apply below_drew1 | refine below_set ?_ GE269.out) | exact HB.out)) hb); clear BK269; clear HB; have BK269 := n0_; have HB := n1_; clear n0_ n1_; (try clear hb); (try clear hb2); (try clear hk); (try clear hi)))
        go_ret
        first | (focus (exfalso; simp_all; done)) | (exact ⟨by first | rfl | (simp [errW_none, errW_some] <;> rfl) | (simp [*, errW_none, errW_some] <;> rfl), by repeat (first | (with_reducible first | exact HB.out | apply below_alloc | apply pw_below_drewN | apply below_drew1 | refine below_set ?_ GE269.out) | exact HB.out)⟩) | (focus (exfalso; simp_all; done))
        all_goals (first | (exfalso; simp_all <;> omega) | (go_ret; exact ⟨by first | rfl | (simp [errW_none, errW_some] <;> rfl) | (simp [*, errW_none, errW_some] <;> rfl), by repeat (first | (with_reducible first | exact HB.out | apply below_alloc | apply pw_below_drewN | apply below_drew1 | refine below_set ?_ GE269.out) | exact HB.out)⟩))
       ·rw [if_neg c16] at H
        have c16b0 : decide (300 < (wrap64 ((((rd_T39 l1 x7_2).f0).size : Int) + (((rd_T39 l1 x7_2).f1).size : Int)))) = false := decide_eq_false c16
        clear c16
        have H' := Aside0.mk H
        clear H
        try go_wp2
        have n0_ := Aside0.mk (blk_drew BK269.out)
        have n1_ := Aside0.mk (below_drew1 HB.out)
        clear BK269; clear HB
        have BK269 := n0_
        have HB := n1_
        clear n0_ n1_
        have p271 : 0 ≤ (x7_2 : Int) := of_decide_eq_true (by first | (with_reducible assumption) | assumption)
        have q271 : x7_2 < (l1.length : Int) := of_decide_eq_true (by first | (with_reducible assumption) | assumption)
        obtain ⟨ad271, e271, hx271_0, hx271_1⟩ := at_T39 HR1.out x7_2 p271 q271
        have hw271_1 := hx271_1
        have hw271_0 := hx271_0
        cases e271
        replace hx271_0 := (HB.out.cell (World.block_lt_of_cell? w _ hx271_0)).trans hx271_0
        replace hx271_1 := (HB.out.cell (World.block_lt_of_cell? w _ hx271_1)).trans hx271_1
        replace p271 := eq_true p271
        replace q271 := eq_true q271
        have p272 : 0 ≤ (x7_2 : Int) := of_decide_eq_true (by first | (with_reducible assumption) | assumption)
        have q272 : x7_2 < (l1.length : Int) := of_decide_eq_true (by first | (with_reducible assumption) | assumption)
        obtain ⟨ad272, e272, hx272_0, hx272_1⟩ := at_T39 HR1.out x7_2 p272 q272
        have hw272_1 := hx272_1
        have hw272_0 := hx272_0
        obtain rfl : ad271 = ad272 := (by injection e272)
        replace hx272_0 := (HB.out.cell (World.block_lt_of_cell? w _ hx272_0)).trans hx272_0
        replace hx272_1 := (HB.out.cell (World.block_lt_of_cell? w _ hx272_1)).trans hx272_1
        replace p272 := eq_true p272
        replace q272 := eq_true q272
        refine start_ (n := 14) (S := fun w' => w'.cell? (ad271.add ((x7_2).toNat * 2)) = some (.string ((rd_T39 l1 x7_2).f0)) ∧ w'.cell? ⟨(ad271.add ((x7_2).toNat * 2)).block, (ad271.add ((x7_2).toNat * 2)).off + 1, none⟩ = some (.string ((rd_T39 l1 x7_2).f1)) ∧ w'.cell? (ad271.add ((x7_2).toNat * 2)) = some (.string ((rd_T39 l1 x7_2).f0)) ∧ w'.cell? ⟨(ad271.add ((x7_2).toNat * 2)).block, (ad271.add ((x7_2).toNat * 2)).off + 1, none⟩ = some (.string ((rd_T39 l1 x7_2).f1))) (ds := []) #[false, false, false, false, false, false, false, false, false, false, false, false, false, false] (by kernel_rfl) rfl rfl ⟨((HB.out.cell (World.block_lt_of_cell? w _ hw271_0)).trans hw271_0), ((HB.out.cell (World.block_lt_of_cell? w _ hw271_1)).trans hw271_1), ((HB.out.cell (World.block_lt_of_cell? w _ hw272_0)).trans hw272_0), ((HB.out.cell (World.block_lt_of_cell? w _ hw272_1)).trans hw272_1)⟩ (fun hHeld => ?_); refine with_tabW exequaturlaw17_AskTwice.tab6 exequaturlaw17_AskTwice.bits6 (fun HT_ HW_ => ?_)
        generalize wr.drew = w20 at BK269 HB hx271_0 hx271_1 hx272_0 hx272_1 hHeld ⊢
        refine pure_ (i := 0) (N := some 32) (v := ?_) (a' := ?_) #[true, false, false, false, false, false, false, false, false, false, false, false, false, false] rfl rfl (any_of HT_.out (by kernel_rfl)) (fun _ _ _ h => h) (Or.inl ⟨by rfl, ?_⟩) ?_ ?_
        rotate_left
        ·intro w'
         go_simp
         with_reducible rfl
        rotate_left
        ·simp only [Act.put, List.setIfInBounds_toArray, List.set_cons_zero, List.set_cons_succ, i64_w, i32_w]
         rfl
        refine pure_ (i := 1) (N := some 33) (v := ?_) (a' := ?_) #[true, true, false, false, false, false, false, false, false, false, false, false, false, false] rfl rfl (any_of HT_.out (by kernel_rfl)) (fun _ _ _ h => h) (Or.inl ⟨by rfl, ?_⟩) ?_ ?_
        rotate_left
        ·intro w'
         go_simp
         with_reducible rfl
        rotate_left
        ·simp only [Act.put, List.setIfInBounds_toArray, List.set_cons_zero, List.set_cons_succ, i64_w, i32_w]
         rfl
        refine pure_ (i := 2) (N := some 34) (v := ?_) (a' := ?_) #[true, true, true, false, false, false, false, false, false, false, false, false, false, false] rfl rfl (any_of HT_.out (by kernel_rfl)) (fun _ _ _ h => h) (Or.inl ⟨by rfl, ?_⟩) ?_ ?_
        rotate_left
        ·intro w'
         go_simp
         with_reducible rfl
        rotate_left
        ·simp only [Act.put, List.setIfInBounds_toArray, List.set_cons_zero, List.set_cons_succ, i64_w, i32_w]
         rfl
        refine pure_ (i := 3) (N := some 35) (v := ?_) (a' := ?_) #[true, true, true, true, false, false, false, false, false, false, false, false, false, false] rfl rfl (any_of HT_.out (by kernel_rfl)) (fun _ _ _ h => h) (Or.inl ⟨by rfl, ?_⟩) ?_ ?_
        rotate_left
        ·intro w'
         go_simp
         with_reducible rfl
        rotate_left
        ·simp only [Act.put, List.setIfInBounds_toArray, List.set_cons_zero, List.set_cons_succ, i64_w, i32_w]
         rfl
        refine pure_ (i := 6) (N := some 38) (v := ?_) (a' := ?_) #[true, true, true, true, false, false, true, false, false, false, false, false, false, false] rfl rfl (any_of HT_.out (by kernel_rfl)) (fun _ _ _ h => h) (Or.inl ⟨by rfl, ?_⟩) ?_ ?_
        rotate_left
        ·intro w'
         go_simp
         with_reducible rfl
        rotate_left
        ·simp only [Act.put, List.setIfInBounds_toArray, List.set_cons_zero, List.set_cons_succ, i64_w, i32_w]
         rfl
        refine pure_ (i := 7) (N := some 39) (v := ?_) (a' := ?_) #[true, true, true, true, false, false, true, true, false, false, false, false, false, false] rfl rfl (any_of HT_.out (by kernel_rfl)) (fun _ _ _ h => h) (Or.inl ⟨by rfl, ?_⟩) ?_ ?_
        rotate_left
        ·intro w'
         go_simp
         with_reducible rfl
        rotate_left
        ·simp only [Act.put, List.setIfInBounds_toArray, List.set_cons_zero, List.set_cons_succ, i64_w, i32_w]
         rfl
        refine pure_ (i := 8) (N := some 40) (v := ?_) (a' := ?_) #[true, true, true, true, false, false, true, true, true, false, false, false, false, false] rfl rfl (any_of HT_.out (by kernel_rfl)) (fun _ _ _ h => h) (Or.inl ⟨by rfl, ?_⟩) ?_ ?_
        rotate_left
        ·intro w'
         go_simp
         with_reducible rfl
        rotate_left
        ·simp only [Act.put, List.setIfInBounds_toArray, List.set_cons_zero, List.set_cons_succ, i64_w, i32_w]
         rfl
        refine pure_ (i := 9) (N := some 41) (v := ?_) (a' := ?_) #[true, true, true, true, false, false, true, true, true, true, false, false, false, false] rfl rfl (any_of HT_.out (by kernel_rfl)) (fun _ _ _ h => h) (Or.inl ⟨by rfl, ?_⟩) ?_ ?_
        rotate_left
        ·intro w'
         go_simp
         with_reducible rfl
        rotate_left
        ·simp only [Act.put, List.setIfInBounds_toArray, List.set_cons_zero, List.set_cons_succ, i64_w, i32_w]
         rfl
        refine take_ (i := 4) (N := some 36) (v := ?_) (a' := ?_) #[true, true, true, true, true, false, true, true, true, true, false, false, false, false] rfl rfl (take_ofW HT_.out HW_.out (by kernel_rfl)) (fun _ _ _ h => h) (Or.inl ⟨by rfl, ?_⟩) hHeld ?_ ?_
        rotate_left
        ·rintro w' ⟨s0, s1, s2, s3⟩
         go_simp
         with_reducible rfl
        rotate_left
        ·simp only [Act.put, List.setIfInBounds_toArray, List.set_cons_zero, List.set_cons_succ, i64_w, i32_w]
         rfl
        refine pure_ (i := 5) (N := some 37) (v := ?_) (a' := ?_) #[true, true, true, true, true, true, true, true, true, true, false, false, false, false] rfl rfl (any_of HT_.out (by kernel_rfl)) (fun _ _ _ h => h) (Or.inl ⟨by rfl, ?_⟩) ?_ ?_
        rotate_left
        ·intro w'
         go_simp
         with_reducible rfl
        rotate_left
        ·simp only [Act.put, List.setIfInBounds_toArray, List.set_cons_zero, List.set_cons_succ, i64_w, i32_w]
         rfl
        refine take_ (i := 10) (N := some 42) (v := ?_) (a' := ?_) #[true, true, true, true, true, true, true, true, true, true, true, false, false, false] rfl rfl (take_ofW HT_.out HW_.out (by kernel_rfl)) (fun _ _ _ h => h) (Or.inl ⟨by rfl, ?_⟩) hHeld ?_ ?_
        rotate_left
        ·rintro w' ⟨s0, s1, s2, s3⟩
         go_simp
         with_reducible rfl
        rotate_left
        ·simp only [Act.put, List.setIfInBounds_toArray, List.set_cons_zero, List.set_cons_succ, i64_w, i32_w]
         rfl
        refine pure_ (i := 11) (N := some 43) (v := ?_) (a' := ?_) #[true, true, true, true, true, true, true, true, true, true, true, true, false, false] rfl rfl (any_of HT_.out (by kernel_rfl)) (fun _ _ _ h => h) (Or.inl ⟨by rfl, ?_⟩) ?_ ?_
        rotate_left
        ·intro w'
         go_simp
         with_reducible rfl
        rotate_left
        ·simp only [Act.put, List.setIfInBounds_toArray, List.set_cons_zero, List.set_cons_succ, i64_w, i32_w]
         rfl
        refine pure_ (i := 12) (N := some 44) (v := ?_) (a' := ?_) #[true, true, true, true, true, true, true, true, true, true, true, true, true, false] rfl rfl (any_of HT_.out (by kernel_rfl)) (fun _ _ _ h => h) (Or.inl ⟨by rfl, ?_⟩) ?_ ?_
        rotate_left
        ·intro w'
         go_simp
         with_reducible rfl
        rotate_left
        ·simp only [Act.put, List.setIfInBounds_toArray, List.set_cons_zero, List.set_cons_succ, i64_w, i32_w]
         rfl
        refine pure_ (i := 13) (N := some 45) (v := ?_) (a' := ?_) #[true, true, true, true, true, true, true, true, true, true, true, true, true, true] rfl rfl (any_of HT_.out (by kernel_rfl)) (fun _ _ _ h => h) (Or.inl ⟨by rfl, ?_⟩) ?_ ?_
        rotate_left
        ·intro w'
         go_simp
         with_reducible rfl
        rotate_left
        ·simp only [Act.put, List.setIfInBounds_toArray, List.set_cons_zero, List.set_cons_succ, i64_w, i32_w]
         rfl
        refine done_ (done_of HT_.out (by kernel_rfl)) ?_
        try go_wp2
        go_roundg k2
        case measure => have := HJ3.out; have := HK2.out; omega
        case rel => exact ⟨(wrap64 (x7_2 + 1)), (by first | rfl | (simp; done) | (simp [*]; done) | (refine congrArg Value.bool ?_; rw [Bool.eq_iff_iff]; simp; done)), H', ⟨by have := HJ3.out; have := HK2.out; omega⟩, ⟨by (with_reducible repeat (first | refine blk_drewN ?_ _ | refine blk_drew ?_ | refine blk_alloc ?_ _)); exact BK269.out⟩, ⟨by repeat (first | (with_reducible first | exact HB.out | apply below_alloc | apply pw_below_drewN | apply below_drew1 | refine below_set ?_ GE269.out) | exact HB.out)⟩⟩
      ·rw [if_neg c14] at H
       have c14b0 : decide (x7_2 < (l1.length : Int)) = false := decide_eq_false c14
       clear c14
       obtain ⟨y274, hy274⟩ : ∃ y_ : List (S39), y_ = (([] : List (S39))) := ⟨_, rfl⟩
       replace H : (if y274.length + l1.length < 4398046511104 then ((some (y274 ++ l1 : List (S39))).bind fun y277 => (if (l1.length : Int) = 0 then (none) else (if 0 ≤ (Int.tmod (wrap64 (a2)) (l1.length : Int)) then (if (Int.tmod (wrap64 (a2)) (l1.length : Int)) < (l1.length : Int) then ((some (([(⟨(rd_T39 l1 (Int.tmod (wrap64 (a2)) (l1.length : Int))).f0, (rd_T39 l1 (Int.tmod (wrap64 (a2)) (l1.length : Int))).f1⟩ : S39)] : List (S39)) : List (S39))).bind fun y281 => (if y277.length + y281.length < 4398046511104 then ((exequaturref01_Build.f k2 (y277 ++ y281)).bind fun t287 => ((ask_Check.f a0_0 a0_1 a0_2 l0_3 l0_4 t287).bind fun bt288 => ((exequaturlaw17_answers.f).bind fun t297 => (if t297 = true then (if (bt288.1.toList == ([] : List UInt8) && (bt288.2.1.toList == ([] : List UInt8) && (bt288.2.2.1.toList == ([] : List UInt8) && (bt288.2.2.2.1.toList == ([] : List UInt8) && (bt288.2.2.2.2.1.toList == ([] : List UInt8) && (bt288.2.2.2.2.2.1.toList == ([] : List UInt8))))))) = true then (if bt288.2.2.2.2.2.2.1.toList = ([105, 110, 118, 97, 108, 105, 100, 95, 114, 101, 113, 117, 101, 115, 116] : List UInt8) then (some (!bt288.2.2.2.2.2.2.2)) else (some false)) else (some false)) else (some false))))) else (none))) else (none)) else (none)))) else (none)) = some r := by first | (rw [hy274]; with_reducible exact H) | (have H2_ := (Option.bind_some _ _).symm.trans H; rw [hy274]; with_reducible exact H2_) | (have H2_ := (Option.bind_some _ _).symm.trans H; with_reducible exact H2_) | with_reducible exact H | (rw [hy274]; exact H) | exact H
       have Ny274 := Aside0.mk hy274
       clear hy274
       by_cases c21 : y274.length + l1.length < 4398046511104
       rotate_left
       ·rw [if_neg c21] at H; exact absurd H (by simp)
       rw [if_pos c21] at H
       have LMc21 := Aside0.mk c21
       clear c21
       obtain ⟨y277, hy277⟩ : ∃ y_ : List (S39), y_ = (y274 ++ l1) := ⟨_, rfl⟩
       replace H : (if (l1.length : Int) = 0 then (none) else (if 0 ≤ (Int.tmod (wrap64 (a2)) (l1.length : Int)) then (if (Int.tmod (wrap64 (a2)) (l1.length : Int)) < (l1.length : Int) then ((some (([(⟨(rd_T39 l1 (Int.tmod (wrap64 (a2)) (l1.length : Int))).f0, (rd_T39 l1 (Int.tmod (wrap64 (a2)) (l1.length : Int))).f1⟩ : S39)] : List (S39)) : List (S39))).bind fun y281 => (if y277.length + y281.length < 4398046511104 then ((exequaturref01_Build.f k2 (y277 ++ y281)).bind fun t287 => ((ask_Check.f a0_0 a0_1 a0_2 l0_3 l0_4 t287).bind fun bt288 => ((exequaturlaw17_answers.f).bind fun t297 => (if t297 = true then (if (bt288.1.toList == ([] : List UInt8) && (bt288.2.1.toList == ([] : List UInt8) && (bt288.2.2.1.toList == ([] : List UInt8) && (bt288.2.2.2.1.toList == ([] : List UInt8) && (bt288.2.2.2.2.1.toList == ([] : List UInt8) && (bt288.2.2.2.2.2.1.toList == ([] : List UInt8))))))) = true then (if bt288.2.2.2.2.2.2.1.toList = ([105, 110, 118, 97, 108, 105, 100, 95, 114, 101, 113, 117, 101, 115, 116] : List UInt8) then (some (!bt288.2.2.2.2.2.2.2)) else (some false)) else (some false)) else (some false))))) else (none))) else (none)) else (none))) = some r := by first | (rw [hy277]; with_reducible exact H) | (have H2_ := (Option.bind_some _ _).symm.trans H; rw [hy277]; with_reducible exact H2_) | (have H2_ := (Option.bind_some _ _).symm.trans H; with_reducible exact H2_) | with_reducible exact H | (rw [hy277]; exact H) | exact H
       have Ny277 := Aside0.mk hy277
       clear hy277
       by_cases c22 : (l1.length : Int) = 0
       ·rw [if_pos c22] at H
        exact absurd H (by simp)
       ·rw [if_neg c22] at H
        have c22b0 : ((l1.length : Int) == 0) = false := beq_eq_false_iff_ne.mpr c22
        have c22b1 : ((l1.length : Int) != 0) = true := bne_iff_ne.mpr c22
        have c22b2 : ¬ (l1 = []) := fun h_ => c22 (by rw [h_]; rfl)
        obtain ⟨ji23, hji23⟩ : ∃ j_ : Int, (Int.tmod (wrap64 (a2)) (l1.length : Int)) = j_ := ⟨_, rfl⟩
        replace H : (if 0 ≤ (ji23) then (if (ji23) < (l1.length : Int) then ((some (([(⟨(rd_T39 l1 (ji23)).f0, (rd_T39 l1 (ji23)).f1⟩ : S39)] : List (S39)) : List (S39))).bind fun y281 => (if y277.length + y281.length < 4398046511104 then ((exequaturref01_Build.f k2 (y277 ++ y281)).bind fun t287 => ((ask_Check.f a0_0 a0_1 a0_2 l0_3 l0_4 t287).bind fun bt288 => ((exequaturlaw17_answers.f).bind fun t297 => (if t297 = true then (if (bt288.1.toList == ([] : List UInt8) && (bt288.2.1.toList == ([] : List UInt8) && (bt288.2.2.1.toList == ([] : List UInt8) && (bt288.2.2.2.1.toList == ([] : List UInt8) && (bt288.2.2.2.2.1.toList == ([] : List UInt8) && (bt288.2.2.2.2.2.1.toList == ([] : List UInt8))))))) = true then (if bt288.2.2.2.2.2.2.1.toList = ([105, 110, 118, 97, 108, 105, 100, 95, 114, 101, 113, 117, 101, 115, 116] : List UInt8) then (some (!bt288.2.2.2.2.2.2.2)) else (some false)) else (some false)) else (some false))))) else (none))) else (none)) else (none)) = some r := by first | (rw [hji23] at H; exact H) | (simp only [hji23] at H ⊢; exact H)
        by_cases c24 : 0 ≤ (ji23)
        rotate_left
        ·rw [if_neg c24] at H; exact absurd H (by simp)
        rw [if_pos c24] at H
        have c24b0 : decide (0 ≤ (ji23)) = true := decide_eq_true c24
        clear c24
        by_cases c25 : (ji23) < (l1.length : Int)
        rotate_left
        ·rw [if_neg c25] at H; exact absurd H (by simp)
        rw [if_pos c25] at H
        have c25b0 : decide ((ji23) < (l1.length : Int)) = true := decide_eq_true c25
        clear c25
        obtain ⟨y281, hy281⟩ : ∃ y_ : List (S39), y_ = (([(⟨(rd_T39 l1 (ji23)).f0, (rd_T39 l1 (ji23)).f1⟩ : S39)] : List (S39))) := ⟨_, rfl⟩
        replace H : (if y277.length + y281.length < 4398046511104 then ((exequaturref01_Build.f k2 (y277 ++ y281)).bind fun t287 => ((ask_Check.f a0_0 a0_1 a0_2 l0_3 l0_4 t287).bind fun bt288 => ((exequaturlaw17_answers.f).bind fun t297 => (if t297 = true then (if (bt288.1.toList == ([] : List UInt8) && (bt288.2.1.toList == ([] : List UInt8) && (bt288.2.2.1.toList == ([] : List UInt8) && (bt288.2.2.2.1.toList == ([] : List UInt8) && (bt288.2.2.2.2.1.toList == ([] : List UInt8) && (bt288.2.2.2.2.2.1.toList == ([] : List UInt8))))))) = true then (if bt288.2.2.2.2.2.2.1.toList = ([105, 110, 118, 97, 108, 105, 100, 95, 114, 101, 113, 117, 101, 115, 116] : List UInt8) then (some (!bt288.2.2.2.2.2.2.2)) else (some false)) else (some false)) else (some false))))) else (none)) = some r := by first | (rw [hy281]; with_reducible exact H) | (have H2_ := (Option.bind_some _ _).symm.trans H; rw [hy281]; with_reducible exact H2_) | (have H2_ := (Option.bind_some _ _).symm.trans H; with_reducible exact H2_) | with_reducible exact H | (rw [hy281]; exact H) | exact H
        have Ny281 := Aside0.mk hy281
        clear hy281
        by_cases c26 : y277.length + y281.length < 4398046511104
        rotate_left
        ·rw [if_neg c26] at H; exact absurd H (by simp)
        rw [if_pos c26] at H
        have LMc26 := Aside0.mk c26
        clear c26
        obtain ⟨y284, hy284⟩ : ∃ y_ : List (S39), y_ = (y277 ++ y281) := ⟨_, rfl⟩
        replace H : ((exequaturref01_Build.f k2 y284).bind fun t287 => ((ask_Check.f a0_0 a0_1 a0_2 l0_3 l0_4 t287).bind fun bt288 => ((exequaturlaw17_answers.f).bind fun t297 => (if t297 = true then (if (bt288.1.toList == ([] : List UInt8) && (bt288.2.1.toList == ([] : List UInt8) && (bt288.2.2.1.toList == ([] : List UInt8) && (bt288.2.2.2.1.toList == ([] : List UInt8) && (bt288.2.2.2.2.1.toList == ([] : List UInt8) && (bt288.2.2.2.2.2.1.toList == ([] : List UInt8))))))) = true then (if bt288.2.2.2.2.2.2.1.toList = ([105, 110, 118, 97, 108, 105, 100, 95, 114, 101, 113, 117, 101, 115, 116] : List UInt8) then (some (!bt288.2.2.2.2.2.2.2)) else (some false)) else (some false)) else (some false))))) = some r := by first | (rw [hy284]; with_reducible exact H) | (have H2_ := (Option.bind_some _ _).symm.trans H; rw [hy284]; with_reducible exact H2_) | (have H2_ := (Option.bind_some _ _).symm.trans H; with_reducible exact H2_) | with_reducible exact H | (rw [hy284]; exact H) | exact H
        have Ny284 := Aside0.mk hy284
        clear hy284
        replace H := Option.bind_eq_some_iff.mp H
        obtain ⟨t287, A270, H⟩ := H
        replace H : ((ask_Check.f a0_0 a0_1 a0_2 l0_3 l0_4 t287).bind fun bt288 => ((exequaturlaw17_answers.f).bind fun t297 => (if t297 = true then (if (bt288.1.toList == ([] : List UInt8) && (bt288.2.1.toList == ([] : List UInt8) && (bt288.2.2.1.toList == ([] : List UInt8) && (bt288.2.2.2.1.toList == ([] : List UInt8) && (bt288.2.2.2.2.1.toList == ([] : List UInt8) && (bt288.2.2.2.2.2.1.toList == ([] : List UInt8))))))) = true then (if bt288.2.2.2.2.2.2.1.toList = ([105, 110, 118, 97, 108, 105, 100, 95, 114, 101, 113, 117, 101, 115, 116] : List UInt8) then (some (!bt288.2.2.2.2.2.2.2)) else (some false)) else (some false)) else (some false)))) = some r := H
        have A27 := Aside0.mk A270
        clear A270
        replace H := Option.bind_eq_some_iff.mp H
        obtain ⟨⟨t288, t289, t290, t291, t292, t293, t294, t295⟩, A280, H⟩ := H
        replace H : ((exequaturlaw17_answers.f).bind fun t297 => (if t297 = true then (if (t288.toList == ([] : List UInt8) && (t289.toList == ([] : List UInt8) && (t290.toList == ([] : List UInt8) && (t291.toList == ([] : List UInt8) && (t292.toList == ([] : List UInt8) && (t293.toList == ([] : List UInt8))))))) = true then (if t294.toList = ([105, 110, 118, 97, 108, 105, 100, 95, 114, 101, 113, 117, 101, 115, 116] : List UInt8) then (some (!t295)) else (some false)) else (some false)) else (some false))) = some r := H
        have A28 := Aside0.mk A280
        clear A280
        replace H := Option.bind_eq_some_iff.mp H
        obtain ⟨t297, A290, H⟩ := H
        replace H : (if t297 = true then (if (t288.toList == ([] : List UInt8) && (t289.toList == ([] : List UInt8) && (t290.toList == ([] : List UInt8) && (t291.toList == ([] : List UInt8) && (t292.toList == ([] : List UInt8) && (t293.toList == ([] : List UInt8))))))) = true then (if t294.toList = ([105, 110, 118, 97, 108, 105, 100, 95, 114, 101, 113, 117, 101, 115, 116] : List UInt8) then (some (!t295)) else (some false)) else (some false)) else (some false)) = some r := H
        have A29 := Aside0.mk A290
        clear A290
        have HH_ := Aside0.mk H
        clear H
        try go_wp2
        have n0_ := Aside0.mk (blk_drew BK269.out)
        have n1_ := Aside0.mk (below_drew1 HB.out)
        clear BK269; clear HB
        have BK269 := n0_
        have HB := n1_
        clear n0_ n1_
        have p280 : 0 ≤ ((ji23) : Int) := of_decide_eq_true (by first | (with_reducible assumption) | assumption)
        have q280 : (ji23) < (l1.length : Int) := of_decide_eq_true (by first | (with_reducible assumption) | assumption)
        obtain ⟨ad280, e280, hx280_0, hx280_1⟩ := at_T39 HR1.out (ji23) p280 q280
        have hw280_1 := hx280_1
        have hw280_0 := hx280_0
        cases e280
        replace hx280_0 := (HB.out.cell (World.block_lt_of_cell? w _ hx280_0)).trans hx280_0
        replace hx280_1 := (HB.out.cell (World.block_lt_of_cell? w _ hx280_1)).trans hx280_1
        replace p280 := eq_true p280
        replace q280 := eq_true q280
        refine start_ (n := 24) (S := fun w' => w'.cell? ⟨gb269, 0, none⟩ = some (.string a0_0) ∧ w'.cell? ⟨gb269, 1, none⟩ = some (.string a0_1) ∧ w'.cell? ⟨gb269, 2, none⟩ = some (.string a0_2) ∧ w'.cell? ⟨gb269, 3, none⟩ = some (.slice A0_3 l0_3.length c0_3) ∧ w'.cell? ⟨gb269, 4, none⟩ = some (.slice A0_4 l0_4.length c0_4) ∧ w'.cell? (ad280.add (((ji23)).toNat * 2)) = some (.string ((rd_T39 l1 (ji23)).f0)) ∧ w'.cell? ⟨(ad280.add (((ji23)).toNat * 2)).block, (ad280.add (((ji23)).toNat * 2)).off + 1, none⟩ = some (.string ((rd_T39 l1 (ji23)).f1))) (ds := []) #[false, false, false, false, false, false, false, false, false, false, false, false, false, false, false, false, false, false, false, false, false, false, false, false] (by kernel_rfl) rfl rfl ⟨(blk_cell BK269.out 0).trans rfl, (blk_cell BK269.out 1).trans rfl, (blk_cell BK269.out 2).trans rfl, (blk_cell BK269.out 3).trans rfl, (blk_cell BK269.out 4).trans rfl, ((HB.out.cell (World.block_lt_of_cell? w _ hw280_0)).trans hw280_0), ((HB.out.cell (World.block_lt_of_cell? w _ hw280_1)).trans hw280_1)⟩ (fun hHeld => ?_); refine with_tabW exequaturlaw17_AskTwice.tab8 exequaturlaw17_AskTwice.bits8 (fun HT_ HW_ => ?_)
        generalize wr.drew = w33 at BK269 HB hx280_0 hx280_1 hHeld ⊢
        refine pure_ (i := 2) (N := some 50) (v := ?_) (a' := ?_) #[false, false, true, false, false, false, false, false, false, false, false, false, false, false, false, false, false, false, false, false, false, false, false, false] rfl rfl (any_of HT_.out (by kernel_rfl)) (fun _ _ _ h => h) (Or.inl ⟨by rfl, ?_⟩) ?_ ?_
        rotate_left
        ·intro w'
         go_simp
         with_reducible rfl
        rotate_left
        ·simp only [Act.put, List.setIfInBounds_toArray, List.set_cons_zero, List.set_cons_succ, i64_w, i32_w]
         rfl
        refine pure_ (i := 4) (N := some 52) (v := ?_) (a' := ?_) #[false, false, true, false, true, false, false, false, false, false, false, false, false, false, false, false, false, false, false, false, false, false, false, false] rfl rfl (any_of HT_.out (by kernel_rfl)) (fun _ _ _ h => h) (Or.inl ⟨by rfl, ?_⟩) ?_ ?_
        rotate_left
        ·intro w'
         go_simp
         with_reducible rfl
        rotate_left
        ·simp only [Act.put, List.setIfInBounds_toArray, List.set_cons_zero, List.set_cons_succ, i64_w, i32_w]
         rfl
        refine pure_ (i := 5) (N := some 53) (v := ?_) (a' := ?_) #[false, false, true, false, true, true, false, false, false, false, false, false, false, false, false, false, false, false, false, false, false, false, false, false] rfl rfl (any_of HT_.out (by kernel_rfl)) (fun _ _ _ h => h) (Or.inl ⟨by rfl, ?_⟩) ?_ ?_
        rotate_left
        ·intro w'
         go_simp
         with_reducible rfl
        rotate_left
        ·simp only [Act.put, List.setIfInBounds_toArray, List.set_cons_zero, List.set_cons_succ, i64_w, i32_w]
         rfl
        refine pure_ (i := 6) (N := some 54) (v := ?_) (a' := ?_) #[false, false, true, false, true, true, true, false, false, false, false, false, false, false, false, false, false, false, false, false, false, false, false, false] rfl rfl (any_of HT_.out (by kernel_rfl)) (fun _ _ _ h => h) (Or.inl ⟨by rfl, ?_⟩) ?_ ?_
        rotate_left
        ·intro w'
         go_simp
         with_reducible rfl
        rotate_left
        ·simp only [Act.put, List.setIfInBounds_toArray, List.set_cons_zero, List.set_cons_succ, i64_w, i32_w]
         rfl
        refine pure_ (i := 7) (N := some 55) (v := ?_) (a' := ?_) #[false, false, true, false, true, true, true, true, false, false, false, false, false, false, false, false, false, false, false, false, false, false, false, false] rfl rfl (any_of HT_.out (by kernel_rfl)) (fun _ _ _ h => h) (Or.inl ⟨by rfl, ?_⟩) ?_ ?_
        rotate_left
        ·intro w'
         go_simp
         with_reducible rfl
        rotate_left
        ·simp only [Act.put, List.setIfInBounds_toArray, List.set_cons_zero, List.set_cons_succ, i64_w, i32_w]
         rfl
        refine pure_ (i := 8) (N := some 56) (v := ?_) (a' := ?_) #[false, false, true, false, true, true, true, true, true, false, false, false, false, false, false, false, false, false, false, false, false, false, false, false] rfl rfl (any_of HT_.out (by kernel_rfl)) (fun _ _ _ h => h) (Or.inl ⟨by rfl, ?_⟩) ?_ ?_
        rotate_left
        ·intro w'
         go_simp
         with_reducible rfl
        rotate_left
        ·simp only [Act.put, List.setIfInBounds_toArray, List.set_cons_zero, List.set_cons_succ, i64_w, i32_w]
         rfl
        refine pure_ (i := 9) (N := some 57) (v := ?_) (a' := ?_) #[false, false, true, false, true, true, true, true, true, true, false, false, false, false, false, false, false, false, false, false, false, false, false, false] rfl rfl (any_of HT_.out (by kernel_rfl)) (fun _ _ _ h => h) (Or.inl ⟨by rfl, ?_⟩) ?_ ?_
        rotate_left
        ·intro w'
         go_simp
         with_reducible rfl
        rotate_left
        ·simp only [Act.put, List.setIfInBounds_toArray, List.set_cons_zero, List.set_cons_succ, i64_w, i32_w]
         rfl
        refine pure_ (i := 10) (N := some 58) (v := ?_) (a' := ?_) #[false, false, true, false, true, true, true, true, true, true, true, false, false, false, false, false, false, false, false, false, false, false, false, false] rfl rfl (any_of HT_.out (by kernel_rfl)) (fun _ _ _ h => h) (Or.inl ⟨by rfl, ?_⟩) ?_ ?_
        rotate_left
        ·intro w'
         go_simp
         with_reducible rfl
        rotate_left
        ·simp only [Act.put, List.setIfInBounds_toArray, List.set_cons_zero, List.set_cons_succ, i64_w, i32_w]
         rfl
        refine take_ (i := 0) (N := some 48) (v := ?_) (a' := ?_) #[true, false, true, false, true, true, true, true, true, true, true, false, false, false, false, false, false, false, false, false, false, false, false, false] rfl rfl (take_ofW HT_.out HW_.out (by kernel_rfl)) (fun _ _ _ h => h) (Or.inl ⟨by rfl, ?_⟩) hHeld ?_ ?_
        rotate_left
        ·rintro w' ⟨s0, s1, s2, s3, s4, s5, s6⟩
         go_simp
         with_reducible rfl
        rotate_left
        ·simp only [Act.put, List.setIfInBounds_toArray, List.set_cons_zero, List.set_cons_succ, i64_w, i32_w]
         rfl
        refine take_ (i := 11) (N := some 59) (v := ?_) (a' := ?_) #[true, false, true, false, true, true, true, true, true, true, true, true, false, false, false, false, false, false, false, false, false, false, false, false] rfl rfl (take_ofW HT_.out HW_.out (by kernel_rfl)) (fun _ _ _ h => h) (Or.inl ⟨by rfl, ?_⟩) hHeld ?_ ?_
        rotate_left
        ·rintro w' ⟨s0, s1, s2, s3, s4, s5, s6⟩
         go_simp
         with_reducible rfl
        rotate_left
        ·simp only [Act.put, List.setIfInBounds_toArray, List.set_cons_zero, List.set_cons_succ, i64_w, i32_w]
         rfl
        refine join_ (σ := Value × Value × Value × Value × Nat) 3 #[true, true, true, true, true, true, true, true, true, true, true, true, true, true, true, true, true, true, true, true, true, false, false, false] (fun s_ => [(49, s_.1), (51, s_.2.1), (60, s_.2.2.1), (61, s_.2.2.2.1), (62, .string t287), (63, .tuple #[.agg #[.string t288, .string t289, .string t290, .string t291, .string t292, .string t293], .string t294, .bool t295]), (8, .pointer (some ⟨s_.2.2.2.2, 0, none⟩)), (47, .tuple #[.agg #[.string t288, .string t289, .string t290, .string t291, .string t292, .string t293], .string t294, .bool t295]), (64, .agg #[.string t288, .string t289, .string t290, .string t291, .string t292, .string t293]), (65, .string t294), (66, .bool t295)]) (fun s_ w' => (w'.cell? ⟨gb269, 0, none⟩ = some (.string a0_0) ∧ w'.cell? ⟨gb269, 1, none⟩ = some (.string a0_1) ∧ w'.cell? ⟨gb269, 2, none⟩ = some (.string a0_2) ∧ w'.cell? ⟨gb269, 3, none⟩ = some (.slice A0_3 l0_3.length c0_3) ∧ w'.cell? ⟨gb269, 4, none⟩ = some (.slice A0_4 l0_4.length c0_4) ∧ w'.cell? (ad280.add (((ji23)).toNat * 2)) = some (.string ((rd_T39 l1 (ji23)).f0)) ∧ w'.cell? ⟨(ad280.add (((ji23)).toNat * 2)).block, (ad280.add (((ji23)).toNat * 2)).off + 1, none⟩ = some (.string ((rd_T39 l1 (ji23)).f1))) ∧ (Kd.R k39 39 w' w.heap.size (fun k_ => some k_ ≠ (s_.2.2.2.1 : Value).ownBlock) s_.2.2.1 y281) ∧ (Kd.R k39 39 w' w.heap.size (fun k_ => some k_ ≠ (s_.2.2.1 : Value).ownBlock) s_.2.2.2.1 y284) ∧ (w'.heap[gb269]? = some (.cells #[.string a0_0, .string a0_1, .string a0_2, .slice A0_3 l0_3.length c0_3, .slice A0_4 l0_4.length c0_4] 27 (0, 0))) ∧ (w'.heap[s_.2.2.2.2]? = some (.cells #[.string (⟨#[]⟩ : ByteArray), .string (⟨#[]⟩ : ByteArray), .string (⟨#[]⟩ : ByteArray), .string (⟨#[]⟩ : ByteArray), .string (⟨#[]⟩ : ByteArray), .string (⟨#[]⟩ : ByteArray)] 30 (0, 0))) ∧ (w.heap.size ≤ s_.2.2.2.2) ∧ (w.heap.size ≤ s_.2.2.2.2) ∧ (gb269 ≠ s_.2.2.2.2) ∧ (s_.2.2.2.2 ≠ gb269) ∧ (Below w.heap.size w w')) ?_ ?_
        rotate_left
        ·intro hJ1_3_12_13_14_15_20
         refine join_ (σ := Value × Value × Value × Value) 4 #[true, true, true, true, true, true, true, true, true, true, true, true, true, true, true, true, true, true, true, true, false, false, false, false] (fun s_ => [(49, s_.1), (51, s_.2.1), (60, s_.2.2.1), (61, s_.2.2.2), (62, .string t287), (63, .tuple #[.agg #[.string t288, .string t289, .string t290, .string t291, .string t292, .string t293], .string t294, .bool t295]), (47, .tuple #[.agg #[.string t288, .string t289, .string t290, .string t291, .string t292, .string t293], .string t294, .bool t295]), (64, .agg #[.string t288, .string t289, .string t290, .string t291, .string t292, .string t293]), (65, .string t294), (66, .bool t295)]) (fun s_ w' => (w'.cell? ⟨gb269, 0, none⟩ = some (.string a0_0) ∧ w'.cell? ⟨gb269, 1, none⟩ = some (.string a0_1) ∧ w'.cell? ⟨gb269, 2, none⟩ = some (.string a0_2) ∧ w'.cell? ⟨gb269, 3, none⟩ = some (.slice A0_3 l0_3.length c0_3) ∧ w'.cell? ⟨gb269, 4, none⟩ = some (.slice A0_4 l0_4.length c0_4) ∧ w'.cell? (ad280.add (((ji23)).toNat * 2)) = some (.string ((rd_T39 l1 (ji23)).f0)) ∧ w'.cell? ⟨(ad280.add (((ji23)).toNat * 2)).block, (ad280.add (((ji23)).toNat * 2)).off + 1, none⟩ = some (.string ((rd_T39 l1 (ji23)).f1))) ∧ (Kd.R k39 39 w' w.heap.size (fun k_ => some k_ ≠ (s_.2.2.2 : Value).ownBlock) s_.2.2.1 y281) ∧ (Kd.R k39 39 w' w.heap.size (fun k_ => some k_ ≠ (s_.2.2.1 : Value).ownBlock) s_.2.2.2 y284) ∧ (w'.heap[gb269]? = some (.cells #[.string a0_0, .string a0_1, .string a0_2, .slice A0_3 l0_3.length c0_3, .slice A0_4 l0_4.length c0_4] 27 (0, 0))) ∧ (Below w.heap.size w w')) ?_ ?_
         rotate_left
         ·intro hJ1_3_12_13_14_15
          refine join_ (σ := Value × Value × Value × Value × Nat) 8 #[true, true, true, true, true, true, true, true, true, true, true, true, true, true, true, false, false, false, false, false, true, false, false, false] (fun s_ => [(49, s_.1), (51, s_.2.1), (60, s_.2.2.1), (61, s_.2.2.2.1), (62, .string t287), (8, .pointer (some ⟨s_.2.2.2.2, 0, none⟩))]) (fun s_ w' => (w'.cell? ⟨gb269, 0, none⟩ = some (.string a0_0) ∧ w'.cell? ⟨gb269, 1, none⟩ = some (.string a0_1) ∧ w'.cell? ⟨gb269, 2, none⟩ = some (.string a0_2) ∧ w'.cell? ⟨gb269, 3, none⟩ = some (.slice A0_3 l0_3.length c0_3) ∧ w'.cell? ⟨gb269, 4, none⟩ = some (.slice A0_4 l0_4.length c0_4) ∧ w'.cell? (ad280.add (((ji23)).toNat * 2)) = some (.string ((rd_T39 l1 (ji23)).f0)) ∧ w'.cell? ⟨(ad280.add (((ji23)).toNat * 2)).block, (ad280.add (((ji23)).toNat * 2)).off + 1, none⟩ = some (.string ((rd_T39 l1 (ji23)).f1))) ∧ (Kd.R k39 39 w' w.heap.size (fun k_ => some k_ ≠ (s_.2.2.2.1 : Value).ownBlock) s_.2.2.1 y281) ∧ (Kd.R k39 39 w' w.heap.size (fun k_ => some k_ ≠ (s_.2.2.1 : Value).ownBlock) s_.2.2.2.1 y284) ∧ (w'.heap[gb269]? = some (.cells #[.string a0_0, .string a0_1, .string a0_2, .slice A0_3 l0_3.length c0_3, .slice A0_4 l0_4.length c0_4] 27 (0, 0))) ∧ (w'.heap[s_.2.2.2.2]? = some (.cells #[.string (⟨#[]⟩ : ByteArray), .string (⟨#[]⟩ : ByteArray), .string (⟨#[]⟩ : ByteArray), .string (⟨#[]⟩ : ByteArray), .string (⟨#[]⟩ : ByteArray), .string (⟨#[]⟩ : ByteArray)] 30 (0, 0))) ∧ (w.heap.size ≤ s_.2.2.2.2) ∧ (w.heap.size ≤ s_.2.2.2.2) ∧ (gb269 ≠ s_.2.2.2.2) ∧ (s_.2.2.2.2 ≠ gb269) ∧ (Below w.heap.size w w')) ?_ ?_
          rotate_left
          ·intro hJ1_3_12_13_14_20
           refine join_ (σ := Value × Value × Value × Value) 9 #[true, true, true, true, true, true, true, true, true, true, true, true, true, true, true, false, false, false, false, false, false, false, false, false] (fun s_ => [(49, s_.1), (51, s_.2.1), (60, s_.2.2.1), (61, s_.2.2.2), (62, .string t287)]) (fun s_ w' => (w'.cell? ⟨gb269, 0, none⟩ = some (.string a0_0) ∧ w'.cell? ⟨gb269, 1, none⟩ = some (.string a0_1) ∧ w'.cell? ⟨gb269, 2, none⟩ = some (.string a0_2) ∧ w'.cell? ⟨gb269, 3, none⟩ = some (.slice A0_3 l0_3.length c0_3) ∧ w'.cell? ⟨gb269, 4, none⟩ = some (.slice A0_4 l0_4.length c0_4) ∧ w'.cell? (ad280.add (((ji23)).toNat * 2)) = some (.string ((rd_T39 l1 (ji23)).f0)) ∧ w'.cell? ⟨(ad280.add (((ji23)).toNat * 2)).block, (ad280.add (((ji23)).toNat * 2)).off + 1, none⟩ = some (.string ((rd_T39 l1 (ji23)).f1))) ∧ (Kd.R k39 39 w' w.heap.size (fun k_ => some k_ ≠ (s_.2.2.2 : Value).ownBlock) s_.2.2.1 y281) ∧ (Kd.R k39 39 w' w.heap.size (fun k_ => some k_ ≠ (s_.2.2.1 : Value).ownBlock) s_.2.2.2 y284) ∧ (w'.heap[gb269]? = some (.cells #[.string a0_0, .string a0_1, .string a0_2, .slice A0_3 l0_3.length c0_3, .slice A0_4 l0_4.length c0_4] 27 (0, 0))) ∧ (Below w.heap.size w w')) ?_ ?_
           rotate_left
           ·intro hJ1_3_12_13_14
            refine join_ (σ := Value × Value × Value × Value × Nat) 9 #[true, true, true, true, true, true, true, true, true, true, true, true, true, true, false, false, false, false, false, false, true, false, false, false] (fun s_ => [(49, s_.1), (51, s_.2.1), (60, s_.2.2.1), (61, s_.2.2.2.1), (8, .pointer (some ⟨s_.2.2.2.2, 0, none⟩))]) (fun s_ w' => (w'.cell? ⟨gb269, 0, none⟩ = some (.string a0_0) ∧ w'.cell? ⟨gb269, 1, none⟩ = some (.string a0_1) ∧ w'.cell? ⟨gb269, 2, none⟩ = some (.string a0_2) ∧ w'.cell? ⟨gb269, 3, none⟩ = some (.slice A0_3 l0_3.length c0_3) ∧ w'.cell? ⟨gb269, 4, none⟩ = some (.slice A0_4 l0_4.length c0_4) ∧ w'.cell? (ad280.add (((ji23)).toNat * 2)) = some (.string ((rd_T39 l1 (ji23)).f0)) ∧ w'.cell? ⟨(ad280.add (((ji23)).toNat * 2)).block, (ad280.add (((ji23)).toNat * 2)).off + 1, none⟩ = some (.string ((rd_T39 l1 (ji23)).f1))) ∧ (Kd.R k39 39 w' w.heap.size (fun k_ => some k_ ≠ (s_.2.2.2.1 : Value).ownBlock) s_.2.2.1 y281) ∧ (Kd.R k39 39 w' w.heap.size (fun k_ => some k_ ≠ (s_.2.2.1 : Value).ownBlock) s_.2.2.2.1 y284) ∧ (w'.heap[gb269]? = some (.cells #[.string a0_0, .string a0_1, .string a0_2, .slice A0_3 l0_3.length c0_3, .slice A0_4 l0_4.length c0_4] 27 (0, 0))) ∧ (w'.heap[s_.2.2.2.2]? = some (.cells #[.string (⟨#[]⟩ : ByteArray), .string (⟨#[]⟩ : ByteArray), .string (⟨#[]⟩ : ByteArray), .string (⟨#[]⟩ : ByteArray), .string (⟨#[]⟩ : ByteArray), .string (⟨#[]⟩ : ByteArray)] 30 (0, 0))) ∧ (w.heap.size ≤ s_.2.2.2.2) ∧ (w.heap.size ≤ s_.2.2.2.2) ∧ (gb269 ≠ s_.2.2.2.2) ∧ (s_.2.2.2.2 ≠ gb269) ∧ (Below w.heap.size w w')) ?_ ?_
            rotate_left
            ·intro hJ1_3_12_13_20
             refine join_ (σ := Value × Value × Value × Value) 10 #[true, true, true, true, true, true, true, true, true, true, true, true, true, true, false, false, false, false, false, false, false, false, false, false] (fun s_ => [(49, s_.1), (51, s_.2.1), (60, s_.2.2.1), (61, s_.2.2.2)]) (fun s_ w' => (w'.cell? ⟨gb269, 0, none⟩ = some (.string a0_0) ∧ w'.cell? ⟨gb269, 1, none⟩ = some (.string a0_1) ∧ w'.cell? ⟨gb269, 2, none⟩ = some (.string a0_2) ∧ w'.cell? ⟨gb269, 3, none⟩ = some (.slice A0_3 l0_3.length c0_3) ∧ w'.cell? ⟨gb269, 4, none⟩ = some (.slice A0_4 l0_4.length c0_4) ∧ w'.cell? (ad280.add (((ji23)).toNat * 2)) = some (.string ((rd_T39 l1 (ji23)).f0)) ∧ w'.cell? ⟨(ad280.add (((ji23)).toNat * 2)).block, (ad280.add (((ji23)).toNat * 2)).off + 1, none⟩ = some (.string ((rd_T39 l1 (ji23)).f1))) ∧ (Kd.R k39 39 w' w.heap.size (fun k_ => some k_ ≠ (s_.2.2.2 : Value).ownBlock) s_.2.2.1 y281) ∧ (Kd.R k39 39 w' w.heap.size (fun k_ => some k_ ≠ (s_.2.2.1 : Value).ownBlock) s_.2.2.2 y284) ∧ (w'.heap[gb269]? = some (.cells #[.string a0_0, .string a0_1, .string a0_2, .slice A0_3 l0_3.length c0_3, .slice A0_4 l0_4.length c0_4] 27 (0, 0))) ∧ (Below w.heap.size w w')) ?_ ?_
             rotate_left
             ·intro hJ1_3_12_13
              refine join_ (σ := Value × Value × Value × Nat) 10 #[true, true, true, true, true, true, true, true, true, true, true, true, true, false, false, false, false, false, false, false, true, false, false, false] (fun s_ => [(49, s_.1), (51, s_.2.1), (60, s_.2.2.1), (8, .pointer (some ⟨s_.2.2.2, 0, none⟩))]) (fun s_ w' => (w'.cell? ⟨gb269, 0, none⟩ = some (.string a0_0) ∧ w'.cell? ⟨gb269, 1, none⟩ = some (.string a0_1) ∧ w'.cell? ⟨gb269, 2, none⟩ = some (.string a0_2) ∧ w'.cell? ⟨gb269, 3, none⟩ = some (.slice A0_3 l0_3.length c0_3) ∧ w'.cell? ⟨gb269, 4, none⟩ = some (.slice A0_4 l0_4.length c0_4) ∧ w'.cell? (ad280.add (((ji23)).toNat * 2)) = some (.string ((rd_T39 l1 (ji23)).f0)) ∧ w'.cell? ⟨(ad280.add (((ji23)).toNat * 2)).block, (ad280.add (((ji23)).toNat * 2)).off + 1, none⟩ = some (.string ((rd_T39 l1 (ji23)).f1))) ∧ (Kd.R k39 39 w' w.heap.size (fun k_ => some k_ ≠ (s_.2.2.1 : Value).ownBlock) s_.2.1 y277) ∧ (Kd.R k39 39 w' w.heap.size (fun k_ => some k_ ≠ (s_.2.1 : Value).ownBlock) s_.2.2.1 y281) ∧ (w'.heap[gb269]? = some (.cells #[.string a0_0, .string a0_1, .string a0_2, .slice A0_3 l0_3.length c0_3, .slice A0_4 l0_4.length c0_4] 27 (0, 0))) ∧ (w'.heap[s_.2.2.2]? = some (.cells #[.string (⟨#[]⟩ : ByteArray), .string (⟨#[]⟩ : ByteArray), .string (⟨#[]⟩ : ByteArray), .string (⟨#[]⟩ : ByteArray), .string (⟨#[]⟩ : ByteArray), .string (⟨#[]⟩ : ByteArray)] 30 (0, 0))) ∧ (w.heap.size ≤ s_.2.2.2) ∧ (w.heap.size ≤ s_.2.2.2) ∧ (gb269 ≠ s_.2.2.2) ∧ (s_.2.2.2 ≠ gb269) ∧ (Below w.heap.size w w')) ?_ ?_
              rotate_left
              ·intro hJ1_3_12_20
               refine join_ (σ := Value × Value × Value) 11 #[true, true, true, true, true, true, true, true, true, true, true, true, true, false, false, false, false, false, false, false, false, false, false, false] (fun s_ => [(49, s_.1), (51, s_.2.1), (60, s_.2.2)]) (fun s_ w' => (w'.cell? ⟨gb269, 0, none⟩ = some (.string a0_0) ∧ w'.cell? ⟨gb269, 1, none⟩ = some (.string a0_1) ∧ w'.cell? ⟨gb269, 2, none⟩ = some (.string a0_2) ∧ w'.cell? ⟨gb269, 3, none⟩ = some (.slice A0_3 l0_3.length c0_3) ∧ w'.cell? ⟨gb269, 4, none⟩ = some (.slice A0_4 l0_4.length c0_4) ∧ w'.cell? (ad280.add (((ji23)).toNat * 2)) = some (.string ((rd_T39 l1 (ji23)).f0)) ∧ w'.cell? ⟨(ad280.add (((ji23)).toNat * 2)).block, (ad280.add (((ji23)).toNat * 2)).off + 1, none⟩ = some (.string ((rd_T39 l1 (ji23)).f1))) ∧ (Kd.R k39 39 w' w.heap.size (fun k_ => some k_ ≠ (s_.2.2 : Value).ownBlock) s_.2.1 y277) ∧ (Kd.R k39 39 w' w.heap.size (fun k_ => some k_ ≠ (s_.2.1 : Value).ownBlock) s_.2.2 y281) ∧ (w'.heap[gb269]? = some (.cells #[.string a0_0, .string a0_1, .string a0_2, .slice A0_3 l0_3.length c0_3, .slice A0_4 l0_4.length c0_4] 27 (0, 0))) ∧ (Below w.heap.size w w')) ?_ ?_
               rotate_left
               ·intro hJ1_3_12
                refine join_ (σ := Value × Value × Nat) 11 #[true, true, true, true, true, true, true, true, true, true, true, true, false, false, false, false, false, false, false, false, true, false, false, false] (fun s_ => [(49, s_.1), (51, s_.2.1), (8, .pointer (some ⟨s_.2.2, 0, none⟩))]) (fun s_ w' => (w'.cell? ⟨gb269, 0, none⟩ = some (.string a0_0) ∧ w'.cell? ⟨gb269, 1, none⟩ = some (.string a0_1) ∧ w'.cell? ⟨gb269, 2, none⟩ = some (.string a0_2) ∧ w'.cell? ⟨gb269, 3, none⟩ = some (.slice A0_3 l0_3.length c0_3) ∧ w'.cell? ⟨gb269, 4, none⟩ = some (.slice A0_4 l0_4.length c0_4) ∧ w'.cell? (ad280.add (((ji23)).toNat * 2)) = some (.string ((rd_T39 l1 (ji23)).f0)) ∧ w'.cell? ⟨(ad280.add (((ji23)).toNat * 2)).block, (ad280.add (((ji23)).toNat * 2)).off + 1, none⟩ = some (.string ((rd_T39 l1 (ji23)).f1))) ∧ (Kd.R k39 39 w' w.heap.size (fun _ => True) s_.2.1 y277) ∧ (w'.heap[gb269]? = some (.cells #[.string a0_0, .string a0_1, .string a0_2, .slice A0_3 l0_3.length c0_3, .slice A0_4 l0_4.length c0_4] 27 (0, 0))) ∧ (w'.heap[s_.2.2]? = some (.cells #[.string (⟨#[]⟩ : ByteArray), .string (⟨#[]⟩ : ByteArray), .string (⟨#[]⟩ : ByteArray), .string (⟨#[]⟩ : ByteArray), .string (⟨#[]⟩ : ByteArray), .string (⟨#[]⟩ : ByteArray)] 30 (0, 0))) ∧ (w.heap.size ≤ s_.2.2) ∧ (w.heap.size ≤ s_.2.2) ∧ (gb269 ≠ s_.2.2) ∧ (s_.2.2 ≠ gb269) ∧ (Below w.heap.size w w')) ?_ ?_
                rotate_left
                ·intro hJ1_3_20
                 refine join_ (σ := Value × Value × Nat) 11 #[true, true, true, false, true, true, true, true, true, true, true, true, true, false, false, false, false, false, false, false, true, false, false, false] (fun s_ => [(49, s_.1), (60, s_.2.1), (8, .pointer (some ⟨s_.2.2, 0, none⟩))]) (fun s_ w' => (w'.cell? ⟨gb269, 0, none⟩ = some (.string a0_0) ∧ w'.cell? ⟨gb269, 1, none⟩ = some (.string a0_1) ∧ w'.cell? ⟨gb269, 2, none⟩ = some (.string a0_2) ∧ w'.cell? ⟨gb269, 3, none⟩ = some (.slice A0_3 l0_3.length c0_3) ∧ w'.cell? ⟨gb269, 4, none⟩ = some (.slice A0_4 l0_4.length c0_4) ∧ w'.cell? (ad280.add (((ji23)).toNat * 2)) = some (.string ((rd_T39 l1 (ji23)).f0)) ∧ w'.cell? ⟨(ad280.add (((ji23)).toNat * 2)).block, (ad280.add (((ji23)).toNat * 2)).off + 1, none⟩ = some (.string ((rd_T39 l1 (ji23)).f1))) ∧ (Kd.R k39 39 w' w.heap.size (fun k_ => some k_ ≠ (s_.2.1 : Value).ownBlock) s_.1 y274) ∧ (Kd.R k39 39 w' w.heap.size (fun k_ => some k_ ≠ (s_.1 : Value).ownBlock) s_.2.1 y281) ∧ (w'.heap[gb269]? = some (.cells #[.string a0_0, .string a0_1, .string a0_2, .slice A0_3 l0_3.length c0_3, .slice A0_4 l0_4.length c0_4] 27 (0, 0))) ∧ (w'.heap[s_.2.2]? = some (.cells #[.string (⟨#[]⟩ : ByteArray), .string (⟨#[]⟩ : ByteArray), .string (⟨#[]⟩ : ByteArray), .string (⟨#[]⟩ : ByteArray), .string (⟨#[]⟩ : ByteArray), .string (⟨#[]⟩ : ByteArray)] 30 (0, 0))) ∧ (w.heap.size ≤ s_.2.2) ∧ (w.heap.size ≤ s_.2.2) ∧ (gb269 ≠ s_.2.2) ∧ (s_.2.2 ≠ gb269) ∧ (Below w.heap.size w w')) ?_ ?_
                 rotate_left
                 ·intro hJ1_12_20
                  refine join_ (σ := Value × Value) 12 #[true, true, true, true, true, true, true, true, true, true, true, true, false, false, false, false, false, false, false, false, false, false, false, false] (fun s_ => [(49, s_.1), (51, s_.2)]) (fun s_ w' => (w'.cell? ⟨gb269, 0, none⟩ = some (.string a0_0) ∧ w'.cell? ⟨gb269, 1, none⟩ = some (.string a0_1) ∧ w'.cell? ⟨gb269, 2, none⟩ = some (.string a0_2) ∧ w'.cell? ⟨gb269, 3, none⟩ = some (.slice A0_3 l0_3.length c0_3) ∧ w'.cell? ⟨gb269, 4, none⟩ = some (.slice A0_4 l0_4.length c0_4) ∧ w'.cell? (ad280.add (((ji23)).toNat * 2)) = some (.string ((rd_T39 l1 (ji23)).f0)) ∧ w'.cell? ⟨(ad280.add (((ji23)).toNat * 2)).block, (ad280.add (((ji23)).toNat * 2)).off + 1, none⟩ = some (.string ((rd_T39 l1 (ji23)).f1))) ∧ (Kd.R k39 39 w' w.heap.size (fun _ => True) s_.2 y277) ∧ (w'.heap[gb269]? = some (.cells #[.string a0_0, .string a0_1, .string a0_2, .slice A0_3 l0_3.length c0_3, .slice A0_4 l0_4.length c0_4] 27 (0, 0))) ∧ (Below w.heap.size w w')) ?_ ?_
                  rotate_left
                  ·intro hJ1_3
                   refine join_ (σ := Value × Value) 12 #[true, true, true, false, true, true, true, true, true, true, true, true, true, false, false, false, false, false, false, false, false, false, false, false] (fun s_ => [(49, s_.1), (60, s_.2)]) (fun s_ w' => (w'.cell? ⟨gb269, 0, none⟩ = some (.string a0_0) ∧ w'.cell? ⟨gb269, 1, none⟩ = some (.string a0_1) ∧ w'.cell? ⟨gb269, 2, none⟩ = some (.string a0_2) ∧ w'.cell? ⟨gb269, 3, none⟩ = some (.slice A0_3 l0_3.length c0_3) ∧ w'.cell? ⟨gb269, 4, none⟩ = some (.slice A0_4 l0_4.length c0_4) ∧ w'.cell? (ad280.add (((ji23)).toNat * 2)) = some (.string ((rd_T39 l1 (ji23)).f0)) ∧ w'.cell? ⟨(ad280.add (((ji23)).toNat * 2)).block, (ad280.add (((ji23)).toNat * 2)).off + 1, none⟩ = some (.string ((rd_T39 l1 (ji23)).f1))) ∧ (Kd.R k39 39 w' w.heap.size (fun k_ => some k_ ≠ (s_.2 : Value).ownBlock) s_.1 y274) ∧ (Kd.R k39 39 w' w.heap.size (fun k_ => some k_ ≠ (s_.1 : Value).ownBlock) s_.2 y281) ∧ (w'.heap[gb269]? = some (.cells #[.string a0_0, .string a0_1, .string a0_2, .slice A0_3 l0_3.length c0_3, .slice A0_4 l0_4.length c0_4] 27 (0, 0))) ∧ (Below w.heap.size w w')) ?_ ?_
                   rotate_left
                   ·intro hJ1_12
                    refine join_ (σ := Value × Nat) 12 #[true, true, true, false, true, true, true, true, true, true, true, true, false, false, false, false, false, false, false, false, true, false, false, false] (fun s_ => [(49, s_.1), (8, .pointer (some ⟨s_.2, 0, none⟩))]) (fun s_ w' => (w'.cell? ⟨gb269, 0, none⟩ = some (.string a0_0) ∧ w'.cell? ⟨gb269, 1, none⟩ = some (.string a0_1) ∧ w'.cell? ⟨gb269, 2, none⟩ = some (.string a0_2) ∧ w'.cell? ⟨gb269, 3, none⟩ = some (.slice A0_3 l0_3.length c0_3) ∧ w'.cell? ⟨gb269, 4, none⟩ = some (.slice A0_4 l0_4.length c0_4) ∧ w'.cell? (ad280.add (((ji23)).toNat * 2)) = some (.string ((rd_T39 l1 (ji23)).f0)) ∧ w'.cell? ⟨(ad280.add (((ji23)).toNat * 2)).block, (ad280.add (((ji23)).toNat * 2)).off + 1, none⟩ = some (.string ((rd_T39 l1 (ji23)).f1))) ∧ (Kd.R k39 39 w' w.heap.size (fun _ => True) s_.1 y274) ∧ (w'.heap[gb269]? = some (.cells #[.string a0_0, .string a0_1, .string a0_2, .slice A0_3 l0_3.length c0_3, .slice A0_4 l0_4.length c0_4] 27 (0, 0))) ∧ (w'.heap[s_.2]? = some (.cells #[.string (⟨#[]⟩ : ByteArray), .string (⟨#[]⟩ : ByteArray), .string (⟨#[]⟩ : ByteArray), .string (⟨#[]⟩ : ByteArray), .string (⟨#[]⟩ : ByteArray), .string (⟨#[]⟩ : ByteArray)] 30 (0, 0))) ∧ (w.heap.size ≤ s_.2) ∧ (w.heap.size ≤ s_.2) ∧ (gb269 ≠ s_.2) ∧ (s_.2 ≠ gb269) ∧ (Below w.heap.size w w')) ?_ ?_
                    rotate_left
                    ·intro hJ1_20
                     refine join_ (σ := Value × Nat) 12 #[true, false, true, false, true, true, true, true, true, true, true, true, true, false, false, false, false, false, false, false, true, false, false, false] (fun s_ => [(60, s_.1), (8, .pointer (some ⟨s_.2, 0, none⟩))]) (fun s_ w' => (w'.cell? ⟨gb269, 0, none⟩ = some (.string a0_0) ∧ w'.cell? ⟨gb269, 1, none⟩ = some (.string a0_1) ∧ w'.cell? ⟨gb269, 2, none⟩ = some (.string a0_2) ∧ w'.cell? ⟨gb269, 3, none⟩ = some (.slice A0_3 l0_3.length c0_3) ∧ w'.cell? ⟨gb269, 4, none⟩ = some (.slice A0_4 l0_4.length c0_4) ∧ w'.cell? (ad280.add (((ji23)).toNat * 2)) = some (.string ((rd_T39 l1 (ji23)).f0)) ∧ w'.cell? ⟨(ad280.add (((ji23)).toNat * 2)).block, (ad280.add (((ji23)).toNat * 2)).off + 1, none⟩ = some (.string ((rd_T39 l1 (ji23)).f1))) ∧ (Kd.R k39 39 w' w.heap.size (fun _ => True) s_.1 y281) ∧ (w'.heap[gb269]? = some (.cells #[.string a0_0, .string a0_1, .string a0_2, .slice A0_3 l0_3.length c0_3, .slice A0_4 l0_4.length c0_4] 27 (0, 0))) ∧ (w'.heap[s_.2]? = some (.cells #[.string (⟨#[]⟩ : ByteArray), .string (⟨#[]⟩ : ByteArray), .string (⟨#[]⟩ : ByteArray), .string (⟨#[]⟩ : ByteArray), .string (⟨#[]⟩ : ByteArray), .string (⟨#[]⟩ : ByteArray)] 30 (0, 0))) ∧ (w.heap.size ≤ s_.2) ∧ (w.heap.size ≤ s_.2) ∧ (gb269 ≠ s_.2) ∧ (s_.2 ≠ gb269) ∧ (Below w.heap.size w w')) ?_ ?_
                     rotate_left
                     ·intro hJ12_20
                      refine join_ (σ := Value) 13 #[true, true, true, false, true, true, true, true, true, true, true, true, false, false, false, false, false, false, false, false, false, false, false, false] (fun s_ => [(49, s_)]) (fun s_ w' => (w'.cell? ⟨gb269, 0, none⟩ = some (.string a0_0) ∧ w'.cell? ⟨gb269, 1, none⟩ = some (.string a0_1) ∧ w'.cell? ⟨gb269, 2, none⟩ = some (.string a0_2) ∧ w'.cell? ⟨gb269, 3, none⟩ = some (.slice A0_3 l0_3.length c0_3) ∧ w'.cell? ⟨gb269, 4, none⟩ = some (.slice A0_4 l0_4.length c0_4) ∧ w'.cell? (ad280.add (((ji23)).toNat * 2)) = some (.string ((rd_T39 l1 (ji23)).f0)) ∧ w'.cell? ⟨(ad280.add (((ji23)).toNat * 2)).block, (ad280.add (((ji23)).toNat * 2)).off + 1, none⟩ = some (.string ((rd_T39 l1 (ji23)).f1))) ∧ (Kd.R k39 39 w' w.heap.size (fun _ => True) s_ y274) ∧ (w'.heap[gb269]? = some (.cells #[.string a0_0, .string a0_1, .string a0_2, .slice A0_3 l0_3.length c0_3, .slice A0_4 l0_4.length c0_4] 27 (0, 0))) ∧ (Below w.heap.size w w')) ?_ ?_
                      rotate_left
                      ·intro hJ1
                       refine join_ (σ := Value) 13 #[true, false, true, false, true, true, true, true, true, true, true, true, true, false, false, false, false, false, false, false, false, false, false, false] (fun s_ => [(60, s_)]) (fun s_ w' => (w'.cell? ⟨gb269, 0, none⟩ = some (.string a0_0) ∧ w'.cell? ⟨gb269, 1, none⟩ = some (.string a0_1) ∧ w'.cell? ⟨gb269, 2, none⟩ = some (.string a0_2) ∧ w'.cell? ⟨gb269, 3, none⟩ = some (.slice A0_3 l0_3.length c0_3) ∧ w'.cell? ⟨gb269, 4, none⟩ = some (.slice A0_4 l0_4.length c0_4) ∧ w'.cell? (ad280.add (((ji23)).toNat * 2)) = some (.string ((rd_T39 l1 (ji23)).f0)) ∧ w'.cell? ⟨(ad280.add (((ji23)).toNat * 2)).block, (ad280.add (((ji23)).toNat * 2)).off + 1, none⟩ = some (.string ((rd_T39 l1 (ji23)).f1))) ∧ (Kd.R k39 39 w' w.heap.size (fun _ => True) s_ y281) ∧ (w'.heap[gb269]? = some (.cells #[.string a0_0, .string a0_1, .string a0_2, .slice A0_3 l0_3.length c0_3, .slice A0_4 l0_4.length c0_4] 27 (0, 0))) ∧ (Below w.heap.size w w')) ?_ ?_
                       rotate_left
                       ·intro hJ12
                        refine join_ (σ := Nat) 13 #[true, false, true, false, true, true, true, true, true, true, true, true, false, false, false, false, false, false, false, false, true, false, false, false] (fun s_ => [(8, .pointer (some ⟨s_, 0, none⟩))]) (fun s_ w' => (w'.cell? ⟨gb269, 0, none⟩ = some (.string a0_0) ∧ w'.cell? ⟨gb269, 1, none⟩ = some (.string a0_1) ∧ w'.cell? ⟨gb269, 2, none⟩ = some (.string a0_2) ∧ w'.cell? ⟨gb269, 3, none⟩ = some (.slice A0_3 l0_3.length c0_3) ∧ w'.cell? ⟨gb269, 4, none⟩ = some (.slice A0_4 l0_4.length c0_4) ∧ w'.cell? (ad280.add (((ji23)).toNat * 2)) = some (.string ((rd_T39 l1 (ji23)).f0)) ∧ w'.cell? ⟨(ad280.add (((ji23)).toNat * 2)).block, (ad280.add (((ji23)).toNat * 2)).off + 1, none⟩ = some (.string ((rd_T39 l1 (ji23)).f1))) ∧ (w'.heap[gb269]? = some (.cells #[.string a0_0, .string a0_1, .string a0_2, .slice A0_3 l0_3.length c0_3, .slice A0_4 l0_4.length c0_4] 27 (0, 0))) ∧ (w'.heap[s_]? = some (.cells #[.string (⟨#[]⟩ : ByteArray), .string (⟨#[]⟩ : ByteArray), .string (⟨#[]⟩ : ByteArray), .string (⟨#[]⟩ : ByteArray), .string (⟨#[]⟩ : ByteArray), .string (⟨#[]⟩ : ByteArray)] 30 (0, 0))) ∧ (w.heap.size ≤ s_) ∧ (w.heap.size ≤ s_) ∧ (gb269 ≠ s_) ∧ (s_ ≠ gb269) ∧ (Below w.heap.size w w')) ?_ ?_
                        rotate_left
                        ·intro hJ20
                         refine three_ (i := 1) (j := 12) (k := 20) (Ni := some 49) (Nj := some 60) (Nk := some 8) #[true, true, true, false, true, true, true, true, true, true, true, true, false, false, false, false, false, false, false, false, false, false, false, false] #[true, false, true, false, true, true, true, true, true, true, true, true, true, false, false, false, false, false, false, false, false, false, false, false] #[true, false, true, false, true, true, true, true, true, true, true, true, false, false, false, false, false, false, false, false, true, false, false, false] rfl rfl rfl rfl rfl rfl (three_of HT_.out (by kernel_rfl)) (by decide) (by decide) (by decide) (fun K hK => ?_) (fun K hK => ?_) (fun K hK => ?_)
                         ·skip
                          refine Kd.R_lit_step k39 _ 39 ?hg (N := 49) ?hd (xs := ([] : List (S39))) (inner := []) (ok := fun _ => True) (okp := fun _ => True) ?hr ?hp (fun _ hk => hk) trivial (Below.refl _ _) (Nat.le_refl _) (by simp) ?_; (case hd => rfl); (case hg => rfl); (case hr => first | (go_simp; done) | (go_simp; rfl)); (case hp => exact (Reps.none _ _))
                          intro v275 w34 ho35 hb hg_ hnew_
                          clear hg_ hnew_
                          (first | rw [← Ny274.out] at ho35 | (simp only [Int.reduceToNat] at ho35; rw [← Ny274.out] at ho35))
                          have n0_ := Aside0.mk (Kd.R_lower ho35 (below_size (by repeat (first | (with_reducible first | exact HB.out | apply below_alloc | apply pw_below_drewN | apply below_drew1 | refine below_set ?_ GE269.out) | exact HB.out))))
                          have n1_ := Aside0.mk (blk_belowB BK269.out (by (with_reducible repeat (first | refine blk_drewN ?_ _ | refine blk_drew ?_ | refine blk_alloc ?_ _)); exact BK269.out) hb)
                          have n2_ := Aside0.mk (below_step (by repeat (first | (with_reducible first | exact HB.out | apply below_alloc | apply pw_below_drewN | apply below_drew1 | refine below_set ?_ GE269.out) | exact HB.out)) hb)
                          clear BK269; clear HB
                          have HO276 := n0_
                          have BK269 := n1_
                          have HB := n2_
                          clear n0_ n1_ n2_; clear hb ho35
                          refine hK.out _ _ ⟨(blk_cell BK269.out 0).trans rfl, (blk_cell BK269.out 1).trans rfl, (blk_cell BK269.out 2).trans rfl, (blk_cell BK269.out 3).trans rfl, (blk_cell BK269.out 4).trans rfl, ((HB.out.cell (World.block_lt_of_cell? w _ hw280_0)).trans hw280_0), ((HB.out.cell (World.block_lt_of_cell? w _ hw280_1)).trans hw280_1)⟩ (fun hHeld => ?_)
                          clear hK K
                          refine norm_ (a' := ?_) ?_ ?_
                          rotate_left
                          ·show Act.put _ (some 49) _ = _
                           simp only [Act.put, List.setIfInBounds_toArray, List.set_cons_zero, List.set_cons_succ, i64_w, i32_w]
                           rfl
                          exact norm_ (by first | (simp only [putAll, Act.put, List.setIfInBounds_toArray, List.set_cons_zero, List.set_cons_succ]; done) | (simp only [putAll, Act.put, List.setIfInBounds_toArray, List.set_cons_zero, List.set_cons_succ]; rfl)) (hJ1 (v275) _ ⟨hHeld, (by (with_reducible repeat (first | apply Kd.R_alloc | apply Kd.R_drewN | apply Kd.R_drew)); exact HO276.out), (by (with_reducible repeat (first | refine blk_drewN ?_ _ | refine blk_drew ?_ | refine blk_alloc ?_ _)); exact BK269.out), (by repeat (first | (with_reducible first | exact HB.out | apply below_alloc | apply pw_below_drewN | apply below_drew1 | refine below_set ?_ GE269.out) | exact HB.out))⟩)
                         ·skip
                          refine Kd.R_lit_step k39 _ 39 ?hg (N := 60) ?hd (xs := ([(⟨(rd_T39 l1 (ji23)).f0, (rd_T39 l1 (ji23)).f1⟩ : S39)] : List (S39))) (inner := [.string ((rd_T39 l1 (ji23)).f0), .string ((rd_T39 l1 (ji23)).f1)]) (ok := fun _ => True) (okp := fun _ => True) ?hr ?hp (fun _ hk => hk) trivial (Below.refl _ _) (Nat.le_refl _) (by simp) ?_; (case hd => rfl); (case hg => rfl); (case hr => first | (go_simp; done) | (go_simp; rfl)); (case hp => exact (Reps.c2 (show Kd.M k39 _ _ _ (⟨(rd_T39 l1 (ji23)).f0, (rd_T39 l1 (ji23)).f1⟩ : S39) [.string ((rd_T39 l1 (ji23)).f0), .string ((rd_T39 l1 (ji23)).f1)] from (k39_mkM _ _ _ (⟨(rd_T39 l1 (ji23)).f0, (rd_T39 l1 (ji23)).f1⟩ : S39) )) (Reps.none _ _)))
                          intro v282 w34 ho35 hb hg_ hnew_
                          clear hg_ hnew_
                          (first | rw [← Ny281.out] at ho35 | (simp only [Int.reduceToNat] at ho35; rw [← Ny281.out] at ho35))
                          have n0_ := Aside0.mk (Kd.R_lower ho35 (below_size (by repeat (first | (with_reducible first | exact HB.out | apply below_alloc | apply pw_below_drewN | apply below_drew1 | refine below_set ?_ GE269.out) | exact HB.out))))
                          have n1_ := Aside0.mk (blk_belowB BK269.out (by (with_reducible repeat (first | refine blk_drewN ?_ _ | refine blk_drew ?_ | refine blk_alloc ?_ _)); exact BK269.out) hb)
                          have n2_ := Aside0.mk (below_step (by repeat (first | (with_reducible first | exact HB.out | apply below_alloc | apply pw_below_drewN | apply below_drew1 | refine below_set ?_ GE269.out) | exact HB.out)) hb)
                          clear BK269; clear HB
                          have HO283 := n0_
                          have BK269 := n1_
                          have HB := n2_
                          clear n0_ n1_ n2_; clear hb ho35
                          refine hK.out _ _ ⟨(blk_cell BK269.out 0).trans rfl, (blk_cell BK269.out 1).trans rfl, (blk_cell BK269.out 2).trans rfl, (blk_cell BK269.out 3).trans rfl, (blk_cell BK269.out 4).trans rfl, ((HB.out.cell (World.block_lt_of_cell? w _ hw280_0)).trans hw280_0), ((HB.out.cell (World.block_lt_of_cell? w _ hw280_1)).trans hw280_1)⟩ (fun hHeld => ?_)
                          clear hK K
                          refine norm_ (a' := ?_) ?_ ?_
                          rotate_left
                          ·show Act.put _ (some 60) _ = _
                           simp only [Act.put, List.setIfInBounds_toArray, List.set_cons_zero, List.set_cons_succ, i64_w, i32_w]
                           rfl
                          exact norm_ (by first | (simp only [putAll, Act.put, List.setIfInBounds_toArray, List.set_cons_zero, List.set_cons_succ]; done) | (simp only [putAll, Act.put, List.setIfInBounds_toArray, List.set_cons_zero, List.set_cons_succ]; rfl)) (hJ12 (v282) _ ⟨hHeld, (by (with_reducible repeat (first | apply Kd.R_alloc | apply Kd.R_drewN | apply Kd.R_drew)); exact HO283.out), (by (with_reducible repeat (first | refine blk_drewN ?_ _ | refine blk_drew ?_ | refine blk_alloc ?_ _)); exact BK269.out), (by repeat (first | (with_reducible first | exact HB.out | apply below_alloc | apply pw_below_drewN | apply below_drew1 | refine below_set ?_ GE269.out) | exact HB.out))⟩)
                         ·skip
                          refine box_step ?hg (N := 8) ?hd (cs := #[.string (⟨#[]⟩ : ByteArray), .string (⟨#[]⟩ : ByteArray), .string (⟨#[]⟩ : ByteArray), .string (⟨#[]⟩ : ByteArray), .string (⟨#[]⟩ : ByteArray), .string (⟨#[]⟩ : ByteArray)]) (t := 30) ?hr ?_; (case hd => rfl); (case hg => rfl); (case hr => first | (go_simp; done) | (go_simp; rfl))
                          intro gb296 hg w34 hbox hb
                          have n0_ := Aside0.mk (blk_belowB BK269.out (by (with_reducible repeat (first | refine blk_drewN ?_ _ | refine blk_drew ?_ | refine blk_alloc ?_ _)); exact BK269.out) hb)
                          have n1_ := Aside0.mk (below_step (by repeat (first | (with_reducible first | exact HB.out | apply below_alloc | apply pw_below_drewN | apply below_drew1 | refine below_set ?_ GE269.out) | exact HB.out)) hb)
                          have n2_ := Aside0.mk (hbox)
                          have n3_ := Aside0.mk ((by rw [hg]; exact (below_size (by repeat (first | (with_reducible first | exact HB.out | apply below_alloc | apply pw_below_drewN | apply below_drew1 | refine below_set ?_ GE269.out) | exact HB.out))) : w.heap.size ≤ gb296))
                          have n4_ := Aside0.mk ((by rw [hg]; exact (below_size (by repeat (first | (with_reducible first | exact HB.out | apply below_alloc | apply pw_below_drewN | apply below_drew1 | refine below_set ?_ GE269.out) | exact HB.out))) : w.heap.size ≤ gb296))
                          have n5_ := Aside0.mk ((by rw [hg]; exact Nat.ne_of_lt (blk_lt (g := gb269) (o := .cells #[.string a0_0, .string a0_1, .string a0_2, .slice A0_3 l0_3.length c0_3, .slice A0_4 l0_4.length c0_4] 27 (0, 0)) (by (with_reducible repeat (first | refine blk_drewN ?_ _ | refine blk_drew ?_ | refine blk_alloc ?_ _)); exact BK269.out)) : gb269 ≠ gb296))
                          have n6_ := Aside0.mk ((by rw [hg]; exact Nat.ne_of_gt (blk_lt (g := gb269) (o := .cells #[.string a0_0, .string a0_1, .string a0_2, .slice A0_3 l0_3.length c0_3, .slice A0_4 l0_4.length c0_4] 27 (0, 0)) (by (with_reducible repeat (first | refine blk_drewN ?_ _ | refine blk_drew ?_ | refine blk_alloc ?_ _)); exact BK269.out)) : gb296 ≠ gb269))
                          clear BK269; clear HB
                          have BK269 := n0_
                          have HB := n1_
                          have BK296 := n2_
                          have GW296 := n3_
                          have GE296 := n4_
                          have NB269_296 := n5_
                          have NB296_269 := n6_
                          clear n0_ n1_ n2_ n3_ n4_ n5_ n6_; clear hb hbox hg
                          refine hK.out _ _ ⟨(blk_cell BK269.out 0).trans rfl, (blk_cell BK269.out 1).trans rfl, (blk_cell BK269.out 2).trans rfl, (blk_cell BK269.out 3).trans rfl, (blk_cell BK269.out 4).trans rfl, ((HB.out.cell (World.block_lt_of_cell? w _ hw280_0)).trans hw280_0), ((HB.out.cell (World.block_lt_of_cell? w _ hw280_1)).trans hw280_1)⟩ (fun hHeld => ?_)
                          clear hK K
                          refine norm_ (a' := ?_) ?_ ?_
                          rotate_left
                          ·show Act.put _ (some 8) _ = _
                           simp only [Act.put, List.setIfInBounds_toArray, List.set_cons_zero, List.set_cons_succ, i64_w, i32_w]
                           rfl
                          exact norm_ (by first | (simp only [putAll, Act.put, List.setIfInBounds_toArray, List.set_cons_zero, List.set_cons_succ]; done) | (simp only [putAll, Act.put, List.setIfInBounds_toArray, List.set_cons_zero, List.set_cons_succ]; rfl)) (hJ20 (gb296) _ ⟨hHeld, (by (with_reducible repeat (first | refine blk_drewN ?_ _ | refine blk_drew ?_ | refine blk_alloc ?_ _)); exact BK269.out), (by (with_reducible repeat (first | refine blk_drewN ?_ _ | refine blk_drew ?_ | refine blk_alloc ?_ _)); exact BK296.out), GW296.out, GE296.out, NB269_296.out, NB296_269.out, (by repeat (first | (with_reducible first | exact HB.out | apply below_alloc | apply pw_below_drewN | apply below_drew1 | refine below_set ?_ GE269.out | refine below_set ?_ GE296.out) | exact HB.out))⟩)
                        ·skip
                         rintro gb296 w35 ⟨hS_, h0_, h1_, h2_, h3_, h4_, h5_, h6_⟩
                         have n0_ : Aside0 (w35.heap[gb269]? = some (.cells #[.string a0_0, .string a0_1, .string a0_2, .slice A0_3 l0_3.length c0_3, .slice A0_4 l0_4.length c0_4] 27 (0, 0))) := ⟨h0_⟩
                         have n1_ : Aside0 (w35.heap[gb296]? = some (.cells #[.string (⟨#[]⟩ : ByteArray), .string (⟨#[]⟩ : ByteArray), .string (⟨#[]⟩ : ByteArray), .string (⟨#[]⟩ : ByteArray), .string (⟨#[]⟩ : ByteArray), .string (⟨#[]⟩ : ByteArray)] 30 (0, 0))) := ⟨h1_⟩
                         have n2_ : Aside0 (w.heap.size ≤ gb296) := ⟨h2_⟩
                         have n3_ : Aside0 (w.heap.size ≤ gb296) := ⟨h3_⟩
                         have n4_ : Aside0 (gb269 ≠ gb296) := ⟨h4_⟩
                         have n5_ : Aside0 (gb296 ≠ gb269) := ⟨h5_⟩
                         have n6_ : Aside0 (Below w.heap.size w w35) := ⟨h6_⟩
                         clear BK269; clear HB; clear h0_ h1_ h2_ h3_ h4_ h5_ h6_
                         have BK269 := n0_
                         have BK296 := n1_
                         have GW296 := n2_
                         have GE296 := n3_
                         have NB269_296 := n4_
                         have NB296_269 := n5_
                         have HB := n6_
                         clear n0_ n1_ n2_ n3_ n4_ n5_ n6_
                         have hHeld : w35.cell? ⟨gb269, 0, none⟩ = some (.string a0_0) ∧ w35.cell? ⟨gb269, 1, none⟩ = some (.string a0_1) ∧ w35.cell? ⟨gb269, 2, none⟩ = some (.string a0_2) ∧ w35.cell? ⟨gb269, 3, none⟩ = some (.slice A0_3 l0_3.length c0_3) ∧ w35.cell? ⟨gb269, 4, none⟩ = some (.slice A0_4 l0_4.length c0_4) ∧ w35.cell? (ad280.add (((ji23)).toNat * 2)) = some (.string ((rd_T39 l1 (ji23)).f0)) ∧ w35.cell? ⟨(ad280.add (((ji23)).toNat * 2)).block, (ad280.add (((ji23)).toNat * 2)).off + 1, none⟩ = some (.string ((rd_T39 l1 (ji23)).f1)) := hS_
                         refine norm_ (a' := ?_) ?_ ?_
                         rotate_left
                         ·simp only [putAll, Act.put, List.setIfInBounds_toArray, List.set_cons_zero, List.set_cons_succ]
                          rfl
                         refine two_ (i := 1) (j := 12) (Ni := some 49) (Nj := some 60) #[true, true, true, false, true, true, true, true, true, true, true, true, false, false, false, false, false, false, false, false, true, false, false, false] #[true, false, true, false, true, true, true, true, true, true, true, true, true, false, false, false, false, false, false, false, true, false, false, false] rfl rfl rfl rfl (two_of HT_.out (by kernel_rfl)) (by decide) (by decide) (fun K hK => ?_) (fun K hK => ?_)
                         ·skip
                          refine Kd.R_lit_step k39 _ 39 ?hg (N := 49) ?hd (xs := ([] : List (S39))) (inner := []) (ok := fun _ => True) (okp := fun _ => True) ?hr ?hp (fun _ hk => hk) trivial (Below.refl _ _) (Nat.le_refl _) (by simp) ?_; (case hd => rfl); (case hg => rfl); (case hr => first | (go_simp; done) | (go_simp; rfl)); (case hp => exact (Reps.none _ _))
                          intro v275 w36 ho37 hb hg_ hnew_
                          clear hg_ hnew_
                          (first | rw [← Ny274.out] at ho37 | (simp only [Int.reduceToNat] at ho37; rw [← Ny274.out] at ho37))
                          have n0_ := Aside0.mk (Kd.R_lower ho37 (below_size (by repeat (first | (with_reducible first | exact HB.out | apply below_alloc | apply pw_below_drewN | apply below_drew1 | refine below_set ?_ GE269.out | refine below_set ?_ GE296.out) | exact HB.out))))
                          have n1_ := Aside0.mk (blk_belowB BK269.out (by (with_reducible repeat (first | refine blk_drewN ?_ _ | refine blk_drew ?_ | refine blk_alloc ?_ _)); exact BK269.out) hb)
                          have n2_ := Aside0.mk (blk_belowB BK296.out (by (with_reducible repeat (first | refine blk_drewN ?_ _ | refine blk_drew ?_ | refine blk_alloc ?_ _)); exact BK296.out) hb)
                          have n3_ := Aside0.mk (below_step (by repeat (first | (with_reducible first | exact HB.out | apply below_alloc | apply pw_below_drewN | apply below_drew1 | refine below_set ?_ GE269.out | refine below_set ?_ GE296.out) | exact HB.out)) hb)
                          clear BK269; clear BK296; clear HB
                          have HO276 := n0_
                          have BK269 := n1_
                          have BK296 := n2_
                          have HB := n3_
                          clear n0_ n1_ n2_ n3_; clear hb ho37
                          refine hK.out _ _ ⟨(blk_cell BK269.out 0).trans rfl, (blk_cell BK269.out 1).trans rfl, (blk_cell BK269.out 2).trans rfl, (blk_cell BK269.out 3).trans rfl, (blk_cell BK269.out 4).trans rfl, ((HB.out.cell (World.block_lt_of_cell? w _ hw280_0)).trans hw280_0), ((HB.out.cell (World.block_lt_of_cell? w _ hw280_1)).trans hw280_1)⟩ (fun hHeld => ?_)
                          clear hK K
                          refine norm_ (a' := ?_) ?_ ?_
                          rotate_left
                          ·show Act.put _ (some 49) _ = _
                           simp only [Act.put, List.setIfInBounds_toArray, List.set_cons_zero, List.set_cons_succ, i64_w, i32_w]
                           rfl
                          exact norm_ (by first | (simp only [putAll, Act.put, List.setIfInBounds_toArray, List.set_cons_zero, List.set_cons_succ]; done) | (simp only [putAll, Act.put, List.setIfInBounds_toArray, List.set_cons_zero, List.set_cons_succ]; rfl)) (hJ1_20 (v275, gb296) _ ⟨hHeld, (by (with_reducible repeat (first | apply Kd.R_alloc | apply Kd.R_drewN | apply Kd.R_drew)); exact HO276.out), (by (with_reducible repeat (first | refine blk_drewN ?_ _ | refine blk_drew ?_ | refine blk_alloc ?_ _)); exact BK269.out), (by (with_reducible repeat (first | refine blk_drewN ?_ _ | refine blk_drew ?_ | refine blk_alloc ?_ _)); exact BK296.out), GW296.out, GE296.out, NB269_296.out, NB296_269.out, (by repeat (first | (with_reducible first | exact HB.out | apply below_alloc | apply pw_below_drewN | apply below_drew1 | refine below_set ?_ GE269.out | refine below_set ?_ GE296.out) | exact HB.out))⟩)
                         ·skip
                          refine Kd.R_lit_step k39 _ 39 ?hg (N := 60) ?hd (xs := ([(⟨(rd_T39 l1 (ji23)).f0, (rd_T39 l1 (ji23)).f1⟩ : S39)] : List (S39))) (inner := [.string ((rd_T39 l1 (ji23)).f0), .string ((rd_T39 l1 (ji23)).f1)]) (ok := fun _ => True) (okp := fun _ => True) ?hr ?hp (fun _ hk => hk) trivial (Below.refl _ _) (Nat.le_refl _) (by simp) ?_; (case hd => rfl); (case hg => rfl); (case hr => first | (go_simp; done) | (go_simp; rfl)); (case hp => exact (Reps.c2 (show Kd.M k39 _ _ _ (⟨(rd_T39 l1 (ji23)).f0, (rd_T39 l1 (ji23)).f1⟩ : S39) [.string ((rd_T39 l1 (ji23)).f0), .string ((rd_T39 l1 (ji23)).f1)] from (k39_mkM _ _ _ (⟨(rd_T39 l1 (ji23)).f0, (rd_T39 l1 (ji23)).f1⟩ : S39) )) (Reps.none _ _)))
                          intro v282 w36 ho37 hb hg_ hnew_
                          clear hg_ hnew_
                          (first | rw [← Ny281.out] at ho37 | (simp only [Int.reduceToNat] at ho37; rw [← Ny281.out] at ho37))
                          have n0_ := Aside0.mk (Kd.R_lower ho37 (below_size (by repeat (first | (with_reducible first | exact HB.out | apply below_alloc | apply pw_below_drewN | apply below_drew1 | refine below_set ?_ GE269.out | refine below_set ?_ GE296.out) | exact HB.out))))
                          have n1_ := Aside0.mk (blk_belowB BK269.out (by (with_reducible repeat (first | refine blk_drewN ?_ _ | refine blk_drew ?_ | refine blk_alloc ?_ _)); exact BK269.out) hb)
                          have n2_ := Aside0.mk (blk_belowB BK296.out (by (with_reducible repeat (first | refine blk_drewN ?_ _ | refine blk_drew ?_ | refine blk_alloc ?_ _)); exact BK296.out) hb)
                          have n3_ := Aside0.mk (below_step (by repeat (first | (with_reducible first | exact HB.out | apply below_alloc | apply pw_below_drewN | apply below_drew1 | refine below_set ?_ GE269.out | refine below_set ?_ GE296.out) | exact HB.out)) hb)
                          clear BK269; clear BK296; clear HB
                          have HO283 := n0_
                          have BK269 := n1_
                          have BK296 := n2_
                          have HB := n3_
                          clear n0_ n1_ n2_ n3_; clear hb ho37
                          refine hK.out _ _ ⟨(blk_cell BK269.out 0).trans rfl, (blk_cell BK269.out 1).trans rfl, (blk_cell BK269.out 2).trans rfl, (blk_cell BK269.out 3).trans rfl, (blk_cell BK269.out 4).trans rfl, ((HB.out.cell (World.block_lt_of_cell? w _ hw280_0)).trans hw280_0), ((HB.out.cell (World.block_lt_of_cell? w _ hw280_1)).trans hw280_1)⟩ (fun hHeld => ?_)
                          clear hK K
                          refine norm_ (a' := ?_) ?_ ?_
                          rotate_left
                          ·show Act.put _ (some 60) _ = _
                           simp only [Act.put, List.setIfInBounds_toArray, List.set_cons_zero, List.set_cons_succ, i64_w, i32_w]
                           rfl
                          exact norm_ (by first | (simp only [putAll, Act.put, List.setIfInBounds_toArray, List.set_cons_zero, List.set_cons_succ]; done) | (simp only [putAll, Act.put, List.setIfInBounds_toArray, List.set_cons_zero, List.set_cons_succ]; rfl)) (hJ12_20 (v282, gb296) _ ⟨hHeld, (by (with_reducible repeat (first | apply Kd.R_alloc | apply Kd.R_drewN | apply Kd.R_drew)); exact HO283.out), (by (with_reducible repeat (first | refine blk_drewN ?_ _ | refine blk_drew ?_ | refine blk_alloc ?_ _)); exact BK269.out), (by (with_reducible repeat (first | refine blk_drewN ?_ _ | refine blk_drew ?_ | refine blk_alloc ?_ _)); exact BK296.out), GW296.out, GE296.out, NB269_296.out, NB296_269.out, (by repeat (first | (with_reducible first | exact HB.out | apply below_alloc | apply pw_below_drewN | apply below_drew1 | refine below_set ?_ GE269.out | refine below_set ?_ GE296.out) | exact HB.out))⟩)
                       ·skip
                        rintro v282 w36 ⟨hS_, h0_, h1_, h2_⟩
                        have n0_ : Aside0 (Kd.R k39 39 w36 w.heap.size (fun _ => True) v282 y281) := ⟨h0_⟩
                        have n1_ : Aside0 (w36.heap[gb269]? = some (.cells #[.string a0_0, .string a0_1, .string a0_2, .slice A0_3 l0_3.length c0_3, .slice A0_4 l0_4.length c0_4] 27 (0, 0))) := ⟨h1_⟩
                        have n2_ : Aside0 (Below w.heap.size w w36) := ⟨h2_⟩
                        clear BK269; clear HB; clear h0_ h1_ h2_
                        have HO283 := n0_
                        have BK269 := n1_
                        have HB := n2_
                        clear n0_ n1_ n2_
                        have hHeld : w36.cell? ⟨gb269, 0, none⟩ = some (.string a0_0) ∧ w36.cell? ⟨gb269, 1, none⟩ = some (.string a0_1) ∧ w36.cell? ⟨gb269, 2, none⟩ = some (.string a0_2) ∧ w36.cell? ⟨gb269, 3, none⟩ = some (.slice A0_3 l0_3.length c0_3) ∧ w36.cell? ⟨gb269, 4, none⟩ = some (.slice A0_4 l0_4.length c0_4) ∧ w36.cell? (ad280.add (((ji23)).toNat * 2)) = some (.string ((rd_T39 l1 (ji23)).f0)) ∧ w36.cell? ⟨(ad280.add (((ji23)).toNat * 2)).block, (ad280.add (((ji23)).toNat * 2)).off + 1, none⟩ = some (.string ((rd_T39 l1 (ji23)).f1)) := hS_
                        refine norm_ (a' := ?_) ?_ ?_
                        rotate_left
                        ·simp only [putAll, Act.put, List.setIfInBounds_toArray, List.set_cons_zero, List.set_cons_succ]
                         rfl
                        refine two_ (i := 1) (j := 20) (Ni := some 49) (Nj := some 8) #[true, true, true, false, true, true, true, true, true, true, true, true, true, false, false, false, false, false, false, false, false, false, false, false] #[true, false, true, false, true, true, true, true, true, true, true, true, true, false, false, false, false, false, false, false, true, false, false, false] rfl rfl rfl rfl (two_of HT_.out (by kernel_rfl)) (by decide) (by decide) (fun K hK => ?_) (fun K hK => ?_)
                        ·skip
                         refine Kd.R_lit_step k39 _ 39 ?hg (N := 49) ?hd (xs := ([] : List (S39))) (inner := []) (ok := fun _ => True) (okp := fun _ => True) ?hr ?hp (fun _ hk => hk) trivial (Below.refl _ _) (Nat.le_refl _) (by simp) ?_; (case hd => rfl); (case hg => rfl); (case hr => first | (go_simp; done) | (go_simp; rfl)); (case hp => exact (Reps.none _ _))
                         intro v275 w37 ho38 hb hg_ hnew_
                         clear hg_ hnew_
                         (first | rw [← Ny274.out] at ho38 | (simp only [Int.reduceToNat] at ho38; rw [← Ny274.out] at ho38))
                         have n0_ := Aside0.mk (Kd.R_elder' (by (with_reducible repeat (first | apply Kd.R_alloc | apply Kd.R_drewN | apply Kd.R_drew)); exact HO283.out) (Kd.R_base ho38) hb)
                         have n1_ := Aside0.mk (Kd.R_lower (Kd.R_new' ho38 (Kd.R_lt (by (with_reducible repeat (first | apply Kd.R_alloc | apply Kd.R_drewN | apply Kd.R_drew)); exact HO283.out))) (below_size (by repeat (first | (with_reducible first | exact HB.out | apply below_alloc | apply pw_below_drewN | apply below_drew1 | refine below_set ?_ GE269.out) | exact HB.out))))
                         have n2_ := Aside0.mk (blk_belowB BK269.out (by (with_reducible repeat (first | refine blk_drewN ?_ _ | refine blk_drew ?_ | refine blk_alloc ?_ _)); exact BK269.out) hb)
                         have n3_ := Aside0.mk (below_step (by repeat (first | (with_reducible first | exact HB.out | apply below_alloc | apply pw_below_drewN | apply below_drew1 | refine below_set ?_ GE269.out) | exact HB.out)) hb)
                         clear HO283; clear BK269; clear HB
                         have HO283 := n0_
                         have HO276 := n1_
                         have BK269 := n2_
                         have HB := n3_
                         clear n0_ n1_ n2_ n3_; clear hb ho38
                         refine hK.out _ _ ⟨(blk_cell BK269.out 0).trans rfl, (blk_cell BK269.out 1).trans rfl, (blk_cell BK269.out 2).trans rfl, (blk_cell BK269.out 3).trans rfl, (blk_cell BK269.out 4).trans rfl, ((HB.out.cell (World.block_lt_of_cell? w _ hw280_0)).trans hw280_0), ((HB.out.cell (World.block_lt_of_cell? w _ hw280_1)).trans hw280_1)⟩ (fun hHeld => ?_)
                         clear hK K
                         refine norm_ (a' := ?_) ?_ ?_
                         rotate_left
                         ·show Act.put _ (some 49) _ = _
                          simp only [Act.put, List.setIfInBounds_toArray, List.set_cons_zero, List.set_cons_succ, i64_w, i32_w]
                          rfl
                         exact norm_ (by first | (simp only [putAll, Act.put, List.setIfInBounds_toArray, List.set_cons_zero, List.set_cons_succ]; done) | (simp only [putAll, Act.put, List.setIfInBounds_toArray, List.set_cons_zero, List.set_cons_succ]; rfl)) (hJ1_12 (v275, v282) _ ⟨hHeld, (by (with_reducible repeat (first | apply Kd.R_alloc | apply Kd.R_drewN | apply Kd.R_drew)); exact Kd.R_mono HO276.out (fun _ hk => hk.2)), (by (with_reducible repeat (first | apply Kd.R_alloc | apply Kd.R_drewN | apply Kd.R_drew)); exact Kd.R_mono HO283.out (fun _ hk => hk.2)), (by (with_reducible repeat (first | refine blk_drewN ?_ _ | refine blk_drew ?_ | refine blk_alloc ?_ _)); exact BK269.out), (by repeat (first | (with_reducible first | exact HB.out | apply below_alloc | apply pw_below_drewN | apply below_drew1 | refine below_set ?_ GE269.out) | exact HB.out))⟩)
                        ·skip
                         refine box_step ?hg (N := 8) ?hd (cs := #[.string (⟨#[]⟩ : ByteArray), .string (⟨#[]⟩ : ByteArray), .string (⟨#[]⟩ : ByteArray), .string (⟨#[]⟩ : ByteArray), .string (⟨#[]⟩ : ByteArray), .string (⟨#[]⟩ : ByteArray)]) (t := 30) ?hr ?_; (case hd => rfl); (case hg => rfl); (case hr => first | (go_simp; done) | (go_simp; rfl))
                         intro gb296 hg w37 hbox hb
                         have n0_ := Aside0.mk (Kd.R_below (by (with_reducible repeat (first | apply Kd.R_alloc | apply Kd.R_drewN | apply Kd.R_drew)); exact HO283.out) hb)
                         have n1_ := Aside0.mk (blk_belowB BK269.out (by (with_reducible repeat (first | refine blk_drewN ?_ _ | refine blk_drew ?_ | refine blk_alloc ?_ _)); exact BK269.out) hb)
                         have n2_ := Aside0.mk (below_step (by repeat (first | (with_reducible first | exact HB.out | apply below_alloc | apply pw_below_drewN | apply below_drew1 | refine below_set ?_ GE269.out) | exact HB.out)) hb)
                         have n3_ := Aside0.mk (hbox)
                         have n4_ := Aside0.mk ((by rw [hg]; exact (below_size (by repeat (first | (with_reducible first | exact HB.out | apply below_alloc | apply pw_below_drewN | apply below_drew1 | refine below_set ?_ GE269.out) | exact HB.out))) : w.heap.size ≤ gb296))
                         have n5_ := Aside0.mk ((by rw [hg]; exact (below_size (by repeat (first | (with_reducible first | exact HB.out | apply below_alloc | apply pw_below_drewN | apply below_drew1 | refine below_set ?_ GE269.out) | exact HB.out))) : w.heap.size ≤ gb296))
                         have n6_ := Aside0.mk ((by rw [hg]; exact Nat.ne_of_lt (blk_lt (g := gb269) (o := .cells #[.string a0_0, .string a0_1, .string a0_2, .slice A0_3 l0_3.length c0_3, .slice A0_4 l0_4.length c0_4] 27 (0, 0)) (by (with_reducible repeat (first | refine blk_drewN ?_ _ | refine blk_drew ?_ | refine blk_alloc ?_ _)); exact BK269.out)) : gb269 ≠ gb296))
                         have n7_ := Aside0.mk ((by rw [hg]; exact Nat.ne_of_gt (blk_lt (g := gb269) (o := .cells #[.string a0_0, .string a0_1, .string a0_2, .slice A0_3 l0_3.length c0_3, .slice A0_4 l0_4.length c0_4] 27 (0, 0)) (by (with_reducible repeat (first | refine blk_drewN ?_ _ | refine blk_drew ?_ | refine blk_alloc ?_ _)); exact BK269.out)) : gb296 ≠ gb269))
                         clear HO283; clear BK269; clear HB
                         have HO283 := n0_
                         have BK269 := n1_
                         have HB := n2_
                         have BK296 := n3_
                         have GW296 := n4_
                         have GE296 := n5_
                         have NB269_296 := n6_
                         have NB296_269 := n7_
                         clear n0_ n1_ n2_ n3_ n4_ n5_ n6_ n7_; clear hb hbox hg
                         refine hK.out _ _ ⟨(blk_cell BK269.out 0).trans rfl, (blk_cell BK269.out 1).trans rfl, (blk_cell BK269.out 2).trans rfl, (blk_cell BK269.out 3).trans rfl, (blk_cell BK269.out 4).trans rfl, ((HB.out.cell (World.block_lt_of_cell? w _ hw280_0)).trans hw280_0), ((HB.out.cell (World.block_lt_of_cell? w _ hw280_1)).trans hw280_1)⟩ (fun hHeld => ?_)
                         clear hK K
                         refine norm_ (a' := ?_) ?_ ?_
                         rotate_left
                         ·show Act.put _ (some 8) _ = _
                          simp only [Act.put, List.setIfInBounds_toArray, List.set_cons_zero, List.set_cons_succ, i64_w, i32_w]
                          rfl
                         exact norm_ (by first | (simp only [putAll, Act.put, List.setIfInBounds_toArray, List.set_cons_zero, List.set_cons_succ]; done) | (simp only [putAll, Act.put, List.setIfInBounds_toArray, List.set_cons_zero, List.set_cons_succ]; rfl)) (hJ12_20 (v282, gb296) _ ⟨hHeld, (by (with_reducible repeat (first | apply Kd.R_alloc | apply Kd.R_drewN | apply Kd.R_drew)); exact HO283.out), (by (with_reducible repeat (first | refine blk_drewN ?_ _ | refine blk_drew ?_ | refine blk_alloc ?_ _)); exact BK269.out), (by (with_reducible repeat (first | refine blk_drewN ?_ _ | refine blk_drew ?_ | refine blk_alloc ?_ _)); exact BK296.out), GW296.out, GE296.out, NB269_296.out, NB296_269.out, (by repeat (first | (with_reducible first | exact HB.out | apply below_alloc | apply pw_below_drewN | apply below_drew1 | refine below_set ?_ GE269.out | refine below_set ?_ GE296.out) | exact HB.out))⟩)
                      ·skip
                       rintro v275 w36 ⟨hS_, h0_, h1_, h2_⟩
                       have n0_ : Aside0 (Kd.R k39 39 w36 w.heap.size (fun _ => True) v275 y274) := ⟨h0_⟩
                       have n1_ : Aside0 (w36.heap[gb269]? = some (.cells #[.string a0_0, .string a0_1, .string a0_2, .slice A0_3 l0_3.length c0_3, .slice A0_4 l0_4.length c0_4] 27 (0, 0))) := ⟨h1_⟩
                       have n2_ : Aside0 (Below w.heap.size w w36) := ⟨h2_⟩
                       clear BK269; clear HB; clear h0_ h1_ h2_
                       have HO276 := n0_
                       have BK269 := n1_
                       have HB := n2_
                       clear n0_ n1_ n2_
                       have hHeld : w36.cell? ⟨gb269, 0, none⟩ = some (.string a0_0) ∧ w36.cell? ⟨gb269, 1, none⟩ = some (.string a0_1) ∧ w36.cell? ⟨gb269, 2, none⟩ = some (.string a0_2) ∧ w36.cell? ⟨gb269, 3, none⟩ = some (.slice A0_3 l0_3.length c0_3) ∧ w36.cell? ⟨gb269, 4, none⟩ = some (.slice A0_4 l0_4.length c0_4) ∧ w36.cell? (ad280.add (((ji23)).toNat * 2)) = some (.string ((rd_T39 l1 (ji23)).f0)) ∧ w36.cell? ⟨(ad280.add (((ji23)).toNat * 2)).block, (ad280.add (((ji23)).toNat * 2)).off + 1, none⟩ = some (.string ((rd_T39 l1 (ji23)).f1)) := hS_
                       refine norm_ (a' := ?_) ?_ ?_
                       rotate_left
                       ·simp only [putAll, Act.put, List.setIfInBounds_toArray, List.set_cons_zero, List.set_cons_succ]
                        rfl
                       refine three_ (i := 3) (j := 12) (k := 20) (Ni := some 51) (Nj := some 60) (Nk := some 8) #[true, true, true, true, true, true, true, true, true, true, true, true, false, false, false, false, false, false, false, false, false, false, false, false] #[true, true, true, false, true, true, true, true, true, true, true, true, true, false, false, false, false, false, false, false, false, false, false, false] #[true, true, true, false, true, true, true, true, true, true, true, true, false, false, false, false, false, false, false, false, true, false, false, false] rfl rfl rfl rfl rfl rfl (three_of HT_.out (by kernel_rfl)) (by decide) (by decide) (by decide) (fun K hK => ?_) (fun K hK => ?_) (fun K hK => ?_)
                       ·skip
                        refine Kd.R_append_rows_step k39 (w0 := w) w.heap.size (by rfl) (.tmp 49) (.tmp 50) 37 39 (.agg #[(.string ⟨#[]⟩), (.string ⟨#[]⟩)]) 32 rfl Tryd.underlying37 info39 rfl (by decide) (by omega) v275 y274 l1 _ _ _ (fun _ => True) (fun _ => False) rfl rfl ?aO ?aR (fun _ _ h => h) (fun _ h => h.elim) ?aF ?aB ?aS ?aL ?_
                        (case aR => repeat (first | exact (Kd.C_below HR1.out HB.out) | (with_reducible refine Kd.C_alloc ?_ _) | (with_reducible refine Kd.C_drewN ?_ _) | (with_reducible refine Kd.C_drew ?_)))
                        (case aB => exact (by repeat (first | (with_reducible first | exact HB.out | apply below_alloc | apply pw_below_drewN | apply below_drew1 | refine below_set ?_ GE269.out) | exact HB.out)))
                        (case aF => exact (fun _ _ => trivial))
                        (case aO => exact (by (with_reducible repeat (first | apply Kd.R_alloc | apply Kd.R_drewN | apply Kd.R_drew)); exact HO276.out))
                        (case aS => exact (below_size (by repeat (first | (with_reducible first | exact HB.out | apply below_alloc | apply pw_below_drewN | apply below_drew1 | refine below_set ?_ GE269.out) | exact HB.out))))
                        (case aL => have := LMc21.out; omega)
                        intro v278 w37 ho hb hg hat
                        rw [← Ny277.out] at ho
                        have n0_ := Aside0.mk (blk_grown (g := gb269) (o := .cells #[.string a0_0, .string a0_1, .string a0_2, .slice A0_3 l0_3.length c0_3, .slice A0_4 l0_4.length c0_4] 27 (0, 0)) (by (with_reducible repeat (first | refine blk_drewN ?_ _ | refine blk_drew ?_ | refine blk_alloc ?_ _)); exact BK269.out) hg (Kd.R_ne HO276.out BK269.out (by decide)))
                        have n1_ := Aside0.mk (hb)
                        have n2_ := Aside0.mk (ho)
                        clear BK269; clear HB; clear HO276
                        have BK269 := n0_
                        have HB := n1_
                        have HO279 := n2_
                        clear n0_ n1_ n2_; clear ho hb hg hat
                        refine hK.out _ _ ⟨(blk_cell BK269.out 0).trans rfl, (blk_cell BK269.out 1).trans rfl, (blk_cell BK269.out 2).trans rfl, (blk_cell BK269.out 3).trans rfl, (blk_cell BK269.out 4).trans rfl, ((HB.out.cell (World.block_lt_of_cell? w _ hw280_0)).trans hw280_0), ((HB.out.cell (World.block_lt_of_cell? w _ hw280_1)).trans hw280_1)⟩ (fun hHeld => ?_)
                        clear hK K
                        refine norm_ (a' := ?_) ?_ ?_
                        rotate_left
                        ·show Act.put _ (some 51) _ = _
                         simp only [Act.put, List.setIfInBounds_toArray, List.set_cons_zero, List.set_cons_succ, i64_w, i32_w]
                         rfl
                        exact norm_ (by first | (simp only [putAll, Act.put, List.setIfInBounds_toArray, List.set_cons_zero, List.set_cons_succ]; done) | (simp only [putAll, Act.put, List.setIfInBounds_toArray, List.set_cons_zero, List.set_cons_succ]; rfl)) (hJ1_3 (v275, v278) _ ⟨hHeld, (by (with_reducible repeat (first | apply Kd.R_alloc | apply Kd.R_drewN | apply Kd.R_drew)); exact HO279.out), (by (with_reducible repeat (first | refine blk_drewN ?_ _ | refine blk_drew ?_ | refine blk_alloc ?_ _)); exact BK269.out), (by repeat (first | (with_reducible first | exact HB.out | apply below_alloc | apply pw_below_drewN | apply below_drew1 | refine below_set ?_ GE269.out) | exact HB.out))⟩)
                       ·skip
                        refine Kd.R_lit_step k39 _ 39 ?hg (N := 60) ?hd (xs := ([(⟨(rd_T39 l1 (ji23)).f0, (rd_T39 l1 (ji23)).f1⟩ : S39)] : List (S39))) (inner := [.string ((rd_T39 l1 (ji23)).f0), .string ((rd_T39 l1 (ji23)).f1)]) (ok := fun _ => True) (okp := fun _ => True) ?hr ?hp (fun _ hk => hk) trivial (Below.refl _ _) (Nat.le_refl _) (by simp) ?_; (case hd => rfl); (case hg => rfl); (case hr => first | (go_simp; done) | (go_simp; rfl)); (case hp => exact (Reps.c2 (show Kd.M k39 _ _ _ (⟨(rd_T39 l1 (ji23)).f0, (rd_T39 l1 (ji23)).f1⟩ : S39) [.string ((rd_T39 l1 (ji23)).f0), .string ((rd_T39 l1 (ji23)).f1)] from (k39_mkM _ _ _ (⟨(rd_T39 l1 (ji23)).f0, (rd_T39 l1 (ji23)).f1⟩ : S39) )) (Reps.none _ _)))
                        intro v282 w37 ho38 hb hg_ hnew_
                        clear hg_ hnew_
                        (first | rw [← Ny281.out] at ho38 | (simp only [Int.reduceToNat] at ho38; rw [← Ny281.out] at ho38))
                        have n0_ := Aside0.mk (Kd.R_elder' (by (with_reducible repeat (first | apply Kd.R_alloc | apply Kd.R_drewN | apply Kd.R_drew)); exact HO276.out) (Kd.R_base ho38) hb)
                        have n1_ := Aside0.mk (Kd.R_lower (Kd.R_new' ho38 (Kd.R_lt (by (with_reducible repeat (first | apply Kd.R_alloc | apply Kd.R_drewN | apply Kd.R_drew)); exact HO276.out))) (below_size (by repeat (first | (with_reducible first | exact HB.out | apply below_alloc | apply pw_below_drewN | apply below_drew1 | refine below_set ?_ GE269.out) | exact HB.out))))
                        have n2_ := Aside0.mk (blk_belowB BK269.out (by (with_reducible repeat (first | refine blk_drewN ?_ _ | refine blk_drew ?_ | refine blk_alloc ?_ _)); exact BK269.out) hb)
                        have n3_ := Aside0.mk (below_step (by repeat (first | (with_reducible first | exact HB.out | apply below_alloc | apply pw_below_drewN | apply below_drew1 | refine below_set ?_ GE269.out) | exact HB.out)) hb)
                        clear HO276; clear BK269; clear HB
                        have HO276 := n0_
                        have HO283 := n1_
                        have BK269 := n2_
                        have HB := n3_
                        clear n0_ n1_ n2_ n3_; clear hb ho38
                        refine hK.out _ _ ⟨(blk_cell BK269.out 0).trans rfl, (blk_cell BK269.out 1).trans rfl, (blk_cell BK269.out 2).trans rfl, (blk_cell BK269.out 3).trans rfl, (blk_cell BK269.out 4).trans rfl, ((HB.out.cell (World.block_lt_of_cell? w _ hw280_0)).trans hw280_0), ((HB.out.cell (World.block_lt_of_cell? w _ hw280_1)).trans hw280_1)⟩ (fun hHeld => ?_)
                        clear hK K
                        refine norm_ (a' := ?_) ?_ ?_
                        rotate_left
                        ·show Act.put _ (some 60) _ = _
                         simp only [Act.put, List.setIfInBounds_toArray, List.set_cons_zero, List.set_cons_succ, i64_w, i32_w]
                         rfl
                        exact norm_ (by first | (simp only [putAll, Act.put, List.setIfInBounds_toArray, List.set_cons_zero, List.set_cons_succ]; done) | (simp only [putAll, Act.put, List.setIfInBounds_toArray, List.set_cons_zero, List.set_cons_succ]; rfl)) (hJ1_12 (v275, v282) _ ⟨hHeld, (by (with_reducible repeat (first | apply Kd.R_alloc | apply Kd.R_drewN | apply Kd.R_drew)); exact Kd.R_mono HO276.out (fun _ hk => hk.2)), (by (with_reducible repeat (first | apply Kd.R_alloc | apply Kd.R_drewN | apply Kd.R_drew)); exact Kd.R_mono HO283.out (fun _ hk => hk.2)), (by (with_reducible repeat (first | refine blk_drewN ?_ _ | refine blk_drew ?_ | refine blk_alloc ?_ _)); exact BK269.out), (by repeat (first | (with_reducible first | exact HB.out | apply below_alloc | apply pw_below_drewN | apply below_drew1 | refine below_set ?_ GE269.out) | exact HB.out))⟩)
                       ·skip
                        refine box_step ?hg (N := 8) ?hd (cs := #[.string (⟨#[]⟩ : ByteArray), .string (⟨#[]⟩ : ByteArray), .string (⟨#[]⟩ : ByteArray), .string (⟨#[]⟩ : ByteArray), .string (⟨#[]⟩ : ByteArray), .string (⟨#[]⟩ : ByteArray)]) (t := 30) ?hr ?_; (case hd => rfl); (case hg => rfl); (case hr => first | (go_simp; done) | (go_simp; rfl))
                        intro gb296 hg w37 hbox hb
                        have n0_ := Aside0.mk (Kd.R_below (by (with_reducible repeat (first | apply Kd.R_alloc | apply Kd.R_drewN | apply Kd.R_drew)); exact HO276.out) hb)
                        have n1_ := Aside0.mk (blk_belowB BK269.out (by (with_reducible repeat (first | refine blk_drewN ?_ _ | refine blk_drew ?_ | refine blk_alloc ?_ _)); exact BK269.out) hb)
                        have n2_ := Aside0.mk (below_step (by repeat (first | (with_reducible first | exact HB.out | apply below_alloc | apply pw_below_drewN | apply below_drew1 | refine below_set ?_ GE269.out) | exact HB.out)) hb)
                        have n3_ := Aside0.mk (hbox)
                        have n4_ := Aside0.mk ((by rw [hg]; exact (below_size (by repeat (first | (with_reducible first | exact HB.out | apply below_alloc | apply pw_below_drewN | apply below_drew1 | refine below_set ?_ GE269.out) | exact HB.out))) : w.heap.size ≤ gb296))
                        have n5_ := Aside0.mk ((by rw [hg]; exact (below_size (by repeat (first | (with_reducible first | exact HB.out | apply below_alloc | apply pw_below_drewN | apply below_drew1 | refine below_set ?_ GE269.out) | exact HB.out))) : w.heap.size ≤ gb296))
                        have n6_ := Aside0.mk ((by rw [hg]; exact Nat.ne_of_lt (blk_lt (g := gb269) (o := .cells #[.string a0_0, .string a0_1, .string a0_2, .slice A0_3 l0_3.length c0_3, .slice A0_4 l0_4.length c0_4] 27 (0, 0)) (by (with_reducible repeat (first | refine blk_drewN ?_ _ | refine blk_drew ?_ | refine blk_alloc ?_ _)); exact BK269.out)) : gb269 ≠ gb296))
                        have n7_ := Aside0.mk ((by rw [hg]; exact Nat.ne_of_gt (blk_lt (g := gb269) (o := .cells #[.string a0_0, .string a0_1, .string a0_2, .slice A0_3 l0_3.length c0_3, .slice A0_4 l0_4.length c0_4] 27 (0, 0)) (by (with_reducible repeat (first | refine blk_drewN ?_ _ | refine blk_drew ?_ | refine blk_alloc ?_ _)); exact BK269.out)) : gb296 ≠ gb269))
                        clear HO276; clear BK269; clear HB
                        have HO276 := n0_
                        have BK269 := n1_
                        have HB := n2_
                        have BK296 := n3_
                        have GW296 := n4_
                        have GE296 := n5_
                        have NB269_296 := n6_
                        have NB296_269 := n7_
                        clear n0_ n1_ n2_ n3_ n4_ n5_ n6_ n7_; clear hb hbox hg
                        refine hK.out _ _ ⟨(blk_cell BK269.out 0).trans rfl, (blk_cell BK269.out 1).trans rfl, (blk_cell BK269.out 2).trans rfl, (blk_cell BK269.out 3).trans rfl, (blk_cell BK269.out 4).trans rfl, ((HB.out.cell (World.block_lt_of_cell? w _ hw280_0)).trans hw280_0), ((HB.out.cell (World.block_lt_of_cell? w _ hw280_1)).trans hw280_1)⟩ (fun hHeld => ?_)
                        clear hK K
                        refine norm_ (a' := ?_) ?_ ?_
                        rotate_left
                        ·show Act.put _ (some 8) _ = _
                         simp only [Act.put, List.setIfInBounds_toArray, List.set_cons_zero, List.set_cons_succ, i64_w, i32_w]
                         rfl
                        exact norm_ (by first | (simp only [putAll, Act.put, List.setIfInBounds_toArray, List.set_cons_zero, List.set_cons_succ]; done) | (simp only [putAll, Act.put, List.setIfInBounds_toArray, List.set_cons_zero, List.set_cons_succ]; rfl)) (hJ1_20 (v275, gb296) _ ⟨hHeld, (by (with_reducible repeat (first | apply Kd.R_alloc | apply Kd.R_drewN | apply Kd.R_drew)); exact HO276.out), (by (with_reducible repeat (first | refine blk_drewN ?_ _ | refine blk_drew ?_ | refine blk_alloc ?_ _)); exact BK269.out), (by (with_reducible repeat (first | refine blk_drewN ?_ _ | refine blk_drew ?_ | refine blk_alloc ?_ _)); exact BK296.out), GW296.out, GE296.out, NB269_296.out, NB296_269.out, (by repeat (first | (with_reducible first | exact HB.out | apply below_alloc | apply pw_below_drewN | apply below_drew1 | refine below_set ?_ GE269.out | refine below_set ?_ GE296.out) | exact HB.out))⟩)
                     ·skip
                      rintro ⟨v282, gb296⟩ w37 ⟨hS_, h0_, h1_, h2_, h3_, h4_, h5_, h6_, h7_⟩
                      have n0_ : Aside0 (Kd.R k39 39 w37 w.heap.size (fun _ => True) v282 y281) := ⟨h0_⟩
                      have n1_ : Aside0 (w37.heap[gb269]? = some (.cells #[.string a0_0, .string a0_1, .string a0_2, .slice A0_3 l0_3.length c0_3, .slice A0_4 l0_4.length c0_4] 27 (0, 0))) := ⟨h1_⟩
                      have n2_ : Aside0 (w37.heap[gb296]? = some (.cells #[.string (⟨#[]⟩ : ByteArray), .string (⟨#[]⟩ : ByteArray), .string (⟨#[]⟩ : ByteArray), .string (⟨#[]⟩ : ByteArray), .string (⟨#[]⟩ : ByteArray), .string (⟨#[]⟩ : ByteArray)] 30 (0, 0))) := ⟨h2_⟩
                      have n3_ : Aside0 (w.heap.size ≤ gb296) := ⟨h3_⟩
                      have n4_ : Aside0 (w.heap.size ≤ gb296) := ⟨h4_⟩
                      have n5_ : Aside0 (gb269 ≠ gb296) := ⟨h5_⟩
                      have n6_ : Aside0 (gb296 ≠ gb269) := ⟨h6_⟩
                      have n7_ : Aside0 (Below w.heap.size w w37) := ⟨h7_⟩
                      clear BK269; clear HB; clear h0_ h1_ h2_ h3_ h4_ h5_ h6_ h7_
                      have HO283 := n0_
                      have BK269 := n1_
                      have BK296 := n2_
                      have GW296 := n3_
                      have GE296 := n4_
                      have NB269_296 := n5_
                      have NB296_269 := n6_
                      have HB := n7_
                      clear n0_ n1_ n2_ n3_ n4_ n5_ n6_ n7_
                      have hHeld : w37.cell? ⟨gb269, 0, none⟩ = some (.string a0_0) ∧ w37.cell? ⟨gb269, 1, none⟩ = some (.string a0_1) ∧ w37.cell? ⟨gb269, 2, none⟩ = some (.string a0_2) ∧ w37.cell? ⟨gb269, 3, none⟩ = some (.slice A0_3 l0_3.length c0_3) ∧ w37.cell? ⟨gb269, 4, none⟩ = some (.slice A0_4 l0_4.length c0_4) ∧ w37.cell? (ad280.add (((ji23)).toNat * 2)) = some (.string ((rd_T39 l1 (ji23)).f0)) ∧ w37.cell? ⟨(ad280.add (((ji23)).toNat * 2)).block, (ad280.add (((ji23)).toNat * 2)).off + 1, none⟩ = some (.string ((rd_T39 l1 (ji23)).f1)) := hS_
                      refine norm_ (a' := ?_) ?_ ?_
                      rotate_left
                      ·simp only [putAll, Act.put, List.setIfInBounds_toArray, List.set_cons_zero, List.set_cons_succ]
                       rfl
                      refine one_ (i := 1) (N := some 49) #[true, true, true, false, true, true, true, true, true, true, true, true, true, false, false, false, false, false, false, false, true, false, false, false] rfl rfl (one_of HT_.out (by kernel_rfl)) (by decide) (fun K hK => ?_)
                      refine Kd.R_lit_step k39 _ 39 ?hg (N := 49) ?hd (xs := ([] : List (S39))) (inner := []) (ok := fun _ => True) (okp := fun _ => True) ?hr ?hp (fun _ hk => hk) trivial (Below.refl _ _) (Nat.le_refl _) (by simp) ?_; (case hd => rfl); (case hg => rfl); (case hr => first | (go_simp; done) | (go_simp; rfl)); (case hp => exact (Reps.none _ _))
                      intro v275 w38 ho39 hb hg_ hnew_
                      clear hg_ hnew_
                      (first | rw [← Ny274.out] at ho39 | (simp only [Int.reduceToNat] at ho39; rw [← Ny274.out] at ho39))
                      have n0_ := Aside0.mk (Kd.R_elder' (by (with_reducible repeat (first | apply Kd.R_alloc | apply Kd.R_drewN | apply Kd.R_drew)); exact HO283.out) (Kd.R_base ho39) hb)
                      have n1_ := Aside0.mk (Kd.R_lower (Kd.R_new' ho39 (Kd.R_lt (by (with_reducible repeat (first | apply Kd.R_alloc | apply Kd.R_drewN | apply Kd.R_drew)); exact HO283.out))) (below_size (by repeat (first | (with_reducible first | exact HB.out | apply below_alloc | apply pw_below_drewN | apply below_drew1 | refine below_set ?_ GE269.out | refine below_set ?_ GE296.out) | exact HB.out))))
                      have n2_ := Aside0.mk (blk_belowB BK269.out (by (with_reducible repeat (first | refine blk_drewN ?_ _ | refine blk_drew ?_ | refine blk_alloc ?_ _)); exact BK269.out) hb)
                      have n3_ := Aside0.mk (blk_belowB BK296.out (by (with_reducible repeat (first | refine blk_drewN ?_ _ | refine blk_drew ?_ | refine blk_alloc ?_ _)); exact BK296.out) hb)
                      have n4_ := Aside0.mk (below_step (by repeat (first | (with_reducible first | exact HB.out | apply below_alloc | apply pw_below_drewN | apply below_drew1 | refine below_set ?_ GE269.out | refine below_set ?_ GE296.out) | exact HB.out)) hb)
                      clear HO283; clear BK269; clear BK296; clear HB
                      have HO283 := n0_
                      have HO276 := n1_
                      have BK269 := n2_
                      have BK296 := n3_
                      have HB := n4_
                      clear n0_ n1_ n2_ n3_ n4_; clear hb ho39
                      refine hK.out _ _ ⟨(blk_cell BK269.out 0).trans rfl, (blk_cell BK269.out 1).trans rfl, (blk_cell BK269.out 2).trans rfl, (blk_cell BK269.out 3).trans rfl, (blk_cell BK269.out 4).trans rfl, ((HB.out.cell (World.block_lt_of_cell? w _ hw280_0)).trans hw280_0), ((HB.out.cell (World.block_lt_of_cell? w _ hw280_1)).trans hw280_1)⟩ (fun hHeld => ?_)
                      clear hK K
                      refine norm_ (a' := ?_) ?_ ?_
                      rotate_left
                      ·show Act.put _ (some 49) _ = _
                       simp only [Act.put, List.setIfInBounds_toArray, List.set_cons_zero, List.set_cons_succ, i64_w, i32_w]
                       rfl
                      exact norm_ (by first | (simp only [putAll, Act.put, List.setIfInBounds_toArray, List.set_cons_zero, List.set_cons_succ]; done) | (simp only [putAll, Act.put, List.setIfInBounds_toArray, List.set_cons_zero, List.set_cons_succ]; rfl)) (hJ1_12_20 (v275, v282, gb296) _ ⟨hHeld, (by (with_reducible repeat (first | apply Kd.R_alloc | apply Kd.R_drewN | apply Kd.R_drew)); exact Kd.R_mono HO276.out (fun _ hk => hk.2)), (by (with_reducible repeat (first | apply Kd.R_alloc | apply Kd.R_drewN | apply Kd.R_drew)); exact Kd.R_mono HO283.out (fun _ hk => hk.2)), (by (with_reducible repeat (first | refine blk_drewN ?_ _ | refine blk_drew ?_ | refine blk_alloc ?_ _)); exact BK269.out), (by (with_reducible repeat (first | refine blk_drewN ?_ _ | refine blk_drew ?_ | refine blk_alloc ?_ _)); exact BK296.out), GW296.out, GE296.out, NB269_296.out, NB296_269.out, (by repeat (first | (with_reducible first | exact HB.out | apply below_alloc | apply pw_below_drewN | apply below_drew1 | refine below_set ?_ GE269.out | refine below_set ?_ GE296.out) | exact HB.out))⟩)
                    ·skip
                     rintro ⟨v275, gb296⟩ w37 ⟨hS_, h0_, h1_, h2_, h3_, h4_, h5_, h6_, h7_⟩
                     have n0_ : Aside0 (Kd.R k39 39 w37 w.heap.size (fun _ => True) v275 y274) := ⟨h0_⟩
                     have n1_ : Aside0 (w37.heap[gb269]? = some (.cells #[.string a0_0, .string a0_1, .string a0_2, .slice A0_3 l0_3.length c0_3, .slice A0_4 l0_4.length c0_4] 27 (0, 0))) := ⟨h1_⟩
                     have n2_ : Aside0 (w37.heap[gb296]? = some (.cells #[.string (⟨#[]⟩ : ByteArray), .string (⟨#[]⟩ : ByteArray), .string (⟨#[]⟩ : ByteArray), .string (⟨#[]⟩ : ByteArray), .string (⟨#[]⟩ : ByteArray), .string (⟨#[]⟩ : ByteArray)] 30 (0, 0))) := ⟨h2_⟩
                     have n3_ : Aside0 (w.heap.size ≤ gb296) := ⟨h3_⟩
                     have n4_ : Aside0 (w.heap.size ≤ gb296) := ⟨h4_⟩
                     have n5_ : Aside0 (gb269 ≠ gb296) := ⟨h5_⟩
                     have n6_ : Aside0 (gb296 ≠ gb269) := ⟨h6_⟩
                     have n7_ : Aside0 (Below w.heap.size w w37) := ⟨h7_⟩
                     clear BK269; clear HB; clear h0_ h1_ h2_ h3_ h4_ h5_ h6_ h7_
                     have HO276 := n0_
                     have BK269 := n1_
                     have BK296 := n2_
                     have GW296 := n3_
                     have GE296 := n4_
                     have NB269_296 := n5_
                     have NB296_269 := n6_
                     have HB := n7_
                     clear n0_ n1_ n2_ n3_ n4_ n5_ n6_ n7_
                     have hHeld : w37.cell? ⟨gb269, 0, none⟩ = some (.string a0_0) ∧ w37.cell? ⟨gb269, 1, none⟩ = some (.string a0_1) ∧ w37.cell? ⟨gb269, 2, none⟩ = some (.string a0_2) ∧ w37.cell? ⟨gb269, 3, none⟩ = some (.slice A0_3 l0_3.length c0_3) ∧ w37.cell? ⟨gb269, 4, none⟩ = some (.slice A0_4 l0_4.length c0_4) ∧ w37.cell? (ad280.add (((ji23)).toNat * 2)) = some (.string ((rd_T39 l1 (ji23)).f0)) ∧ w37.cell? ⟨(ad280.add (((ji23)).toNat * 2)).block, (ad280.add (((ji23)).toNat * 2)).off + 1, none⟩ = some (.string ((rd_T39 l1 (ji23)).f1)) := hS_
                     refine norm_ (a' := ?_) ?_ ?_
                     rotate_left
                     ·simp only [putAll, Act.put, List.setIfInBounds_toArray, List.set_cons_zero, List.set_cons_succ]
                      rfl
                     refine two_ (i := 3) (j := 12) (Ni := some 51) (Nj := some 60) #[true, true, true, true, true, true, true, true, true, true, true, true, false, false, false, false, false, false, false, false, true, false, false, false] #[true, true, true, false, true, true, true, true, true, true, true, true, true, false, false, false, false, false, false, false, true, false, false, false] rfl rfl rfl rfl (two_of HT_.out (by kernel_rfl)) (by decide) (by decide) (fun K hK => ?_) (fun K hK => ?_)
                     ·skip
                      refine Kd.R_append_rows_step k39 (w0 := w) w.heap.size (by rfl) (.tmp 49) (.tmp 50) 37 39 (.agg #[(.string ⟨#[]⟩), (.string ⟨#[]⟩)]) 32 rfl Tryd.underlying37 info39 rfl (by decide) (by omega) v275 y274 l1 _ _ _ (fun _ => True) (fun _ => False) rfl rfl ?aO ?aR (fun _ _ h => h) (fun _ h => h.elim) ?aF ?aB ?aS ?aL ?_
                      (case aR => repeat (first | exact (Kd.C_below HR1.out HB.out) | (with_reducible refine Kd.C_alloc ?_ _) | (with_reducible refine Kd.C_drewN ?_ _) | (with_reducible refine Kd.C_drew ?_)))
                      (case aB => exact (by repeat (first | (with_reducible first | exact HB.out | apply below_alloc | apply pw_below_drewN | apply below_drew1 | refine below_set ?_ GE269.out | refine below_set ?_ GE296.out) | exact HB.out)))
                      (case aF => exact (fun _ _ => trivial))
                      (case aO => exact (by (with_reducible repeat (first | apply Kd.R_alloc | apply Kd.R_drewN | apply Kd.R_drew)); exact HO276.out))
                      (case aS => exact (below_size (by repeat (first | (with_reducible first | exact HB.out | apply below_alloc | apply pw_below_drewN | apply below_drew1 | refine below_set ?_ GE269.out | refine below_set ?_ GE296.out) | exact HB.out))))
                      (case aL => have := LMc21.out; omega)
                      intro v278 w38 ho hb hg hat
                      rw [← Ny277.out] at ho
                      have n0_ := Aside0.mk (blk_grown (g := gb269) (o := .cells #[.string a0_0, .string a0_1, .string a0_2, .slice A0_3 l0_3.length c0_3, .slice A0_4 l0_4.length c0_4] 27 (0, 0)) (by (with_reducible repeat (first | refine blk_drewN ?_ _ | refine blk_drew ?_ | refine blk_alloc ?_ _)); exact BK269.out) hg (Kd.R_ne HO276.out BK269.out (by decide)))
                      have n1_ := Aside0.mk (blk_grown (g := gb296) (o := .cells #[.string (⟨#[]⟩ : ByteArray), .string (⟨#[]⟩ : ByteArray), .string (⟨#[]⟩ : ByteArray), .string (⟨#[]⟩ : ByteArray), .string (⟨#[]⟩ : ByteArray), .string (⟨#[]⟩ : ByteArray)] 30 (0, 0)) (by (with_reducible repeat (first | refine blk_drewN ?_ _ | refine blk_drew ?_ | refine blk_alloc ?_ _)); exact BK296.out) hg (Kd.R_ne HO276.out BK296.out (by decide)))
                      have n2_ := Aside0.mk (hb)
                      have n3_ := Aside0.mk (ho)
                      clear BK269; clear BK296; clear HB; clear HO276
                      have BK269 := n0_
                      have BK296 := n1_
                      have HB := n2_
                      have HO279 := n3_
                      clear n0_ n1_ n2_ n3_; clear ho hb hg hat
                      refine hK.out _ _ ⟨(blk_cell BK269.out 0).trans rfl, (blk_cell BK269.out 1).trans rfl, (blk_cell BK269.out 2).trans rfl, (blk_cell BK269.out 3).trans rfl, (blk_cell BK269.out 4).trans rfl, ((HB.out.cell (World.block_lt_of_cell? w _ hw280_0)).trans hw280_0), ((HB.out.cell (World.block_lt_of_cell? w _ hw280_1)).trans hw280_1)⟩ (fun hHeld => ?_)
                      clear hK K
                      refine norm_ (a' := ?_) ?_ ?_
                      rotate_left
                      ·show Act.put _ (some 51) _ = _
                       simp only [Act.put, List.setIfInBounds_toArray, List.set_cons_zero, List.set_cons_succ, i64_w, i32_w]
                       rfl
                      exact norm_ (by first | (simp only [putAll, Act.put, List.setIfInBounds_toArray, List.set_cons_zero, List.set_cons_succ]; done) | (simp only [putAll, Act.put, List.setIfInBounds_toArray, List.set_cons_zero, List.set_cons_succ]; rfl)) (hJ1_3_20 (v275, v278, gb296) _ ⟨hHeld, (by (with_reducible repeat (first | apply Kd.R_alloc | apply Kd.R_drewN | apply Kd.R_drew)); exact HO279.out), (by (with_reducible repeat (first | refine blk_drewN ?_ _ | refine blk_drew ?_ | refine blk_alloc ?_ _)); exact BK269.out), (by (with_reducible repeat (first | refine blk_drewN ?_ _ | refine blk_drew ?_ | refine blk_alloc ?_ _)); exact BK296.out), GW296.out, GE296.out, NB269_296.out, NB296_269.out, (by repeat (first | (with_reducible first | exact HB.out | apply below_alloc | apply pw_below_drewN | apply below_drew1 | refine below_set ?_ GE269.out | refine below_set ?_ GE296.out) | exact HB.out))⟩)
                     ·skip
                      refine Kd.R_lit_step k39 _ 39 ?hg (N := 60) ?hd (xs := ([(⟨(rd_T39 l1 (ji23)).f0, (rd_T39 l1 (ji23)).f1⟩ : S39)] : List (S39))) (inner := [.string ((rd_T39 l1 (ji23)).f0), .string ((rd_T39 l1 (ji23)).f1)]) (ok := fun _ => True) (okp := fun _ => True) ?hr ?hp (fun _ hk => hk) trivial (Below.refl _ _) (Nat.le_refl _) (by simp) ?_; (case hd => rfl); (case hg => rfl); (case hr => first | (go_simp; done) | (go_simp; rfl)); (case hp => exact (Reps.c2 (show Kd.M k39 _ _ _ (⟨(rd_T39 l1 (ji23)).f0, (rd_T39 l1 (ji23)).f1⟩ : S39) [.string ((rd_T39 l1 (ji23)).f0), .string ((rd_T39 l1 (ji23)).f1)] from (k39_mkM _ _ _ (⟨(rd_T39 l1 (ji23)).f0, (rd_T39 l1 (ji23)).f1⟩ : S39) )) (Reps.none _ _)))
                      intro v282 w38 ho39 hb hg_ hnew_
                      clear hg_ hnew_
                      (first | rw [← Ny281.out] at ho39 | (simp only [Int.reduceToNat] at ho39; rw [← Ny281.out] at ho39))
                      have n0_ := Aside0.mk (Kd.R_elder' (by (with_reducible repeat (first | apply Kd.R_alloc | apply Kd.R_drewN | apply Kd.R_drew)); exact HO276.out) (Kd.R_base ho39) hb)
                      have n1_ := Aside0.mk (Kd.R_lower (Kd.R_new' ho39 (Kd.R_lt (by (with_reducible repeat (first | apply Kd.R_alloc | apply Kd.R_drewN | apply Kd.R_drew)); exact HO276.out))) (below_size (by repeat (first | (with_reducible first | exact HB.out | apply below_alloc | apply pw_below_drewN | apply below_drew1 | refine below_set ?_ GE269.out | refine below_set ?_ GE296.out) | exact HB.out))))
                      have n2_ := Aside0.mk (blk_belowB BK269.out (by (with_reducible repeat (first | refine blk_drewN ?_ _ | refine blk_drew ?_ | refine blk_alloc ?_ _)); exact BK269.out) hb)
                      have n3_ := Aside0.mk (blk_belowB BK296.out (by (with_reducible repeat (first | refine blk_drewN ?_ _ | refine blk_drew ?_ | refine blk_alloc ?_ _)); exact BK296.out) hb)
                      have n4_ := Aside0.mk (below_step (by repeat (first | (with_reducible first | exact HB.out | apply below_alloc | apply pw_below_drewN | apply below_drew1 | refine below_set ?_ GE269.out | refine below_set ?_ GE296.out) | exact HB.out)) hb)
                      clear HO276; clear BK269; clear BK296; clear HB
                      have HO276 := n0_
                      have HO283 := n1_
                      have BK269 := n2_
                      have BK296 := n3_
                      have HB := n4_
                      clear n0_ n1_ n2_ n3_ n4_; clear hb ho39
                      refine hK.out _ _ ⟨(blk_cell BK269.out 0).trans rfl, (blk_cell BK269.out 1).trans rfl, (blk_cell BK269.out 2).trans rfl, (blk_cell BK269.out 3).trans rfl, (blk_cell BK269.out 4).trans rfl, ((HB.out.cell (World.block_lt_of_cell? w _ hw280_0)).trans hw280_0), ((HB.out.cell (World.block_lt_of_cell? w _ hw280_1)).trans hw280_1)⟩ (fun hHeld => ?_)
                      clear hK K
                      refine norm_ (a' := ?_) ?_ ?_
                      rotate_left
                      ·show Act.put _ (some 60) _ = _
                       simp only [Act.put, List.setIfInBounds_toArray, List.set_cons_zero, List.set_cons_succ, i64_w, i32_w]
                       rfl
                      exact norm_ (by first | (simp only [putAll, Act.put, List.setIfInBounds_toArray, List.set_cons_zero, List.set_cons_succ]; done) | (simp only [putAll, Act.put, List.setIfInBounds_toArray, List.set_cons_zero, List.set_cons_succ]; rfl)) (hJ1_12_20 (v275, v282, gb296) _ ⟨hHeld, (by (with_reducible repeat (first | apply Kd.R_alloc | apply Kd.R_drewN | apply Kd.R_drew)); exact Kd.R_mono HO276.out (fun _ hk => hk.2)), (by (with_reducible repeat (first | apply Kd.R_alloc | apply Kd.R_drewN | apply Kd.R_drew)); exact Kd.R_mono HO283.out (fun _ hk => hk.2)), (by (with_reducible repeat (first | refine blk_drewN ?_ _ | refine blk_drew ?_ | refine blk_alloc ?_ _)); exact BK269.out), (by (with_reducible repeat (first | refine blk_drewN ?_ _ | refine blk_drew ?_ | refine blk_alloc ?_ _)); exact BK296.out), GW296.out, GE296.out, NB269_296.out, NB296_269.out, (by repeat (first | (with_reducible first | exact HB.out | apply below_alloc | apply pw_below_drewN | apply below_drew1 | refine below_set ?_ GE269.out | refine below_set ?_ GE296.out) | exact HB.out))⟩)
                   ·skip
                    rintro ⟨v275, v282⟩ w38 ⟨hS_, h0_, h1_, h2_, h3_⟩
                    have n0_ : Aside0 (Kd.R k39 39 w38 w.heap.size (fun k_ => some k_ ≠ (v282 : Value).ownBlock) v275 y274) := ⟨h0_⟩
                    have n1_ : Aside0 (Kd.R k39 39 w38 w.heap.size (fun k_ => some k_ ≠ (v275 : Value).ownBlock) v282 y281) := ⟨h1_⟩
                    have n2_ : Aside0 (w38.heap[gb269]? = some (.cells #[.string a0_0, .string a0_1, .string a0_2, .slice A0_3 l0_3.length c0_3, .slice A0_4 l0_4.length c0_4] 27 (0, 0))) := ⟨h2_⟩
                    have n3_ : Aside0 (Below w.heap.size w w38) := ⟨h3_⟩
                    clear BK269; clear HB; clear h0_ h1_ h2_ h3_
                    have HO276 := n0_
                    have HO283 := n1_
                    have BK269 := n2_
                    have HB := n3_
                    clear n0_ n1_ n2_ n3_
                    have hHeld : w38.cell? ⟨gb269, 0, none⟩ = some (.string a0_0) ∧ w38.cell? ⟨gb269, 1, none⟩ = some (.string a0_1) ∧ w38.cell? ⟨gb269, 2, none⟩ = some (.string a0_2) ∧ w38.cell? ⟨gb269, 3, none⟩ = some (.slice A0_3 l0_3.length c0_3) ∧ w38.cell? ⟨gb269, 4, none⟩ = some (.slice A0_4 l0_4.length c0_4) ∧ w38.cell? (ad280.add (((ji23)).toNat * 2)) = some (.string ((rd_T39 l1 (ji23)).f0)) ∧ w38.cell? ⟨(ad280.add (((ji23)).toNat * 2)).block, (ad280.add (((ji23)).toNat * 2)).off + 1, none⟩ = some (.string ((rd_T39 l1 (ji23)).f1)) := hS_
                    refine norm_ (a' := ?_) ?_ ?_
                    rotate_left
                    ·simp only [putAll, Act.put, List.setIfInBounds_toArray, List.set_cons_zero, List.set_cons_succ]
                     rfl
                    refine two_ (i := 3) (j := 20) (Ni := some 51) (Nj := some 8) #[true, true, true, true, true, true, true, true, true, true, true, true, true, false, false, false, false, false, false, false, false, false, false, false] #[true, true, true, false, true, true, true, true, true, true, true, true, true, false, false, false, false, false, false, false, true, false, false, false] rfl rfl rfl rfl (two_of HT_.out (by kernel_rfl)) (by decide) (by decide) (fun K hK => ?_) (fun K hK => ?_)
                    ·skip
                     refine Kd.R_append_rows_step k39 (w0 := w) w.heap.size (by rfl) (.tmp 49) (.tmp 50) 37 39 (.agg #[(.string ⟨#[]⟩), (.string ⟨#[]⟩)]) 32 rfl Tryd.underlying37 info39 rfl (by decide) (by omega) v275 y274 l1 _ _ _ (fun k_ => some k_ ≠ (v282 : Value).ownBlock) (fun _ => False) rfl rfl ?aO ?aR (fun _ _ h => h) (fun _ h => h.elim) ?aF ?aB ?aS ?aL ?_
                     (case aR => repeat (first | exact (Kd.C_below HR1.out HB.out) | (with_reducible refine Kd.C_alloc ?_ _) | (with_reducible refine Kd.C_drewN ?_ _) | (with_reducible refine Kd.C_drew ?_)))
                     (case aB => exact (by repeat (first | (with_reducible first | exact HB.out | apply below_alloc | apply pw_below_drewN | apply below_drew1 | refine below_set ?_ GE269.out) | exact HB.out)))
                     (case aF => exact (fun k_ hk => Kd.fresh' (Kd.R_lt (by (with_reducible repeat (first | apply Kd.R_alloc | apply Kd.R_drewN | apply Kd.R_drew)); exact HO283.out)) k_ hk))
                     (case aO => exact (by (with_reducible repeat (first | apply Kd.R_alloc | apply Kd.R_drewN | apply Kd.R_drew)); exact HO276.out))
                     (case aS => exact (below_size (by repeat (first | (with_reducible first | exact HB.out | apply below_alloc | apply pw_below_drewN | apply below_drew1 | refine below_set ?_ GE269.out) | exact HB.out))))
                     (case aL => have := LMc21.out; omega)
                     intro v278 w39 ho hb hg hat
                     rw [← Ny277.out] at ho
                     have n0_ := Aside0.mk (blk_grown (g := gb269) (o := .cells #[.string a0_0, .string a0_1, .string a0_2, .slice A0_3 l0_3.length c0_3, .slice A0_4 l0_4.length c0_4] 27 (0, 0)) (by (with_reducible repeat (first | refine blk_drewN ?_ _ | refine blk_drew ?_ | refine blk_alloc ?_ _)); exact BK269.out) hg (Kd.R_ne HO276.out BK269.out (by decide)))
                     have n1_ := Aside0.mk (Kd.R_after (ok := (fun _ => True)) (by (with_reducible repeat (first | apply Kd.R_alloc | apply Kd.R_drewN | apply Kd.R_drew)); exact Kd.R_mono HO283.out (fun _ hk => ⟨trivial, hk⟩)) hg hat)
                     have n2_ := Aside0.mk (hb)
                     have n3_ := Aside0.mk (ho)
                     clear BK269; clear HO283; clear HB; clear HO276
                     have BK269 := n0_
                     have HO283 := n1_
                     have HB := n2_
                     have HO279 := n3_
                     clear n0_ n1_ n2_ n3_; clear ho hb hg hat
                     refine hK.out _ _ ⟨(blk_cell BK269.out 0).trans rfl, (blk_cell BK269.out 1).trans rfl, (blk_cell BK269.out 2).trans rfl, (blk_cell BK269.out 3).trans rfl, (blk_cell BK269.out 4).trans rfl, ((HB.out.cell (World.block_lt_of_cell? w _ hw280_0)).trans hw280_0), ((HB.out.cell (World.block_lt_of_cell? w _ hw280_1)).trans hw280_1)⟩ (fun hHeld => ?_)
                     clear hK K
                     refine norm_ (a' := ?_) ?_ ?_
                     rotate_left
                     ·show Act.put _ (some 51) _ = _
                      simp only [Act.put, List.setIfInBounds_toArray, List.set_cons_zero, List.set_cons_succ, i64_w, i32_w]
                      rfl
                     exact norm_ (by first | (simp only [putAll, Act.put, List.setIfInBounds_toArray, List.set_cons_zero, List.set_cons_succ]; done) | (simp only [putAll, Act.put, List.setIfInBounds_toArray, List.set_cons_zero, List.set_cons_succ]; rfl)) (hJ1_3_12 (v275, v278, v282) _ ⟨hHeld, (by (with_reducible repeat (first | apply Kd.R_alloc | apply Kd.R_drewN | apply Kd.R_drew)); exact HO279.out), (by (with_reducible repeat (first | apply Kd.R_alloc | apply Kd.R_drewN | apply Kd.R_drew)); exact Kd.R_mono HO283.out (fun _ hk => hk.2)), (by (with_reducible repeat (first | refine blk_drewN ?_ _ | refine blk_drew ?_ | refine blk_alloc ?_ _)); exact BK269.out), (by repeat (first | (with_reducible first | exact HB.out | apply below_alloc | apply pw_below_drewN | apply below_drew1 | refine below_set ?_ GE269.out) | exact HB.out))⟩)
                    ·skip
                     refine box_step ?hg (N := 8) ?hd (cs := #[.string (⟨#[]⟩ : ByteArray), .string (⟨#[]⟩ : ByteArray), .string (⟨#[]⟩ : ByteArray), .string (⟨#[]⟩ : ByteArray), .string (⟨#[]⟩ : ByteArray), .string (⟨#[]⟩ : ByteArray)]) (t := 30) ?hr ?_; (case hd => rfl); (case hg => rfl); (case hr => first | (go_simp; done) | (go_simp; rfl))
                     intro gb296 hg w39 hbox hb
                     have n0_ := Aside0.mk (Kd.R_below (by (with_reducible repeat (first | apply Kd.R_alloc | apply Kd.R_drewN | apply Kd.R_drew)); exact HO276.out) hb)
                     have n1_ := Aside0.mk (Kd.R_below (by (with_reducible repeat (first | apply Kd.R_alloc | apply Kd.R_drewN | apply Kd.R_drew)); exact HO283.out) hb)
                     have n2_ := Aside0.mk (blk_belowB BK269.out (by (with_reducible repeat (first | refine blk_drewN ?_ _ | refine blk_drew ?_ | refine blk_alloc ?_ _)); exact BK269.out) hb)
                     have n3_ := Aside0.mk (below_step (by repeat (first | (with_reducible first | exact HB.out | apply below_alloc | apply pw_below_drewN | apply below_drew1 | refine below_set ?_ GE269.out) | exact HB.out)) hb)
                     have n4_ := Aside0.mk (hbox)
                     have n5_ := Aside0.mk ((by rw [hg]; exact (below_size (by repeat (first | (with_reducible first | exact HB.out | apply below_alloc | apply pw_below_drewN | apply below_drew1 | refine below_set ?_ GE269.out) | exact HB.out))) : w.heap.size ≤ gb296))
                     have n6_ := Aside0.mk ((by rw [hg]; exact (below_size (by repeat (first | (with_reducible first | exact HB.out | apply below_alloc | apply pw_below_drewN | apply below_drew1 | refine below_set ?_ GE269.out) | exact HB.out))) : w.heap.size ≤ gb296))
                     have n7_ := Aside0.mk ((by rw [hg]; exact Nat.ne_of_lt (blk_lt (g := gb269) (o := .cells #[.string a0_0, .string a0_1, .string a0_2, .slice A0_3 l0_3.length c0_3, .slice A0_4 l0_4.length c0_4] 27 (0, 0)) (by (with_reducible repeat (first | refine blk_drewN ?_ _ | refine blk_drew ?_ | refine blk_alloc ?_ _)); exact BK269.out)) : gb269 ≠ gb296))
                     have n8_ := Aside0.mk ((by rw [hg]; exact Nat.ne_of_gt (blk_lt (g := gb269) (o := .cells #[.string a0_0, .string a0_1, .string a0_2, .slice A0_3 l0_3.length c0_3, .slice A0_4 l0_4.length c0_4] 27 (0, 0)) (by (with_reducible repeat (first | refine blk_drewN ?_ _ | refine blk_drew ?_ | refine blk_alloc ?_ _)); exact BK269.out)) : gb296 ≠ gb269))
                     clear HO276; clear HO283; clear BK269; clear HB
                     have HO276 := n0_
                     have HO283 := n1_
                     have BK269 := n2_
                     have HB := n3_
                     have BK296 := n4_
                     have GW296 := n5_
                     have GE296 := n6_
                     have NB269_296 := n7_
                     have NB296_269 := n8_
                     clear n0_ n1_ n2_ n3_ n4_ n5_ n6_ n7_ n8_; clear hb hbox hg
                     refine hK.out _ _ ⟨(blk_cell BK269.out 0).trans rfl, (blk_cell BK269.out 1).trans rfl, (blk_cell BK269.out 2).trans rfl, (blk_cell BK269.out 3).trans rfl, (blk_cell BK269.out 4).trans rfl, ((HB.out.cell (World.block_lt_of_cell? w _ hw280_0)).trans hw280_0), ((HB.out.cell (World.block_lt_of_cell? w _ hw280_1)).trans hw280_1)⟩ (fun hHeld => ?_)
                     clear hK K
                     refine norm_ (a' := ?_) ?_ ?_
                     rotate_left
                     ·show Act.put _ (some 8) _ = _
                      simp only [Act.put, List.setIfInBounds_toArray, List.set_cons_zero, List.set_cons_succ, i64_w, i32_w]
                      rfl
                     exact norm_ (by first | (simp only [putAll, Act.put, List.setIfInBounds_toArray, List.set_cons_zero, List.set_cons_succ]; done) | (simp only [putAll, Act.put, List.setIfInBounds_toArray, List.set_cons_zero, List.set_cons_succ]; rfl)) (hJ1_12_20 (v275, v282, gb296) _ ⟨hHeld, (by (with_reducible repeat (first | apply Kd.R_alloc | apply Kd.R_drewN | apply Kd.R_drew)); exact HO276.out), (by (with_reducible repeat (first | apply Kd.R_alloc | apply Kd.R_drewN | apply Kd.R_drew)); exact HO283.out), (by (with_reducible repeat (first | refine blk_drewN ?_ _ | refine blk_drew ?_ | refine blk_alloc ?_ _)); exact BK269.out), (by (with_reducible repeat (first | refine blk_drewN ?_ _ | refine blk_drew ?_ | refine blk_alloc ?_ _)); exact BK296.out), GW296.out, GE296.out, NB269_296.out, NB296_269.out, (by repeat (first | (with_reducible first | exact HB.out | apply below_alloc | apply pw_below_drewN | apply below_drew1 | refine below_set ?_ GE269.out | refine below_set ?_ GE296.out) | exact HB.out))⟩)
                  ·skip
                   rintro ⟨v275, v278⟩ w37 ⟨hS_, h0_, h1_, h2_⟩
                   have n0_ : Aside0 (Kd.R k39 39 w37 w.heap.size (fun _ => True) v278 y277) := ⟨h0_⟩
                   have n1_ : Aside0 (w37.heap[gb269]? = some (.cells #[.string a0_0, .string a0_1, .string a0_2, .slice A0_3 l0_3.length c0_3, .slice A0_4 l0_4.length c0_4] 27 (0, 0))) := ⟨h1_⟩
                   have n2_ : Aside0 (Below w.heap.size w w37) := ⟨h2_⟩
                   clear BK269; clear HB; clear h0_ h1_ h2_
                   have HO279 := n0_
                   have BK269 := n1_
                   have HB := n2_
                   clear n0_ n1_ n2_
                   have hHeld : w37.cell? ⟨gb269, 0, none⟩ = some (.string a0_0) ∧ w37.cell? ⟨gb269, 1, none⟩ = some (.string a0_1) ∧ w37.cell? ⟨gb269, 2, none⟩ = some (.string a0_2) ∧ w37.cell? ⟨gb269, 3, none⟩ = some (.slice A0_3 l0_3.length c0_3) ∧ w37.cell? ⟨gb269, 4, none⟩ = some (.slice A0_4 l0_4.length c0_4) ∧ w37.cell? (ad280.add (((ji23)).toNat * 2)) = some (.string ((rd_T39 l1 (ji23)).f0)) ∧ w37.cell? ⟨(ad280.add (((ji23)).toNat * 2)).block, (ad280.add (((ji23)).toNat * 2)).off + 1, none⟩ = some (.string ((rd_T39 l1 (ji23)).f1)) := hS_
                   refine norm_ (a' := ?_) ?_ ?_
                   rotate_left
                   ·simp only [putAll, Act.put, List.setIfInBounds_toArray, List.set_cons_zero, List.set_cons_succ]
                    rfl
                   refine two_ (i := 12) (j := 20) (Ni := some 60) (Nj := some 8) #[true, true, true, true, true, true, true, true, true, true, true, true, true, false, false, false, false, false, false, false, false, false, false, false] #[true, true, true, true, true, true, true, true, true, true, true, true, false, false, false, false, false, false, false, false, true, false, false, false] rfl rfl rfl rfl (two_of HT_.out (by kernel_rfl)) (by decide) (by decide) (fun K hK => ?_) (fun K hK => ?_)
                   ·skip
                    refine Kd.R_lit_step k39 _ 39 ?hg (N := 60) ?hd (xs := ([(⟨(rd_T39 l1 (ji23)).f0, (rd_T39 l1 (ji23)).f1⟩ : S39)] : List (S39))) (inner := [.string ((rd_T39 l1 (ji23)).f0), .string ((rd_T39 l1 (ji23)).f1)]) (ok := fun _ => True) (okp := fun _ => True) ?hr ?hp (fun _ hk => hk) trivial (Below.refl _ _) (Nat.le_refl _) (by simp) ?_; (case hd => rfl); (case hg => rfl); (case hr => first | (go_simp; done) | (go_simp; rfl)); (case hp => exact (Reps.c2 (show Kd.M k39 _ _ _ (⟨(rd_T39 l1 (ji23)).f0, (rd_T39 l1 (ji23)).f1⟩ : S39) [.string ((rd_T39 l1 (ji23)).f0), .string ((rd_T39 l1 (ji23)).f1)] from (k39_mkM _ _ _ (⟨(rd_T39 l1 (ji23)).f0, (rd_T39 l1 (ji23)).f1⟩ : S39) )) (Reps.none _ _)))
                    intro v282 w38 ho39 hb hg_ hnew_
                    clear hg_ hnew_
                    (first | rw [← Ny281.out] at ho39 | (simp only [Int.reduceToNat] at ho39; rw [← Ny281.out] at ho39))
                    have n0_ := Aside0.mk (Kd.R_elder' (by (with_reducible repeat (first | apply Kd.R_alloc | apply Kd.R_drewN | apply Kd.R_drew)); exact HO279.out) (Kd.R_base ho39) hb)
                    have n1_ := Aside0.mk (Kd.R_lower (Kd.R_new' ho39 (Kd.R_lt (by (with_reducible repeat (first | apply Kd.R_alloc | apply Kd.R_drewN | apply Kd.R_drew)); exact HO279.out))) (below_size (by repeat (first | (with_reducible first | exact HB.out | apply below_alloc | apply pw_below_drewN | apply below_drew1 | refine below_set ?_ GE269.out) | exact HB.out))))
                    have n2_ := Aside0.mk (blk_belowB BK269.out (by (with_reducible repeat (first | refine blk_drewN ?_ _ | refine blk_drew ?_ | refine blk_alloc ?_ _)); exact BK269.out) hb)
                    have n3_ := Aside0.mk (below_step (by repeat (first | (with_reducible first | exact HB.out | apply below_alloc | apply pw_below_drewN | apply below_drew1 | refine below_set ?_ GE269.out) | exact HB.out)) hb)
                    clear HO279; clear BK269; clear HB
                    have HO279 := n0_
                    have HO283 := n1_
                    have BK269 := n2_
                    have HB := n3_
                    clear n0_ n1_ n2_ n3_; clear hb ho39
                    refine hK.out _ _ ⟨(blk_cell BK269.out 0).trans rfl, (blk_cell BK269.out 1).trans rfl, (blk_cell BK269.out 2).trans rfl, (blk_cell BK269.out 3).trans rfl, (blk_cell BK269.out 4).trans rfl, ((HB.out.cell (World.block_lt_of_cell? w _ hw280_0)).trans hw280_0), ((HB.out.cell (World.block_lt_of_cell? w _ hw280_1)).trans hw280_1)⟩ (fun hHeld => ?_)
                    clear hK K
                    refine norm_ (a' := ?_) ?_ ?_
                    rotate_left
                    ·show Act.put _ (some 60) _ = _
                     simp only [Act.put, List.setIfInBounds_toArray, List.set_cons_zero, List.set_cons_succ, i64_w, i32_w]
                     rfl
                    exact norm_ (by first | (simp only [putAll, Act.put, List.setIfInBounds_toArray, List.set_cons_zero, List.set_cons_succ]; done) | (simp only [putAll, Act.put, List.setIfInBounds_toArray, List.set_cons_zero, List.set_cons_succ]; rfl)) (hJ1_3_12 (v275, v278, v282) _ ⟨hHeld, (by (with_reducible repeat (first | apply Kd.R_alloc | apply Kd.R_drewN | apply Kd.R_drew)); exact Kd.R_mono HO279.out (fun _ hk => hk.2)), (by (with_reducible repeat (first | apply Kd.R_alloc | apply Kd.R_drewN | apply Kd.R_drew)); exact Kd.R_mono HO283.out (fun _ hk => hk.2)), (by (with_reducible repeat (first | refine blk_drewN ?_ _ | refine blk_drew ?_ | refine blk_alloc ?_ _)); exact BK269.out), (by repeat (first | (with_reducible first | exact HB.out | apply below_alloc | apply pw_below_drewN | apply below_drew1 | refine below_set ?_ GE269.out) | exact HB.out))⟩)
                   ·skip
                    refine box_step ?hg (N := 8) ?hd (cs := #[.string (⟨#[]⟩ : ByteArray), .string (⟨#[]⟩ : ByteArray), .string (⟨#[]⟩ : ByteArray), .string (⟨#[]⟩ : ByteArray), .string (⟨#[]⟩ : ByteArray), .string (⟨#[]⟩ : ByteArray)]) (t := 30) ?hr ?_; (case hd => rfl); (case hg => rfl); (case hr => first | (go_simp; done) | (go_simp; rfl))
                    intro gb296 hg w38 hbox hb
                    have n0_ := Aside0.mk (Kd.R_below (by (with_reducible repeat (first | apply Kd.R_alloc | apply Kd.R_drewN | apply Kd.R_drew)); exact HO279.out) hb)
                    have n1_ := Aside0.mk (blk_belowB BK269.out (by (with_reducible repeat (first | refine blk_drewN ?_ _ | refine blk_drew ?_ | refine blk_alloc ?_ _)); exact BK269.out) hb)
                    have n2_ := Aside0.mk (below_step (by repeat (first | (with_reducible first | exact HB.out | apply below_alloc | apply pw_below_drewN | apply below_drew1 | refine below_set ?_ GE269.out) | exact HB.out)) hb)
                    have n3_ := Aside0.mk (hbox)
                    have n4_ := Aside0.mk ((by rw [hg]; exact (below_size (by repeat (first | (with_reducible first | exact HB.out | apply below_alloc | apply pw_below_drewN | apply below_drew1 | refine below_set ?_ GE269.out) | exact HB.out))) : w.heap.size ≤ gb296))
                    have n5_ := Aside0.mk ((by rw [hg]; exact (below_size (by repeat (first | (with_reducible first | exact HB.out | apply below_alloc | apply pw_below_drewN | apply below_drew1 | refine below_set ?_ GE269.out) | exact HB.out))) : w.heap.size ≤ gb296))
                    have n6_ := Aside0.mk ((by rw [hg]; exact Nat.ne_of_lt (blk_lt (g := gb269) (o := .cells #[.string a0_0, .string a0_1, .string a0_2, .slice A0_3 l0_3.length c0_3, .slice A0_4 l0_4.length c0_4] 27 (0, 0)) (by (with_reducible repeat (first | refine blk_drewN ?_ _ | refine blk_drew ?_ | refine blk_alloc ?_ _)); exact BK269.out)) : gb269 ≠ gb296))
                    have n7_ := Aside0.mk ((by rw [hg]; exact Nat.ne_of_gt (blk_lt (g := gb269) (o := .cells #[.string a0_0, .string a0_1, .string a0_2, .slice A0_3 l0_3.length c0_3, .slice A0_4 l0_4.length c0_4] 27 (0, 0)) (by (with_reducible repeat (first | refine blk_drewN ?_ _ | refine blk_drew ?_ | refine blk_alloc ?_ _)); exact BK269.out)) : gb296 ≠ gb269))
                    clear HO279; clear BK269; clear HB
                    have HO279 := n0_
                    have BK269 := n1_
                    have HB := n2_
                    have BK296 := n3_
                    have GW296 := n4_
                    have GE296 := n5_
                    have NB269_296 := n6_
                    have NB296_269 := n7_
                    clear n0_ n1_ n2_ n3_ n4_ n5_ n6_ n7_; clear hb hbox hg
                    refine hK.out _ _ ⟨(blk_cell BK269.out 0).trans rfl, (blk_cell BK269.out 1).trans rfl, (blk_cell BK269.out 2).trans rfl, (blk_cell BK269.out 3).trans rfl, (blk_cell BK269.out 4).trans rfl, ((HB.out.cell (World.block_lt_of_cell? w _ hw280_0)).trans hw280_0), ((HB.out.cell (World.block_lt_of_cell? w _ hw280_1)).trans hw280_1)⟩ (fun hHeld => ?_)
                    clear hK K
                    refine norm_ (a' := ?_) ?_ ?_
                    rotate_left
                    ·show Act.put _ (some 8) _ = _
                     simp only [Act.put, List.setIfInBounds_toArray, List.set_cons_zero, List.set_cons_succ, i64_w, i32_w]
                     rfl
                    exact norm_ (by first | (simp only [putAll, Act.put, List.setIfInBounds_toArray, List.set_cons_zero, List.set_cons_succ]; done) | (simp only [putAll, Act.put, List.setIfInBounds_toArray, List.set_cons_zero, List.set_cons_succ]; rfl)) (hJ1_3_20 (v275, v278, gb296) _ ⟨hHeld, (by (with_reducible repeat (first | apply Kd.R_alloc | apply Kd.R_drewN | apply Kd.R_drew)); exact HO279.out), (by (with_reducible repeat (first | refine blk_drewN ?_ _ | refine blk_drew ?_ | refine blk_alloc ?_ _)); exact BK269.out), (by (with_reducible repeat (first | refine blk_drewN ?_ _ | refine blk_drew ?_ | refine blk_alloc ?_ _)); exact BK296.out), GW296.out, GE296.out, NB269_296.out, NB296_269.out, (by repeat (first | (with_reducible first | exact HB.out | apply below_alloc | apply pw_below_drewN | apply below_drew1 | refine below_set ?_ GE269.out | refine below_set ?_ GE296.out) | exact HB.out))⟩)
                 ·skip
                  rintro ⟨v275, v282, gb296⟩ w39 ⟨hS_, h0_, h1_, h2_, h3_, h4_, h5_, h6_, h7_, h8_⟩
                  have n0_ : Aside0 (Kd.R k39 39 w39 w.heap.size (fun k_ => some k_ ≠ (v282 : Value).ownBlock) v275 y274) := ⟨h0_⟩
                  have n1_ : Aside0 (Kd.R k39 39 w39 w.heap.size (fun k_ => some k_ ≠ (v275 : Value).ownBlock) v282 y281) := ⟨h1_⟩
                  have n2_ : Aside0 (w39.heap[gb269]? = some (.cells #[.string a0_0, .string a0_1, .string a0_2, .slice A0_3 l0_3.length c0_3, .slice A0_4 l0_4.length c0_4] 27 (0, 0))) := ⟨h2_⟩
                  have n3_ : Aside0 (w39.heap[gb296]? = some (.cells #[.string (⟨#[]⟩ : ByteArray), .string (⟨#[]⟩ : ByteArray), .string (⟨#[]⟩ : ByteArray), .string (⟨#[]⟩ : ByteArray), .string (⟨#[]⟩ : ByteArray), .string (⟨#[]⟩ : ByteArray)] 30 (0, 0))) := ⟨h3_⟩
                  have n4_ : Aside0 (w.heap.size ≤ gb296) := ⟨h4_⟩
                  have n5_ : Aside0 (w.heap.size ≤ gb296) := ⟨h5_⟩
                  have n6_ : Aside0 (gb269 ≠ gb296) := ⟨h6_⟩
                  have n7_ : Aside0 (gb296 ≠ gb269) := ⟨h7_⟩
                  have n8_ : Aside0 (Below w.heap.size w w39) := ⟨h8_⟩
                  clear BK269; clear HB; clear h0_ h1_ h2_ h3_ h4_ h5_ h6_ h7_ h8_
                  have HO276 := n0_
                  have HO283 := n1_
                  have BK269 := n2_
                  have BK296 := n3_
                  have GW296 := n4_
                  have GE296 := n5_
                  have NB269_296 := n6_
                  have NB296_269 := n7_
                  have HB := n8_
                  clear n0_ n1_ n2_ n3_ n4_ n5_ n6_ n7_ n8_
                  have hHeld : w39.cell? ⟨gb269, 0, none⟩ = some (.string a0_0) ∧ w39.cell? ⟨gb269, 1, none⟩ = some (.string a0_1) ∧ w39.cell? ⟨gb269, 2, none⟩ = some (.string a0_2) ∧ w39.cell? ⟨gb269, 3, none⟩ = some (.slice A0_3 l0_3.length c0_3) ∧ w39.cell? ⟨gb269, 4, none⟩ = some (.slice A0_4 l0_4.length c0_4) ∧ w39.cell? (ad280.add (((ji23)).toNat * 2)) = some (.string ((rd_T39 l1 (ji23)).f0)) ∧ w39.cell? ⟨(ad280.add (((ji23)).toNat * 2)).block, (ad280.add (((ji23)).toNat * 2)).off + 1, none⟩ = some (.string ((rd_T39 l1 (ji23)).f1)) := hS_
                  refine norm_ (a' := ?_) ?_ ?_
                  rotate_left
                  ·simp only [putAll, Act.put, List.setIfInBounds_toArray, List.set_cons_zero, List.set_cons_succ]
                   rfl
                  refine one_ (i := 3) (N := some 51) #[true, true, true, true, true, true, true, true, true, true, true, true, true, false, false, false, false, false, false, false, true, false, false, false] rfl rfl (one_of HT_.out (by kernel_rfl)) (by decide) (fun K hK => ?_)
                  refine Kd.R_append_rows_step k39 (w0 := w) w.heap.size (by rfl) (.tmp 49) (.tmp 50) 37 39 (.agg #[(.string ⟨#[]⟩), (.string ⟨#[]⟩)]) 32 rfl Tryd.underlying37 info39 rfl (by decide) (by omega) v275 y274 l1 _ _ _ (fun k_ => some k_ ≠ (v282 : Value).ownBlock) (fun _ => False) rfl rfl ?aO ?aR (fun _ _ h => h) (fun _ h => h.elim) ?aF ?aB ?aS ?aL ?_
                  (case aR => repeat (first | exact (Kd.C_below HR1.out HB.out) | (with_reducible refine Kd.C_alloc ?_ _) | (with_reducible refine Kd.C_drewN ?_ _) | (with_reducible refine Kd.C_drew ?_)))
                  (case aB => exact (by repeat (first | (with_reducible first | exact HB.out | apply below_alloc | apply pw_below_drewN | apply below_drew1 | refine below_set ?_ GE269.out | refine below_set ?_ GE296.out) | exact HB.out)))
                  (case aF => exact (fun k_ hk => Kd.fresh' (Kd.R_lt (by (with_reducible repeat (first | apply Kd.R_alloc | apply Kd.R_drewN | apply Kd.R_drew)); exact HO283.out)) k_ hk))
                  (case aO => exact (by (with_reducible repeat (first | apply Kd.R_alloc | apply Kd.R_drewN | apply Kd.R_drew)); exact HO276.out))
                  (case aS => exact (below_size (by repeat (first | (with_reducible first | exact HB.out | apply below_alloc | apply pw_below_drewN | apply below_drew1 | refine below_set ?_ GE269.out | refine below_set ?_ GE296.out) | exact HB.out))))
                  (case aL => have := LMc21.out; omega)
                  intro v278 w40 ho hb hg hat
                  rw [← Ny277.out] at ho
                  have n0_ := Aside0.mk (blk_grown (g := gb269) (o := .cells #[.string a0_0, .string a0_1, .string a0_2, .slice A0_3 l0_3.length c0_3, .slice A0_4 l0_4.length c0_4] 27 (0, 0)) (by (with_reducible repeat (first | refine blk_drewN ?_ _ | refine blk_drew ?_ | refine blk_alloc ?_ _)); exact BK269.out) hg (Kd.R_ne HO276.out BK269.out (by decide)))
                  have n1_ := Aside0.mk (Kd.R_after (ok := (fun _ => True)) (by (with_reducible repeat (first | apply Kd.R_alloc | apply Kd.R_drewN | apply Kd.R_drew)); exact Kd.R_mono HO283.out (fun _ hk => ⟨trivial, hk⟩)) hg hat)
                  have n2_ := Aside0.mk (blk_grown (g := gb296) (o := .cells #[.string (⟨#[]⟩ : ByteArray), .string (⟨#[]⟩ : ByteArray), .string (⟨#[]⟩ : ByteArray), .string (⟨#[]⟩ : ByteArray), .string (⟨#[]⟩ : ByteArray), .string (⟨#[]⟩ : ByteArray)] 30 (0, 0)) (by (with_reducible repeat (first | refine blk_drewN ?_ _ | refine blk_drew ?_ | refine blk_alloc ?_ _)); exact BK296.out) hg (Kd.R_ne HO276.out BK296.out (by decide)))
                  have n3_ := Aside0.mk (hb)
                  have n4_ := Aside0.mk (ho)
                  clear BK269; clear HO283; clear BK296; clear HB; clear HO276
                  have BK269 := n0_
                  have HO283 := n1_
                  have BK296 := n2_
                  have HB := n3_
                  have HO279 := n4_
                  clear n0_ n1_ n2_ n3_ n4_; clear ho hb hg hat
                  refine hK.out _ _ ⟨(blk_cell BK269.out 0).trans rfl, (blk_cell BK269.out 1).trans rfl, (blk_cell BK269.out 2).trans rfl, (blk_cell BK269.out 3).trans rfl, (blk_cell BK269.out 4).trans rfl, ((HB.out.cell (World.block_lt_of_cell? w _ hw280_0)).trans hw280_0), ((HB.out.cell (World.block_lt_of_cell? w _ hw280_1)).trans hw280_1)⟩ (fun hHeld => ?_)
                  clear hK K
                  refine norm_ (a' := ?_) ?_ ?_
                  rotate_left
                  ·show Act.put _ (some 51) _ = _
                   simp only [Act.put, List.setIfInBounds_toArray, List.set_cons_zero, List.set_cons_succ, i64_w, i32_w]
                   rfl
                  exact norm_ (by first | (simp only [putAll, Act.put, List.setIfInBounds_toArray, List.set_cons_zero, List.set_cons_succ]; done) | (simp only [putAll, Act.put, List.setIfInBounds_toArray, List.set_cons_zero, List.set_cons_succ]; rfl)) (hJ1_3_12_20 (v275, v278, v282, gb296) _ ⟨hHeld, (by (with_reducible repeat (first | apply Kd.R_alloc | apply Kd.R_drewN | apply Kd.R_drew)); exact HO279.out), (by (with_reducible repeat (first | apply Kd.R_alloc | apply Kd.R_drewN | apply Kd.R_drew)); exact Kd.R_mono HO283.out (fun _ hk => hk.2)), (by (with_reducible repeat (first | refine blk_drewN ?_ _ | refine blk_drew ?_ | refine blk_alloc ?_ _)); exact BK269.out), (by (with_reducible repeat (first | refine blk_drewN ?_ _ | refine blk_drew ?_ | refine blk_alloc ?_ _)); exact BK296.out), GW296.out, GE296.out, NB269_296.out, NB296_269.out, (by repeat (first | (with_reducible first | exact HB.out | apply below_alloc | apply pw_below_drewN | apply below_drew1 | refine below_set ?_ GE269.out | refine below_set ?_ GE296.out) | exact HB.out))⟩)
                ·skip
                 rintro ⟨v275, v278, gb296⟩ w38 ⟨hS_, h0_, h1_, h2_, h3_, h4_, h5_, h6_, h7_⟩
                 have n0_ : Aside0 (Kd.R k39 39 w38 w.heap.size (fun _ => True) v278 y277) := ⟨h0_⟩
                 have n1_ : Aside0 (w38.heap[gb269]? = some (.cells #[.string a0_0, .string a0_1, .string a0_2, .slice A0_3 l0_3.length c0_3, .slice A0_4 l0_4.length c0_4] 27 (0, 0))) := ⟨h1_⟩
                 have n2_ : Aside0 (w38.heap[gb296]? = some (.cells #[.string (⟨#[]⟩ : ByteArray), .string (⟨#[]⟩ : ByteArray), .string (⟨#[]⟩ : ByteArray), .string (⟨#[]⟩ : ByteArray), .string (⟨#[]⟩ : ByteArray), .string (⟨#[]⟩ : ByteArray)] 30 (0, 0))) := ⟨h2_⟩
                 have n3_ : Aside0 (w.heap.size ≤ gb296) := ⟨h3_⟩
                 have n4_ : Aside0 (w.heap.size ≤ gb296) := ⟨h4_⟩
                 have n5_ : Aside0 (gb269 ≠ gb296) := ⟨h5_⟩
                 have n6_ : Aside0 (gb296 ≠ gb269) := ⟨h6_⟩
                 have n7_ : Aside0 (Below w.heap.size w w38) := ⟨h7_⟩
                 clear BK269; clear HB; clear h0_ h1_ h2_ h3_ h4_ h5_ h6_ h7_
                 have HO279 := n0_
                 have BK269 := n1_
                 have BK296 := n2_
                 have GW296 := n3_
                 have GE296 := n4_
                 have NB269_296 := n5_
                 have NB296_269 := n6_
                 have HB := n7_
                 clear n0_ n1_ n2_ n3_ n4_ n5_ n6_ n7_
                 have hHeld : w38.cell? ⟨gb269, 0, none⟩ = some (.string a0_0) ∧ w38.cell? ⟨gb269, 1, none⟩ = some (.string a0_1) ∧ w38.cell? ⟨gb269, 2, none⟩ = some (.string a0_2) ∧ w38.cell? ⟨gb269, 3, none⟩ = some (.slice A0_3 l0_3.length c0_3) ∧ w38.cell? ⟨gb269, 4, none⟩ = some (.slice A0_4 l0_4.length c0_4) ∧ w38.cell? (ad280.add (((ji23)).toNat * 2)) = some (.string ((rd_T39 l1 (ji23)).f0)) ∧ w38.cell? ⟨(ad280.add (((ji23)).toNat * 2)).block, (ad280.add (((ji23)).toNat * 2)).off + 1, none⟩ = some (.string ((rd_T39 l1 (ji23)).f1)) := hS_
                 refine norm_ (a' := ?_) ?_ ?_
                 rotate_left
                 ·simp only [putAll, Act.put, List.setIfInBounds_toArray, List.set_cons_zero, List.set_cons_succ]
                  rfl
                 refine one_ (i := 12) (N := some 60) #[true, true, true, true, true, true, true, true, true, true, true, true, true, false, false, false, false, false, false, false, true, false, false, false] rfl rfl (one_of HT_.out (by kernel_rfl)) (by decide) (fun K hK => ?_)
                 refine Kd.R_lit_step k39 _ 39 ?hg (N := 60) ?hd (xs := ([(⟨(rd_T39 l1 (ji23)).f0, (rd_T39 l1 (ji23)).f1⟩ : S39)] : List (S39))) (inner := [.string ((rd_T39 l1 (ji23)).f0), .string ((rd_T39 l1 (ji23)).f1)]) (ok := fun _ => True) (okp := fun _ => True) ?hr ?hp (fun _ hk => hk) trivial (Below.refl _ _) (Nat.le_refl _) (by simp) ?_; (case hd => rfl); (case hg => rfl); (case hr => first | (go_simp; done) | (go_simp; rfl)); (case hp => exact (Reps.c2 (show Kd.M k39 _ _ _ (⟨(rd_T39 l1 (ji23)).f0, (rd_T39 l1 (ji23)).f1⟩ : S39) [.string ((rd_T39 l1 (ji23)).f0), .string ((rd_T39 l1 (ji23)).f1)] from (k39_mkM _ _ _ (⟨(rd_T39 l1 (ji23)).f0, (rd_T39 l1 (ji23)).f1⟩ : S39) )) (Reps.none _ _)))
                 intro v282 w39 ho40 hb hg_ hnew_
                 clear hg_ hnew_
                 (first | rw [← Ny281.out] at ho40 | (simp only [Int.reduceToNat] at ho40; rw [← Ny281.out] at ho40))
                 have n0_ := Aside0.mk (Kd.R_elder' (by (with_reducible repeat (first | apply Kd.R_alloc | apply Kd.R_drewN | apply Kd.R_drew)); exact HO279.out) (Kd.R_base ho40) hb)
                 have n1_ := Aside0.mk (Kd.R_lower (Kd.R_new' ho40 (Kd.R_lt (by (with_reducible repeat (first | apply Kd.R_alloc | apply Kd.R_drewN | apply Kd.R_drew)); exact HO279.out))) (below_size (by repeat (first | (with_reducible first | exact HB.out | apply below_alloc | apply pw_below_drewN | apply below_drew1 | refine below_set ?_ GE269.out | refine below_set ?_ GE296.out) | exact HB.out))))
                 have n2_ := Aside0.mk (blk_belowB BK269.out (by (with_reducible repeat (first | refine blk_drewN ?_ _ | refine blk_drew ?_ | refine blk_alloc ?_ _)); exact BK269.out) hb)
                 have n3_ := Aside0.mk (blk_belowB BK296.out (by (with_reducible repeat (first | refine blk_drewN ?_ _ | refine blk_drew ?_ | refine blk_alloc ?_ _)); exact BK296.out) hb)
                 have n4_ := Aside0.mk (below_step (by repeat (first | (with_reducible first | exact HB.out | apply below_alloc | apply pw_below_drewN | apply below_drew1 | refine below_set ?_ GE269.out | refine below_set ?_ GE296.out) | exact HB.out)) hb)
                 clear HO279; clear BK269; clear BK296; clear HB
                 have HO279 := n0_
                 have HO283 := n1_
                 have BK269 := n2_
                 have BK296 := n3_
                 have HB := n4_
                 clear n0_ n1_ n2_ n3_ n4_; clear hb ho40
                 refine hK.out _ _ ⟨(blk_cell BK269.out 0).trans rfl, (blk_cell BK269.out 1).trans rfl, (blk_cell BK269.out 2).trans rfl, (blk_cell BK269.out 3).trans rfl, (blk_cell BK269.out 4).trans rfl, ((HB.out.cell (World.block_lt_of_cell? w _ hw280_0)).trans hw280_0), ((HB.out.cell (World.block_lt_of_cell? w _ hw280_1)).trans hw280_1)⟩ (fun hHeld => ?_)
                 clear hK K
                 refine norm_ (a' := ?_) ?_ ?_
                 rotate_left
                 ·show Act.put _ (some 60) _ = _
                  simp only [Act.put, List.setIfInBounds_toArray, List.set_cons_zero, List.set_cons_succ, i64_w, i32_w]
                  rfl
                 exact norm_ (by first | (simp only [putAll, Act.put, List.setIfInBounds_toArray, List.set_cons_zero, List.set_cons_succ]; done) | (simp only [putAll, Act.put, List.setIfInBounds_toArray, List.set_cons_zero, List.set_cons_succ]; rfl)) (hJ1_3_12_20 (v275, v278, v282, gb296) _ ⟨hHeld, (by (with_reducible repeat (first | apply Kd.R_alloc | apply Kd.R_drewN | apply Kd.R_drew)); exact Kd.R_mono HO279.out (fun _ hk => hk.2)), (by (with_reducible repeat (first | apply Kd.R_alloc | apply Kd.R_drewN | apply Kd.R_drew)); exact Kd.R_mono HO283.out (fun _ hk => hk.2)), (by (with_reducible repeat (first | refine blk_drewN ?_ _ | refine blk_drew ?_ | refine blk_alloc ?_ _)); exact BK269.out), (by (with_reducible repeat (first | refine blk_drewN ?_ _ | refine blk_drew ?_ | refine blk_alloc ?_ _)); exact BK296.out), GW296.out, GE296.out, NB269_296.out, NB296_269.out, (by repeat (first | (with_reducible first | exact HB.out | apply below_alloc | apply pw_below_drewN | apply below_drew1 | refine below_set ?_ GE269.out | refine below_set ?_ GE296.out) | exact HB.out))⟩)
               ·skip
                rintro ⟨v275, v278, v282⟩ w39 ⟨hS_, h0_, h1_, h2_, h3_⟩
                have n0_ : Aside0 (Kd.R k39 39 w39 w.heap.size (fun k_ => some k_ ≠ (v282 : Value).ownBlock) v278 y277) := ⟨h0_⟩
                have n1_ : Aside0 (Kd.R k39 39 w39 w.heap.size (fun k_ => some k_ ≠ (v278 : Value).ownBlock) v282 y281) := ⟨h1_⟩
                have n2_ : Aside0 (w39.heap[gb269]? = some (.cells #[.string a0_0, .string a0_1, .string a0_2, .slice A0_3 l0_3.length c0_3, .slice A0_4 l0_4.length c0_4] 27 (0, 0))) := ⟨h2_⟩
                have n3_ : Aside0 (Below w.heap.size w w39) := ⟨h3_⟩
                clear BK269; clear HB; clear h0_ h1_ h2_ h3_
                have HO279 := n0_
                have HO283 := n1_
                have BK269 := n2_
                have HB := n3_
                clear n0_ n1_ n2_ n3_
                have hHeld : w39.cell? ⟨gb269, 0, none⟩ = some (.string a0_0) ∧ w39.cell? ⟨gb269, 1, none⟩ = some (.string a0_1) ∧ w39.cell? ⟨gb269, 2, none⟩ = some (.string a0_2) ∧ w39.cell? ⟨gb269, 3, none⟩ = some (.slice A0_3 l0_3.length c0_3) ∧ w39.cell? ⟨gb269, 4, none⟩ = some (.slice A0_4 l0_4.length c0_4) ∧ w39.cell? (ad280.add (((ji23)).toNat * 2)) = some (.string ((rd_T39 l1 (ji23)).f0)) ∧ w39.cell? ⟨(ad280.add (((ji23)).toNat * 2)).block, (ad280.add (((ji23)).toNat * 2)).off + 1, none⟩ = some (.string ((rd_T39 l1 (ji23)).f1)) := hS_
                obtain ⟨Ao41, co41, eo41⟩ := Kd.R_slice HO283.out
                (first | subst eo41 | (injection eo41 with f1_ f2_ f3_; have f4_ := f1_.symm; have f5_ := f3_.symm; clear f1_ f2_ f3_; subst f4_; subst f5_))
                refine norm_ (a' := ?_) ?_ ?_
                rotate_left
                ·simp only [putAll, Act.put, List.setIfInBounds_toArray, List.set_cons_zero, List.set_cons_succ]
                 rfl
                refine two_ (i := 13) (j := 20) (Ni := some 61) (Nj := some 8) #[true, true, true, true, true, true, true, true, true, true, true, true, true, true, false, false, false, false, false, false, false, false, false, false] #[true, true, true, true, true, true, true, true, true, true, true, true, true, false, false, false, false, false, false, false, true, false, false, false] rfl rfl rfl rfl (two_of HT_.out (by kernel_rfl)) (by decide) (by decide) (fun K hK => ?_) (fun K hK => ?_)
                ·skip
                 refine Kd.R_append_rows_step k39 (w0 := w) w.heap.size (by rfl) (.tmp 51) (.tmp 60) 37 39 (.agg #[(.string ⟨#[]⟩), (.string ⟨#[]⟩)]) 32 rfl Tryd.underlying37 info39 rfl (by decide) (by omega) v278 y277 y281 _ _ _ (fun k_ => some k_ ≠ (.slice Ao41 y281.length co41 : Value).ownBlock) (fun _ => False) rfl rfl ?aO ?aR (fun _ _ h => h) (fun _ h => h.elim) ?aF ?aB ?aS ?aL ?_
                 (case aR => repeat (first | exact (Kd.R_reads' HO283.out).2.2 | (with_reducible refine Kd.C_alloc ?_ _) | (with_reducible refine Kd.C_drewN ?_ _) | (with_reducible refine Kd.C_drew ?_)))
                 (case aB => exact (by repeat (first | (with_reducible first | exact HB.out | apply below_alloc | apply pw_below_drewN | apply below_drew1 | refine below_set ?_ GE269.out) | exact HB.out)))
                 (case aF => exact (fun k_ hk => Kd.fresh' (Kd.R_lt (by (with_reducible repeat (first | apply Kd.R_alloc | apply Kd.R_drewN | apply Kd.R_drew)); exact HO283.out)) k_ hk))
                 (case aO => exact (by (with_reducible repeat (first | apply Kd.R_alloc | apply Kd.R_drewN | apply Kd.R_drew)); exact HO279.out))
                 (case aS => exact (below_size (by repeat (first | (with_reducible first | exact HB.out | apply below_alloc | apply pw_below_drewN | apply below_drew1 | refine below_set ?_ GE269.out) | exact HB.out))))
                 (case aL => have := LMc26.out; omega)
                 intro v285 w40 ho hb hg hat
                 rw [← Ny284.out] at ho
                 have n0_ := Aside0.mk (blk_grown (g := gb269) (o := .cells #[.string a0_0, .string a0_1, .string a0_2, .slice A0_3 l0_3.length c0_3, .slice A0_4 l0_4.length c0_4] 27 (0, 0)) (by (with_reducible repeat (first | refine blk_drewN ?_ _ | refine blk_drew ?_ | refine blk_alloc ?_ _)); exact BK269.out) hg (Kd.R_ne HO279.out BK269.out (by decide)))
                 have n1_ := Aside0.mk (Kd.R_after (ok := (fun _ => True)) (by (with_reducible repeat (first | apply Kd.R_alloc | apply Kd.R_drewN | apply Kd.R_drew)); exact Kd.R_mono HO283.out (fun _ hk => ⟨trivial, hk⟩)) hg hat)
                 have n2_ := Aside0.mk (hb)
                 have n3_ := Aside0.mk (ho)
                 clear BK269; clear HO283; clear HB; clear HO279
                 have BK269 := n0_
                 have HO283 := n1_
                 have HB := n2_
                 have HO286 := n3_
                 clear n0_ n1_ n2_ n3_; clear ho hb hg hat
                 refine hK.out _ _ ⟨(blk_cell BK269.out 0).trans rfl, (blk_cell BK269.out 1).trans rfl, (blk_cell BK269.out 2).trans rfl, (blk_cell BK269.out 3).trans rfl, (blk_cell BK269.out 4).trans rfl, ((HB.out.cell (World.block_lt_of_cell? w _ hw280_0)).trans hw280_0), ((HB.out.cell (World.block_lt_of_cell? w _ hw280_1)).trans hw280_1)⟩ (fun hHeld => ?_)
                 clear hK K
                 refine norm_ (a' := ?_) ?_ ?_
                 rotate_left
                 ·show Act.put _ (some 61) _ = _
                  simp only [Act.put, List.setIfInBounds_toArray, List.set_cons_zero, List.set_cons_succ, i64_w, i32_w]
                  rfl
                 exact norm_ (by first | (simp only [putAll, Act.put, List.setIfInBounds_toArray, List.set_cons_zero, List.set_cons_succ]; done) | (simp only [putAll, Act.put, List.setIfInBounds_toArray, List.set_cons_zero, List.set_cons_succ]; rfl)) (hJ1_3_12_13 (v275, v278, .slice Ao41 y281.length co41, v285) _ ⟨hHeld, (by (with_reducible repeat (first | apply Kd.R_alloc | apply Kd.R_drewN | apply Kd.R_drew)); exact Kd.R_mono HO283.out (fun _ hk => hk.2)), (by (with_reducible repeat (first | apply Kd.R_alloc | apply Kd.R_drewN | apply Kd.R_drew)); exact HO286.out), (by (with_reducible repeat (first | refine blk_drewN ?_ _ | refine blk_drew ?_ | refine blk_alloc ?_ _)); exact BK269.out), (by repeat (first | (with_reducible first | exact HB.out | apply below_alloc | apply pw_below_drewN | apply below_drew1 | refine below_set ?_ GE269.out) | exact HB.out))⟩)
                ·skip
                 refine box_step ?hg (N := 8) ?hd (cs := #[.string (⟨#[]⟩ : ByteArray), .string (⟨#[]⟩ : ByteArray), .string (⟨#[]⟩ : ByteArray), .string (⟨#[]⟩ : ByteArray), .string (⟨#[]⟩ : ByteArray), .string (⟨#[]⟩ : ByteArray)]) (t := 30) ?hr ?_; (case hd => rfl); (case hg => rfl); (case hr => first | (go_simp; done) | (go_simp; rfl))
                 intro gb296 hg w40 hbox hb
                 have n0_ := Aside0.mk (Kd.R_below (by (with_reducible repeat (first | apply Kd.R_alloc | apply Kd.R_drewN | apply Kd.R_drew)); exact HO279.out) hb)
                 have n1_ := Aside0.mk (Kd.R_below (by (with_reducible repeat (first | apply Kd.R_alloc | apply Kd.R_drewN | apply Kd.R_drew)); exact HO283.out) hb)
                 have n2_ := Aside0.mk (blk_belowB BK269.out (by (with_reducible repeat (first | refine blk_drewN ?_ _ | refine blk_drew ?_ | refine blk_alloc ?_ _)); exact BK269.out) hb)
                 have n3_ := Aside0.mk (below_step (by repeat (first | (with_reducible first | exact HB.out | apply below_alloc | apply pw_below_drewN | apply below_drew1 | refine below_set ?_ GE269.out) | exact HB.out)) hb)
                 have n4_ := Aside0.mk (hbox)
                 have n5_ := Aside0.mk ((by rw [hg]; exact (below_size (by repeat (first | (with_reducible first | exact HB.out | apply below_alloc | apply pw_below_drewN | apply below_drew1 | refine below_set ?_ GE269.out) | exact HB.out))) : w.heap.size ≤ gb296))
                 have n6_ := Aside0.mk ((by rw [hg]; exact (below_size (by repeat (first | (with_reducible first | exact HB.out | apply below_alloc | apply pw_below_drewN | apply below_drew1 | refine below_set ?_ GE269.out) | exact HB.out))) : w.heap.size ≤ gb296))
                 have n7_ := Aside0.mk ((by rw [hg]; exact Nat.ne_of_lt (blk_lt (g := gb269) (o := .cells #[.string a0_0, .string a0_1, .string a0_2, .slice A0_3 l0_3.length c0_3, .slice A0_4 l0_4.length c0_4] 27 (0, 0)) (by (with_reducible repeat (first | refine blk_drewN ?_ _ | refine blk_drew ?_ | refine blk_alloc ?_ _)); exact BK269.out)) : gb269 ≠ gb296))
                 have n8_ := Aside0.mk ((by rw [hg]; exact Nat.ne_of_gt (blk_lt (g := gb269) (o := .cells #[.string a0_0, .string a0_1, .string a0_2, .slice A0_3 l0_3.length c0_3, .slice A0_4 l0_4.length c0_4] 27 (0, 0)) (by (with_reducible repeat (first | refine blk_drewN ?_ _ | refine blk_drew ?_ | refine blk_alloc ?_ _)); exact BK269.out)) : gb296 ≠ gb269))
                 clear HO279; clear HO283; clear BK269; clear HB
                 have HO279 := n0_
                 have HO283 := n1_
                 have BK269 := n2_
                 have HB := n3_
                 have BK296 := n4_
                 have GW296 := n5_
                 have GE296 := n6_
                 have NB269_296 := n7_
                 have NB296_269 := n8_
                 clear n0_ n1_ n2_ n3_ n4_ n5_ n6_ n7_ n8_; clear hb hbox hg
                 refine hK.out _ _ ⟨(blk_cell BK269.out 0).trans rfl, (blk_cell BK269.out 1).trans rfl, (blk_cell BK269.out 2).trans rfl, (blk_cell BK269.out 3).trans rfl, (blk_cell BK269.out 4).trans rfl, ((HB.out.cell (World.block_lt_of_cell? w _ hw280_0)).trans hw280_0), ((HB.out.cell (World.block_lt_of_cell? w _ hw280_1)).trans hw280_1)⟩ (fun hHeld => ?_)
                 clear hK K
                 refine norm_ (a' := ?_) ?_ ?_
                 rotate_left
                 ·show Act.put _ (some 8) _ = _
                  simp only [Act.put, List.setIfInBounds_toArray, List.set_cons_zero, List.set_cons_succ, i64_w, i32_w]
                  rfl
                 exact norm_ (by first | (simp only [putAll, Act.put, List.setIfInBounds_toArray, List.set_cons_zero, List.set_cons_succ]; done) | (simp only [putAll, Act.put, List.setIfInBounds_toArray, List.set_cons_zero, List.set_cons_succ]; rfl)) (hJ1_3_12_20 (v275, v278, (.slice Ao41 y281.length co41 : Value), gb296) _ ⟨hHeld, (by (with_reducible repeat (first | apply Kd.R_alloc | apply Kd.R_drewN | apply Kd.R_drew)); exact HO279.out), (by (with_reducible repeat (first | apply Kd.R_alloc | apply Kd.R_drewN | apply Kd.R_drew)); exact HO283.out), (by (with_reducible repeat (first | refine blk_drewN ?_ _ | refine blk_drew ?_ | refine blk_alloc ?_ _)); exact BK269.out), (by (with_reducible repeat (first | refine blk_drewN ?_ _ | refine blk_drew ?_ | refine blk_alloc ?_ _)); exact BK296.out), GW296.out, GE296.out, NB269_296.out, NB296_269.out, (by repeat (first | (with_reducible first | exact HB.out | apply below_alloc | apply pw_below_drewN | apply below_drew1 | refine below_set ?_ GE269.out | refine below_set ?_ GE296.out) | exact HB.out))⟩)
              ·skip
               rintro ⟨v275, v278, v282, gb296⟩ w40 ⟨hS_, h0_, h1_, h2_, h3_, h4_, h5_, h6_, h7_, h8_⟩
               have n0_ : Aside0 (Kd.R k39 39 w40 w.heap.size (fun k_ => some k_ ≠ (v282 : Value).ownBlock) v278 y277) := ⟨h0_⟩
               have n1_ : Aside0 (Kd.R k39 39 w40 w.heap.size (fun k_ => some k_ ≠ (v278 : Value).ownBlock) v282 y281) := ⟨h1_⟩
               have n2_ : Aside0 (w40.heap[gb269]? = some (.cells #[.string a0_0, .string a0_1, .string a0_2, .slice A0_3 l0_3.length c0_3, .slice A0_4 l0_4.length c0_4] 27 (0, 0))) := ⟨h2_⟩
               have n3_ : Aside0 (w40.heap[gb296]? = some (.cells #[.string (⟨#[]⟩ : ByteArray), .string (⟨#[]⟩ : ByteArray), .string (⟨#[]⟩ : ByteArray), .string (⟨#[]⟩ : ByteArray), .string (⟨#[]⟩ : ByteArray), .string (⟨#[]⟩ : ByteArray)] 30 (0, 0))) := ⟨h3_⟩
               have n4_ : Aside0 (w.heap.size ≤ gb296) := ⟨h4_⟩
               have n5_ : Aside0 (w.heap.size ≤ gb296) := ⟨h5_⟩
               have n6_ : Aside0 (gb269 ≠ gb296) := ⟨h6_⟩
               have n7_ : Aside0 (gb296 ≠ gb269) := ⟨h7_⟩
               have n8_ : Aside0 (Below w.heap.size w w40) := ⟨h8_⟩
               clear BK269; clear HB; clear h0_ h1_ h2_ h3_ h4_ h5_ h6_ h7_ h8_
               have HO279 := n0_
               have HO283 := n1_
               have BK269 := n2_
               have BK296 := n3_
               have GW296 := n4_
               have GE296 := n5_
               have NB269_296 := n6_
               have NB296_269 := n7_
               have HB := n8_
               clear n0_ n1_ n2_ n3_ n4_ n5_ n6_ n7_ n8_
               have hHeld : w40.cell? ⟨gb269, 0, none⟩ = some (.string a0_0) ∧ w40.cell? ⟨gb269, 1, none⟩ = some (.string a0_1) ∧ w40.cell? ⟨gb269, 2, none⟩ = some (.string a0_2) ∧ w40.cell? ⟨gb269, 3, none⟩ = some (.slice A0_3 l0_3.length c0_3) ∧ w40.cell? ⟨gb269, 4, none⟩ = some (.slice A0_4 l0_4.length c0_4) ∧ w40.cell? (ad280.add (((ji23)).toNat * 2)) = some (.string ((rd_T39 l1 (ji23)).f0)) ∧ w40.cell? ⟨(ad280.add (((ji23)).toNat * 2)).block, (ad280.add (((ji23)).toNat * 2)).off + 1, none⟩ = some (.string ((rd_T39 l1 (ji23)).f1)) := hS_
               obtain ⟨Ao42, co42, eo42⟩ := Kd.R_slice HO283.out
               (first | subst eo42 | (injection eo42 with f1_ f2_ f3_; have f4_ := f1_.symm; have f5_ := f3_.symm; clear f1_ f2_ f3_; subst f4_; subst f5_))
               refine norm_ (a' := ?_) ?_ ?_
               rotate_left
               ·simp only [putAll, Act.put, List.setIfInBounds_toArray, List.set_cons_zero, List.set_cons_succ]
                rfl
               refine one_ (i := 13) (N := some 61) #[true, true, true, true, true, true, true, true, true, true, true, true, true, true, false, false, false, false, false, false, true, false, false, false] rfl rfl (one_of HT_.out (by kernel_rfl)) (by decide) (fun K hK => ?_)
               refine Kd.R_append_rows_step k39 (w0 := w) w.heap.size (by rfl) (.tmp 51) (.tmp 60) 37 39 (.agg #[(.string ⟨#[]⟩), (.string ⟨#[]⟩)]) 32 rfl Tryd.underlying37 info39 rfl (by decide) (by omega) v278 y277 y281 _ _ _ (fun k_ => some k_ ≠ (.slice Ao42 y281.length co42 : Value).ownBlock) (fun _ => False) rfl rfl ?aO ?aR (fun _ _ h => h) (fun _ h => h.elim) ?aF ?aB ?aS ?aL ?_
               (case aR => repeat (first | exact (Kd.R_reads' HO283.out).2.2 | (with_reducible refine Kd.C_alloc ?_ _) | (with_reducible refine Kd.C_drewN ?_ _) | (with_reducible refine Kd.C_drew ?_)))
               (case aB => exact (by repeat (first | (with_reducible first | exact HB.out | apply below_alloc | apply pw_below_drewN | apply below_drew1 | refine below_set ?_ GE269.out | refine below_set ?_ GE296.out) | exact HB.out)))
               (case aF => exact (fun k_ hk => Kd.fresh' (Kd.R_lt (by (with_reducible repeat (first | apply Kd.R_alloc | apply Kd.R_drewN | apply Kd.R_drew)); exact HO283.out)) k_ hk))
               (case aO => exact (by (with_reducible repeat (first | apply Kd.R_alloc | apply Kd.R_drewN | apply Kd.R_drew)); exact HO279.out))
               (case aS => exact (below_size (by repeat (first | (with_reducible first | exact HB.out | apply below_alloc | apply pw_below_drewN | apply below_drew1 | refine below_set ?_ GE269.out | refine below_set ?_ GE296.out) | exact HB.out))))
               (case aL => have := LMc26.out; omega)
               intro v285 w41 ho hb hg hat
               rw [← Ny284.out] at ho
               have n0_ := Aside0.mk (blk_grown (g := gb269) (o := .cells #[.string a0_0, .string a0_1, .string a0_2, .slice A0_3 l0_3.length c0_3, .slice A0_4 l0_4.length c0_4] 27 (0, 0)) (by (with_reducible repeat (first | refine blk_drewN ?_ _ | refine blk_drew ?_ | refine blk_alloc ?_ _)); exact BK269.out) hg (Kd.R_ne HO279.out BK269.out (by decide)))
               have n1_ := Aside0.mk (Kd.R_after (ok := (fun _ => True)) (by (with_reducible repeat (first | apply Kd.R_alloc | apply Kd.R_drewN | apply Kd.R_drew)); exact Kd.R_mono HO283.out (fun _ hk => ⟨trivial, hk⟩)) hg hat)
               have n2_ := Aside0.mk (blk_grown (g := gb296) (o := .cells #[.string (⟨#[]⟩ : ByteArray), .string (⟨#[]⟩ : ByteArray), .string (⟨#[]⟩ : ByteArray), .string (⟨#[]⟩ : ByteArray), .string (⟨#[]⟩ : ByteArray), .string (⟨#[]⟩ : ByteArray)] 30 (0, 0)) (by (with_reducible repeat (first | refine blk_drewN ?_ _ | refine blk_drew ?_ | refine blk_alloc ?_ _)); exact BK296.out) hg (Kd.R_ne HO279.out BK296.out (by decide)))
               have n3_ := Aside0.mk (hb)
               have n4_ := Aside0.mk (ho)
               clear BK269; clear HO283; clear BK296; clear HB; clear HO279
               have BK269 := n0_
               have HO283 := n1_
               have BK296 := n2_
               have HB := n3_
               have HO286 := n4_
               clear n0_ n1_ n2_ n3_ n4_; clear ho hb hg hat
               refine hK.out _ _ ⟨(blk_cell BK269.out 0).trans rfl, (blk_cell BK269.out 1).trans rfl, (blk_cell BK269.out 2).trans rfl, (blk_cell BK269.out 3).trans rfl, (blk_cell BK269.out 4).trans rfl, ((HB.out.cell (World.block_lt_of_cell? w _ hw280_0)).trans hw280_0), ((HB.out.cell (World.block_lt_of_cell? w _ hw280_1)).trans hw280_1)⟩ (fun hHeld => ?_)
               clear hK K
               refine norm_ (a' := ?_) ?_ ?_
               rotate_left
               ·show Act.put _ (some 61) _ = _
                simp only [Act.put, List.setIfInBounds_toArray, List.set_cons_zero, List.set_cons_succ, i64_w, i32_w]
                rfl
               exact norm_ (by first | (simp only [putAll, Act.put, List.setIfInBounds_toArray, List.set_cons_zero, List.set_cons_succ]; done) | (simp only [putAll, Act.put, List.setIfInBounds_toArray, List.set_cons_zero, List.set_cons_succ]; rfl)) (hJ1_3_12_13_20 (v275, v278, .slice Ao42 y281.length co42, v285, gb296) _ ⟨hHeld, (by (with_reducible repeat (first | apply Kd.R_alloc | apply Kd.R_drewN | apply Kd.R_drew)); exact Kd.R_mono HO283.out (fun _ hk => hk.2)), (by (with_reducible repeat (first | apply Kd.R_alloc | apply Kd.R_drewN | apply Kd.R_drew)); exact HO286.out), (by (with_reducible repeat (first | refine blk_drewN ?_ _ | refine blk_drew ?_ | refine blk_alloc ?_ _)); exact BK269.out), (by (with_reducible repeat (first | refine blk_drewN ?_ _ | refine blk_drew ?_ | refine blk_alloc ?_ _)); exact BK296.out), GW296.out, GE296.out, NB269_296.out, NB296_269.out, (by repeat (first | (with_reducible first | exact HB.out | apply below_alloc | apply pw_below_drewN | apply below_drew1 | refine below_set ?_ GE269.out | refine below_set ?_ GE296.out) | exact HB.out))⟩)
             ·skip
              rintro ⟨v275, v278, v282, v285⟩ w41 ⟨hS_, h0_, h1_, h2_, h3_⟩
              have n0_ : Aside0 (Kd.R k39 39 w41 w.heap.size (fun k_ => some k_ ≠ (v285 : Value).ownBlock) v282 y281) := ⟨h0_⟩
              have n1_ : Aside0 (Kd.R k39 39 w41 w.heap.size (fun k_ => some k_ ≠ (v282 : Value).ownBlock) v285 y284) := ⟨h1_⟩
              have n2_ : Aside0 (w41.heap[gb269]? = some (.cells #[.string a0_0, .string a0_1, .string a0_2, .slice A0_3 l0_3.length c0_3, .slice A0_4 l0_4.length c0_4] 27 (0, 0))) := ⟨h2_⟩
              have n3_ : Aside0 (Below w.heap.size w w41) := ⟨h3_⟩
              clear BK269; clear HB; clear h0_ h1_ h2_ h3_
              have HO283 := n0_
              have HO286 := n1_
              have BK269 := n2_
              have HB := n3_
              clear n0_ n1_ n2_ n3_
              have hHeld : w41.cell? ⟨gb269, 0, none⟩ = some (.string a0_0) ∧ w41.cell? ⟨gb269, 1, none⟩ = some (.string a0_1) ∧ w41.cell? ⟨gb269, 2, none⟩ = some (.string a0_2) ∧ w41.cell? ⟨gb269, 3, none⟩ = some (.slice A0_3 l0_3.length c0_3) ∧ w41.cell? ⟨gb269, 4, none⟩ = some (.slice A0_4 l0_4.length c0_4) ∧ w41.cell? (ad280.add (((ji23)).toNat * 2)) = some (.string ((rd_T39 l1 (ji23)).f0)) ∧ w41.cell? ⟨(ad280.add (((ji23)).toNat * 2)).block, (ad280.add (((ji23)).toNat * 2)).off + 1, none⟩ = some (.string ((rd_T39 l1 (ji23)).f1)) := hS_
              obtain ⟨Ao42, co42, eo42⟩ := Kd.R_slice HO286.out
              (first | subst eo42 | (injection eo42 with f1_ f2_ f3_; have f4_ := f1_.symm; have f5_ := f3_.symm; clear f1_ f2_ f3_; subst f4_; subst f5_))
              refine norm_ (a' := ?_) ?_ ?_
              rotate_left
              ·simp only [putAll, Act.put, List.setIfInBounds_toArray, List.set_cons_zero, List.set_cons_succ]
               rfl
              refine two_ (i := 14) (j := 20) (Ni := some 62) (Nj := some 8) #[true, true, true, true, true, true, true, true, true, true, true, true, true, true, true, false, false, false, false, false, false, false, false, false] #[true, true, true, true, true, true, true, true, true, true, true, true, true, true, false, false, false, false, false, false, true, false, false, false] rfl rfl rfl rfl (two_of HT_.out (by kernel_rfl)) (by decide) (by decide) (fun K hK => ?_) (fun K hK => ?_)
              ·skip
               refine goes_ Tryd.func10 (by kernel_rfl) rfl #[.slice Ao42 y284.length co42] (by rfl) rfl rfl (by (try simp only [List.map_toArray, List.map_cons, List.map_nil]); first | done | rfl | (simp only [List.length_drop, List.length_take]; rfl)) ?_
               with_reducible refine (exequaturref01_Build.calls k2 _ _ y284 t287 _ ?side1 ?side2 A27.out).mono ?_
               (case side1 => repeat (first | exact (Kd.R_reads' HO286.out).2.2 | (with_reducible refine Kd.C_alloc ?_ _) | (with_reducible refine Kd.C_drewN ?_ _) | (with_reducible refine Kd.C_drew ?_)))
               (case side2 => exact (Kd.R_reads' HO286.out).2.1)
               rintro e w43 ⟨rfl, hb⟩
               refine ⟨_, rfl, ?_⟩
               have n0_ := Aside0.mk (Kd.R_below (by (with_reducible repeat (first | apply Kd.R_alloc | apply Kd.R_drewN | apply Kd.R_drew)); exact HO283.out) hb)
               have n1_ := Aside0.mk (Kd.R_below (by (with_reducible repeat (first | apply Kd.R_alloc | apply Kd.R_drewN | apply Kd.R_drew)); exact HO286.out) hb)
               have n2_ := Aside0.mk (blk_belowB BK269.out (by (with_reducible repeat (first | refine blk_drewN ?_ _ | refine blk_drew ?_ | refine blk_alloc ?_ _)); exact BK269.out) hb)
               have n3_ := Aside0.mk (below_step (by repeat (first | (with_reducible first | exact HB.out | apply below_alloc | apply pw_below_drewN | apply below_drew1 | refine below_set ?_ GE269.out) | exact HB.out)) hb)
               clear HO283; clear HO286; clear BK269; clear HB
               have HO283 := n0_
               have HO286 := n1_
               have BK269 := n2_
               have HB := n3_
               clear n0_ n1_ n2_ n3_; (try clear hb); (try clear hb2); (try clear hk); (try clear hi)
               refine hK.out _ _ ⟨(blk_cell BK269.out 0).trans rfl, (blk_cell BK269.out 1).trans rfl, (blk_cell BK269.out 2).trans rfl, (blk_cell BK269.out 3).trans rfl, (blk_cell BK269.out 4).trans rfl, ((HB.out.cell (World.block_lt_of_cell? w _ hw280_0)).trans hw280_0), ((HB.out.cell (World.block_lt_of_cell? w _ hw280_1)).trans hw280_1)⟩ (fun hHeld => ?_)
               clear hK K
               refine norm_ (a' := ?_) ?_ ?_
               rotate_left
               ·show Act.put _ (some 62) _ = _
                simp only [Act.put, List.setIfInBounds_toArray, List.set_cons_zero, List.set_cons_succ, i64_w, i32_w]
                rfl
               exact norm_ (by first | (simp only [putAll, Act.put, List.setIfInBounds_toArray, List.set_cons_zero, List.set_cons_succ]; done) | (simp only [putAll, Act.put, List.setIfInBounds_toArray, List.set_cons_zero, List.set_cons_succ]; rfl)) (hJ1_3_12_13_14 (v275, v278, v282, .slice Ao42 y284.length co42) _ ⟨hHeld, (by (with_reducible repeat (first | apply Kd.R_alloc | apply Kd.R_drewN | apply Kd.R_drew)); exact HO283.out), (by (with_reducible repeat (first | apply Kd.R_alloc | apply Kd.R_drewN | apply Kd.R_drew)); exact HO286.out), (by (with_reducible repeat (first | refine blk_drewN ?_ _ | refine blk_drew ?_ | refine blk_alloc ?_ _)); exact BK269.out), (by repeat (first | (with_reducible first | exact HB.out | apply below_alloc | apply pw_below_drewN | apply below_drew1 | refine below_set ?_ GE269.out) | exact HB.out))⟩)
              ·skip
               refine box_step ?hg (N := 8) ?hd (cs := #[.string (⟨#[]⟩ : ByteArray), .string (⟨#[]⟩ : ByteArray), .string (⟨#[]⟩ : ByteArray), .string (⟨#[]⟩ : ByteArray), .string (⟨#[]⟩ : ByteArray), .string (⟨#[]⟩ : ByteArray)]) (t := 30) ?hr ?_; (case hd => rfl); (case hg => rfl); (case hr => first | (go_simp; done) | (go_simp; rfl))
               intro gb296 hg w42 hbox hb
               have n0_ := Aside0.mk (Kd.R_below (by (with_reducible repeat (first | apply Kd.R_alloc | apply Kd.R_drewN | apply Kd.R_drew)); exact HO283.out) hb)
               have n1_ := Aside0.mk (Kd.R_below (by (with_reducible repeat (first | apply Kd.R_alloc | apply Kd.R_drewN | apply Kd.R_drew)); exact HO286.out) hb)
               have n2_ := Aside0.mk (blk_belowB BK269.out (by (with_reducible repeat (first | refine blk_drewN ?_ _ | refine blk_drew ?_ | refine blk_alloc ?_ _)); exact BK269.out) hb)
               have n3_ := Aside0.mk (below_step (by repeat (first | (with_reducible first | exact HB.out | apply below_alloc | apply pw_below_drewN | apply below_drew1 | refine below_set ?_ GE269.out) | exact HB.out)) hb)
               have n4_ := Aside0.mk (hbox)
               have n5_ := Aside0.mk ((by rw [hg]; exact (below_size (by repeat (first | (with_reducible first | exact HB.out | apply below_alloc | apply pw_below_drewN | apply below_drew1 | refine below_set ?_ GE269.out) | exact HB.out))) : w.heap.size ≤ gb296))
               have n6_ := Aside0.mk ((by rw [hg]; exact (below_size (by repeat (first | (with_reducible first | exact HB.out | apply below_alloc | apply pw_below_drewN | apply below_drew1 | refine below_set ?_ GE269.out) | exact HB.out))) : w.heap.size ≤ gb296))
               have n7_ := Aside0.mk ((by rw [hg]; exact Nat.ne_of_lt (blk_lt (g := gb269) (o := .cells #[.string a0_0, .string a0_1, .string a0_2, .slice A0_3 l0_3.length c0_3, .slice A0_4 l0_4.length c0_4] 27 (0, 0)) (by (with_reducible repeat (first | refine blk_drewN ?_ _ | refine blk_drew ?_ | refine blk_alloc ?_ _)); exact BK269.out)) : gb269 ≠ gb296))
               have n8_ := Aside0.mk ((by rw [hg]; exact Nat.ne_of_gt (blk_lt (g := gb269) (o := .cells #[.string a0_0, .string a0_1, .string a0_2, .slice A0_3 l0_3.length c0_3, .slice A0_4 l0_4.length c0_4] 27 (0, 0)) (by (with_reducible repeat (first | refine blk_drewN ?_ _ | refine blk_drew ?_ | refine blk_alloc ?_ _)); exact BK269.out)) : gb296 ≠ gb269))
               clear HO283; clear HO286; clear BK269; clear HB
               have HO283 := n0_
               have HO286 := n1_
               have BK269 := n2_
               have HB := n3_
               have BK296 := n4_
               have GW296 := n5_
               have GE296 := n6_
               have NB269_296 := n7_
               have NB296_269 := n8_
               clear n0_ n1_ n2_ n3_ n4_ n5_ n6_ n7_ n8_; clear hb hbox hg
               refine hK.out _ _ ⟨(blk_cell BK269.out 0).trans rfl, (blk_cell BK269.out 1).trans rfl, (blk_cell BK269.out 2).trans rfl, (blk_cell BK269.out 3).trans rfl, (blk_cell BK269.out 4).trans rfl, ((HB.out.cell (World.block_lt_of_cell? w _ hw280_0)).trans hw280_0), ((HB.out.cell (World.block_lt_of_cell? w _ hw280_1)).trans hw280_1)⟩ (fun hHeld => ?_)
               clear hK K
               refine norm_ (a' := ?_) ?_ ?_
               rotate_left
               ·show Act.put _ (some 8) _ = _
                simp only [Act.put, List.setIfInBounds_toArray, List.set_cons_zero, List.set_cons_succ, i64_w, i32_w]
                rfl
               exact norm_ (by first | (simp only [putAll, Act.put, List.setIfInBounds_toArray, List.set_cons_zero, List.set_cons_succ]; done) | (simp only [putAll, Act.put, List.setIfInBounds_toArray, List.set_cons_zero, List.set_cons_succ]; rfl)) (hJ1_3_12_13_20 (v275, v278, v282, (.slice Ao42 y284.length co42 : Value), gb296) _ ⟨hHeld, (by (with_reducible repeat (first | apply Kd.R_alloc | apply Kd.R_drewN | apply Kd.R_drew)); exact HO283.out), (by (with_reducible repeat (first | apply Kd.R_alloc | apply Kd.R_drewN | apply Kd.R_drew)); exact HO286.out), (by (with_reducible repeat (first | refine blk_drewN ?_ _ | refine blk_drew ?_ | refine blk_alloc ?_ _)); exact BK269.out), (by (with_reducible repeat (first | refine blk_drewN ?_ _ | refine blk_drew ?_ | refine blk_alloc ?_ _)); exact BK296.out), GW296.out, GE296.out, NB269_296.out, NB296_269.out, (by repeat (first | (with_reducible first | exact HB.out | apply below_alloc | apply pw_below_drewN | apply below_drew1 | refine below_set ?_ GE269.out | refine below_set ?_ GE296.out) | exact HB.out))⟩)
            ·skip
             rintro ⟨v275, v278, v282, v285, gb296⟩ w42 ⟨hS_, h0_, h1_, h2_, h3_, h4_, h5_, h6_, h7_, h8_⟩
             have n0_ : Aside0 (Kd.R k39 39 w42 w.heap.size (fun k_ => some k_ ≠ (v285 : Value).ownBlock) v282 y281) := ⟨h0_⟩
             have n1_ : Aside0 (Kd.R k39 39 w42 w.heap.size (fun k_ => some k_ ≠ (v282 : Value).ownBlock) v285 y284) := ⟨h1_⟩
             have n2_ : Aside0 (w42.heap[gb269]? = some (.cells #[.string a0_0, .string a0_1, .string a0_2, .slice A0_3 l0_3.length c0_3, .slice A0_4 l0_4.length c0_4] 27 (0, 0))) := ⟨h2_⟩
             have n3_ : Aside0 (w42.heap[gb296]? = some (.cells #[.string (⟨#[]⟩ : ByteArray), .string (⟨#[]⟩ : ByteArray), .string (⟨#[]⟩ : ByteArray), .string (⟨#[]⟩ : ByteArray), .string (⟨#[]⟩ : ByteArray), .string (⟨#[]⟩ : ByteArray)] 30 (0, 0))) := ⟨h3_⟩
             have n4_ : Aside0 (w.heap.size ≤ gb296) := ⟨h4_⟩
             have n5_ : Aside0 (w.heap.size ≤ gb296) := ⟨h5_⟩
             have n6_ : Aside0 (gb269 ≠ gb296) := ⟨h6_⟩
             have n7_ : Aside0 (gb296 ≠ gb269) := ⟨h7_⟩
             have n8_ : Aside0 (Below w.heap.size w w42) := ⟨h8_⟩
             clear BK269; clear HB; clear h0_ h1_ h2_ h3_ h4_ h5_ h6_ h7_ h8_
             have HO283 := n0_
             have HO286 := n1_
             have BK269 := n2_
             have BK296 := n3_
             have GW296 := n4_
             have GE296 := n5_
             have NB269_296 := n6_
             have NB296_269 := n7_
             have HB := n8_
             clear n0_ n1_ n2_ n3_ n4_ n5_ n6_ n7_ n8_
             have hHeld : w42.cell? ⟨gb269, 0, none⟩ = some (.string a0_0) ∧ w42.cell? ⟨gb269, 1, none⟩ = some (.string a0_1) ∧ w42.cell? ⟨gb269, 2, none⟩ = some (.string a0_2) ∧ w42.cell? ⟨gb269, 3, none⟩ = some (.slice A0_3 l0_3.length c0_3) ∧ w42.cell? ⟨gb269, 4, none⟩ = some (.slice A0_4 l0_4.length c0_4) ∧ w42.cell? (ad280.add (((ji23)).toNat * 2)) = some (.string ((rd_T39 l1 (ji23)).f0)) ∧ w42.cell? ⟨(ad280.add (((ji23)).toNat * 2)).block, (ad280.add (((ji23)).toNat * 2)).off + 1, none⟩ = some (.string ((rd_T39 l1 (ji23)).f1)) := hS_
             obtain ⟨Ao43, co43, eo43⟩ := Kd.R_slice HO286.out
             (first | subst eo43 | (injection eo43 with f1_ f2_ f3_; have f4_ := f1_.symm; have f5_ := f3_.symm; clear f1_ f2_ f3_; subst f4_; subst f5_))
             refine norm_ (a' := ?_) ?_ ?_
             rotate_left
             ·simp only [putAll, Act.put, List.setIfInBounds_toArray, List.set_cons_zero, List.set_cons_succ]
              rfl
             refine one_ (i := 14) (N := some 62) #[true, true, true, true, true, true, true, true, true, true, true, true, true, true, true, false, false, false, false, false, true, false, false, false] rfl rfl (one_of HT_.out (by kernel_rfl)) (by decide) (fun K hK => ?_)
             refine goes_ Tryd.func10 (by kernel_rfl) rfl #[.slice Ao43 y284.length co43] (by rfl) rfl rfl (by (try simp only [List.map_toArray, List.map_cons, List.map_nil]); first | done | rfl | (simp only [List.length_drop, List.length_take]; rfl)) ?_
             with_reducible refine (exequaturref01_Build.calls k2 _ _ y284 t287 _ ?side1 ?side2 A27.out).mono ?_
             (case side1 => repeat (first | exact (Kd.R_reads' HO286.out).2.2 | (with_reducible refine Kd.C_alloc ?_ _) | (with_reducible refine Kd.C_drewN ?_ _) | (with_reducible refine Kd.C_drew ?_)))
             (case side2 => exact (Kd.R_reads' HO286.out).2.1)
             rintro e w44 ⟨rfl, hb⟩
             refine ⟨_, rfl, ?_⟩
             have n0_ := Aside0.mk (Kd.R_below (by (with_reducible repeat (first | apply Kd.R_alloc | apply Kd.R_drewN | apply Kd.R_drew)); exact HO283.out) hb)
             have n1_ := Aside0.mk (Kd.R_below (by (with_reducible repeat (first | apply Kd.R_alloc | apply Kd.R_drewN | apply Kd.R_drew)); exact HO286.out) hb)
             have n2_ := Aside0.mk (blk_belowB BK269.out (by (with_reducible repeat (first | refine blk_drewN ?_ _ | refine blk_drew ?_ | refine blk_alloc ?_ _)); exact BK269.out) hb)
             have n3_ := Aside0.mk (blk_belowB BK296.out (by (with_reducible repeat (first | refine blk_drewN ?_ _ | refine blk_drew ?_ | refine blk_alloc ?_ _)); exact BK296.out) hb)
             have n4_ := Aside0.mk (below_step (by repeat (first | (with_reducible first | exact HB.out | apply below_alloc | apply pw_below_drewN | apply below_drew1 | refine below_set ?_ GE269.out | refine below_set ?_ GE296.out) | exact HB.out)) hb)
             clear HO283; clear HO286; clear BK269; clear BK296; clear HB
             have HO283 := n0_
             have HO286 := n1_
             have BK269 := n2_
             have BK296 := n3_
             have HB := n4_
             clear n0_ n1_ n2_ n3_ n4_; (try clear hb); (try clear hb2); (try clear hk); (try clear hi)
             refine hK.out _ _ ⟨(blk_cell BK269.out 0).trans rfl, (blk_cell BK269.out 1).trans rfl, (blk_cell BK269.out 2).trans rfl, (blk_cell BK269.out 3).trans rfl, (blk_cell BK269.out 4).trans rfl, ((HB.out.cell (World.block_lt_of_cell? w _ hw280_0)).trans hw280_0), ((HB.out.cell (World.block_lt_of_cell? w _ hw280_1)).trans hw280_1)⟩ (fun hHeld => ?_)
             clear hK K
             refine norm_ (a' := ?_) ?_ ?_
             rotate_left
             ·show Act.put _ (some 62) _ = _
              simp only [Act.put, List.setIfInBounds_toArray, List.set_cons_zero, List.set_cons_succ, i64_w, i32_w]
              rfl
             exact norm_ (by first | (simp only [putAll, Act.put, List.setIfInBounds_toArray, List.set_cons_zero, List.set_cons_succ]; done) | (simp only [putAll, Act.put, List.setIfInBounds_toArray, List.set_cons_zero, List.set_cons_succ]; rfl)) (hJ1_3_12_13_14_20 (v275, v278, v282, .slice Ao43 y284.length co43, gb296) _ ⟨hHeld, (by (with_reducible repeat (first | apply Kd.R_alloc | apply Kd.R_drewN | apply Kd.R_drew)); exact HO283.out), (by (with_reducible repeat (first | apply Kd.R_alloc | apply Kd.R_drewN | apply Kd.R_drew)); exact HO286.out), (by (with_reducible repeat (first | refine blk_drewN ?_ _ | refine blk_drew ?_ | refine blk_alloc ?_ _)); exact BK269.out), (by (with_reducible repeat (first | refine blk_drewN ?_ _ | refine blk_drew ?_ | refine blk_alloc ?_ _)); exact BK296.out), GW296.out, GE296.out, NB269_296.out, NB296_269.out, (by repeat (first | (with_reducible first | exact HB.out | apply below_alloc | apply pw_below_drewN | apply below_drew1 | refine below_set ?_ GE269.out | refine below_set ?_ GE296.out) | exact HB.out))⟩)
           ·skip
            rintro ⟨v275, v278, v282, v285⟩ w43 ⟨hS_, h0_, h1_, h2_, h3_⟩
            have n0_ : Aside0 (Kd.R k39 39 w43 w.heap.size (fun k_ => some k_ ≠ (v285 : Value).ownBlock) v282 y281) := ⟨h0_⟩
            have n1_ : Aside0 (Kd.R k39 39 w43 w.heap.size (fun k_ => some k_ ≠ (v282 : Value).ownBlock) v285 y284) := ⟨h1_⟩
            have n2_ : Aside0 (w43.heap[gb269]? = some (.cells #[.string a0_0, .string a0_1, .string a0_2, .slice A0_3 l0_3.length c0_3, .slice A0_4 l0_4.length c0_4] 27 (0, 0))) := ⟨h2_⟩
            have n3_ : Aside0 (Below w.heap.size w w43) := ⟨h3_⟩
            clear BK269; clear HB; clear h0_ h1_ h2_ h3_
            have HO283 := n0_
            have HO286 := n1_
            have BK269 := n2_
            have HB := n3_
            clear n0_ n1_ n2_ n3_
            have hHeld : w43.cell? ⟨gb269, 0, none⟩ = some (.string a0_0) ∧ w43.cell? ⟨gb269, 1, none⟩ = some (.string a0_1) ∧ w43.cell? ⟨gb269, 2, none⟩ = some (.string a0_2) ∧ w43.cell? ⟨gb269, 3, none⟩ = some (.slice A0_3 l0_3.length c0_3) ∧ w43.cell? ⟨gb269, 4, none⟩ = some (.slice A0_4 l0_4.length c0_4) ∧ w43.cell? (ad280.add (((ji23)).toNat * 2)) = some (.string ((rd_T39 l1 (ji23)).f0)) ∧ w43.cell? ⟨(ad280.add (((ji23)).toNat * 2)).block, (ad280.add (((ji23)).toNat * 2)).off + 1, none⟩ = some (.string ((rd_T39 l1 (ji23)).f1)) := hS_
            refine norm_ (a' := ?_) ?_ ?_
            rotate_left
            ·simp only [putAll, Act.put, List.setIfInBounds_toArray, List.set_cons_zero, List.set_cons_succ]
             rfl
            refine two_ (i := 15) (j := 20) (Ni := some 63) (Nj := some 8) #[true, true, true, true, true, true, true, true, true, true, true, true, true, true, true, true, false, false, false, false, false, false, false, false] #[true, true, true, true, true, true, true, true, true, true, true, true, true, true, true, false, false, false, false, false, true, false, false, false] rfl rfl rfl rfl (two_of HT_.out (by kernel_rfl)) (by decide) (by decide) (fun K hK => ?_) (fun K hK => ?_)
            ·skip
             refine goes_ Tryd.func8 (by kernel_rfl) rfl #[.agg #[.string a0_0, .string a0_1, .string a0_2, .slice A0_3 l0_3.length c0_3, .slice A0_4 l0_4.length c0_4], .string t287] (by rfl) rfl rfl (by (try simp only [List.map_toArray, List.map_cons, List.map_nil]); first | done | rfl | (simp only [List.length_drop, List.length_take]; rfl)) ?_
             with_reducible refine (ask_Check.calls a0_0 a0_1 a0_2 _ _ l0_3 _ _ l0_4 t287 t288 t289 t290 t291 t292 t293 t294 t295 _ ?side1 ?side2 ?side3 ?side4 A28.out (hG := GOK.below hG (by repeat (first | (with_reducible first | exact HB.out | apply below_alloc | apply pw_below_drewN | apply below_drew1 | refine below_set ?_ GE269.out | refine below_set ?_ GE296.out) | exact HB.out)))).mono ?_
             (case side1 => repeat (first | exact (Kd.C_below HR0_3.out HB.out) | (with_reducible refine Kd.C_alloc ?_ _) | (with_reducible refine Kd.C_drewN ?_ _) | (with_reducible refine Kd.C_drew ?_)))
             (case side2 => exact HC0_3.out)
             (case side3 => repeat (first | exact (Kd.C_below HR0_4.out HB.out) | (with_reducible refine Kd.C_alloc ?_ _) | (with_reducible refine Kd.C_drewN ?_ _) | (with_reducible refine Kd.C_drew ?_)))
             (case side4 => exact HC0_4.out)
             rintro e w44 ⟨rfl, hb⟩
             refine ⟨_, rfl, ?_⟩
             have n0_ := Aside0.mk (Kd.R_below (by (with_reducible repeat (first | apply Kd.R_alloc | apply Kd.R_drewN | apply Kd.R_drew)); exact HO283.out) hb)
             have n1_ := Aside0.mk (Kd.R_below (by (with_reducible repeat (first | apply Kd.R_alloc | apply Kd.R_drewN | apply Kd.R_drew)); exact HO286.out) hb)
             have n2_ := Aside0.mk (blk_belowB BK269.out (by (with_reducible repeat (first | refine blk_drewN ?_ _ | refine blk_drew ?_ | refine blk_alloc ?_ _)); exact BK269.out) hb)
             have n3_ := Aside0.mk (below_step (by repeat (first | (with_reducible first | exact HB.out | apply below_alloc | apply pw_below_drewN | apply below_drew1 | refine below_set ?_ GE269.out) | exact HB.out)) hb)
             clear HO283; clear HO286; clear BK269; clear HB
             have HO283 := n0_
             have HO286 := n1_
             have BK269 := n2_
             have HB := n3_
             clear n0_ n1_ n2_ n3_; (try clear hb); (try clear hb2); (try clear hk); (try clear hi)
             refine hK.out _ _ ⟨(blk_cell BK269.out 0).trans rfl, (blk_cell BK269.out 1).trans rfl, (blk_cell BK269.out 2).trans rfl, (blk_cell BK269.out 3).trans rfl, (blk_cell BK269.out 4).trans rfl, ((HB.out.cell (World.block_lt_of_cell? w _ hw280_0)).trans hw280_0), ((HB.out.cell (World.block_lt_of_cell? w _ hw280_1)).trans hw280_1)⟩ (fun hHeld => ?_)
             clear hK K
             refine norm_ (a' := ?_) ?_ ?_
             rotate_left
             ·show Act.put _ (some 63) _ = _
              simp only [Act.put, List.setIfInBounds_toArray, List.set_cons_zero, List.set_cons_succ, i64_w, i32_w]
              rfl
             refine pure_ (i := 16) (N := some 47) (v := ?_) (a' := ?_) #[true, true, true, true, true, true, true, true, true, true, true, true, true, true, true, true, true, false, false, false, false, false, false, false] rfl rfl (any_of HT_.out (by kernel_rfl)) (fun _ _ _ h => h) (Or.inl ⟨by rfl, ?_⟩) ?_ ?_
             rotate_left
             ·intro w'
              go_simp
              with_reducible rfl
             rotate_left
             ·simp only [Act.put, List.setIfInBounds_toArray, List.set_cons_zero, List.set_cons_succ, i64_w, i32_w]
              rfl
             refine pure_ (i := 17) (N := some 64) (v := ?_) (a' := ?_) #[true, true, true, true, true, true, true, true, true, true, true, true, true, true, true, true, true, true, false, false, false, false, false, false] rfl rfl (any_of HT_.out (by kernel_rfl)) (fun _ _ _ h => h) (Or.inl ⟨by rfl, ?_⟩) ?_ ?_
             rotate_left
             ·intro w'
              go_simp
              with_reducible rfl
             rotate_left
             ·simp only [Act.put, List.setIfInBounds_toArray, List.set_cons_zero, List.set_cons_succ, i64_w, i32_w]
              rfl
             refine pure_ (i := 18) (N := some 65) (v := ?_) (a' := ?_) #[true, true, true, true, true, true, true, true, true, true, true, true, true, true, true, true, true, true, true, false, false, false, false, false] rfl rfl (any_of HT_.out (by kernel_rfl)) (fun _ _ _ h => h) (Or.inl ⟨by rfl, ?_⟩) ?_ ?_
             rotate_left
             ·intro w'
              go_simp
              with_reducible rfl
             rotate_left
             ·simp only [Act.put, List.setIfInBounds_toArray, List.set_cons_zero, List.set_cons_succ, i64_w, i32_w]
              rfl
             refine pure_ (i := 19) (N := some 66) (v := ?_) (a' := ?_) #[true, true, true, true, true, true, true, true, true, true, true, true, true, true, true, true, true, true, true, true, false, false, false, false] rfl rfl (any_of HT_.out (by kernel_rfl)) (fun _ _ _ h => h) (Or.inl ⟨by rfl, ?_⟩) ?_ ?_
             rotate_left
             ·intro w'
              go_simp
              with_reducible rfl
             rotate_left
             ·simp only [Act.put, List.setIfInBounds_toArray, List.set_cons_zero, List.set_cons_succ, i64_w, i32_w]
              rfl
             exact norm_ (by first | (simp only [putAll, Act.put, List.setIfInBounds_toArray, List.set_cons_zero, List.set_cons_succ]; done) | (simp only [putAll, Act.put, List.setIfInBounds_toArray, List.set_cons_zero, List.set_cons_succ]; rfl)) (hJ1_3_12_13_14_15 (v275, v278, v282, v285) _ ⟨hHeld, (by (with_reducible repeat (first | apply Kd.R_alloc | apply Kd.R_drewN | apply Kd.R_drew)); exact HO283.out), (by (with_reducible repeat (first | apply Kd.R_alloc | apply Kd.R_drewN | apply Kd.R_drew)); exact HO286.out), (by (with_reducible repeat (first | refine blk_drewN ?_ _ | refine blk_drew ?_ | refine blk_alloc ?_ _)); exact BK269.out), (by repeat (first | (with_reducible first | exact HB.out | apply below_alloc | apply pw_below_drewN | apply below_drew1 | refine below_set ?_ GE269.out) | exact HB.out))⟩)
            ·skip
             refine box_step ?hg (N := 8) ?hd (cs := #[.string (⟨#[]⟩ : ByteArray), .string (⟨#[]⟩ : ByteArray), .string (⟨#[]⟩ : ByteArray), .string (⟨#[]⟩ : ByteArray), .string (⟨#[]⟩ : ByteArray), .string (⟨#[]⟩ : ByteArray)]) (t := 30) ?hr ?_; (case hd => rfl); (case hg => rfl); (case hr => first | (go_simp; done) | (go_simp; rfl))
             intro gb296 hg w44 hbox hb
             have n0_ := Aside0.mk (Kd.R_below (by (with_reducible repeat (first | apply Kd.R_alloc | apply Kd.R_drewN | apply Kd.R_drew)); exact HO283.out) hb)
             have n1_ := Aside0.mk (Kd.R_below (by (with_reducible repeat (first | apply Kd.R_alloc | apply Kd.R_drewN | apply Kd.R_drew)); exact HO286.out) hb)
             have n2_ := Aside0.mk (blk_belowB BK269.out (by (with_reducible repeat (first | refine blk_drewN ?_ _ | refine blk_drew ?_ | refine blk_alloc ?_ _)); exact BK269.out) hb)
             have n3_ := Aside0.mk (below_step (by repeat (first | (with_reducible first | exact HB.out | apply below_alloc | apply pw_below_drewN | apply below_drew1 | refine below_set ?_ GE269.out) | exact HB.out)) hb)
             have n4_ := Aside0.mk (hbox)
             have n5_ := Aside0.mk ((by rw [hg]; exact (below_size (by repeat (first | (with_reducible first | exact HB.out | apply below_alloc | apply pw_below_drewN | apply below_drew1 | refine below_set ?_ GE269.out) | exact HB.out))) : w.heap.size ≤ gb296))
             have n6_ := Aside0.mk ((by rw [hg]; exact (below_size (by repeat (first | (with_reducible first | exact HB.out | apply below_alloc | apply pw_below_drewN | apply below_drew1 | refine below_set ?_ GE269.out) | exact HB.out))) : w.heap.size ≤ gb296))
             have n7_ := Aside0.mk ((by rw [hg]; exact Nat.ne_of_lt (blk_lt (g := gb269) (o := .cells #[.string a0_0, .string a0_1, .string a0_2, .slice A0_3 l0_3.length c0_3, .slice A0_4 l0_4.length c0_4] 27 (0, 0)) (by (with_reducible repeat (first | refine blk_drewN ?_ _ | refine blk_drew ?_ | refine blk_alloc ?_ _)); exact BK269.out)) : gb269 ≠ gb296))
             have n8_ := Aside0.mk ((by rw [hg]; exact Nat.ne_of_gt (blk_lt (g := gb269) (o := .cells #[.string a0_0, .string a0_1, .string a0_2, .slice A0_3 l0_3.length c0_3, .slice A0_4 l0_4.length c0_4] 27 (0, 0)) (by (with_reducible repeat (first | refine blk_drewN ?_ _ | refine blk_drew ?_ | refine blk_alloc ?_ _)); exact BK269.out)) : gb296 ≠ gb269))
             clear HO283; clear HO286; clear BK269; clear HB
             have HO283 := n0_
             have HO286 := n1_
             have BK269 := n2_
             have HB := n3_
             have BK296 := n4_
             have GW296 := n5_
             have GE296 := n6_
             have NB269_296 := n7_
             have NB296_269 := n8_
             clear n0_ n1_ n2_ n3_ n4_ n5_ n6_ n7_ n8_; clear hb hbox hg
             refine hK.out _ _ ⟨(blk_cell BK269.out 0).trans rfl, (blk_cell BK269.out 1).trans rfl, (blk_cell BK269.out 2).trans rfl, (blk_cell BK269.out 3).trans rfl, (blk_cell BK269.out 4).trans rfl, ((HB.out.cell (World.block_lt_of_cell? w _ hw280_0)).trans hw280_0), ((HB.out.cell (World.block_lt_of_cell? w _ hw280_1)).trans hw280_1)⟩ (fun hHeld => ?_)
             clear hK K
             refine norm_ (a' := ?_) ?_ ?_
             rotate_left
             ·show Act.put _ (some 8) _ = _
              simp only [Act.put, List.setIfInBounds_toArray, List.set_cons_zero, List.set_cons_succ, i64_w, i32_w]
              rfl
             exact norm_ (by first | (simp only [putAll, Act.put, List.setIfInBounds_toArray, List.set_cons_zero, List.set_cons_succ]; done) | (simp only [putAll, Act.put, List.setIfInBounds_toArray, List.set_cons_zero, List.set_cons_succ]; rfl)) (hJ1_3_12_13_14_20 (v275, v278, v282, v285, gb296) _ ⟨hHeld, (by (with_reducible repeat (first | apply Kd.R_alloc | apply Kd.R_drewN | apply Kd.R_drew)); exact HO283.out), (by (with_reducible repeat (first | apply Kd.R_alloc | apply Kd.R_drewN | apply Kd.R_drew)); exact HO286.out), (by (with_reducible repeat (first | refine blk_drewN ?_ _ | refine blk_drew ?_ | refine blk_alloc ?_ _)); exact BK269.out), (by (with_reducible repeat (first | refine blk_drewN ?_ _ | refine blk_drew ?_ | refine blk_alloc ?_ _)); exact BK296.out), GW296.out, GE296.out, NB269_296.out, NB296_269.out, (by repeat (first | (with_reducible first | exact HB.out | apply below_alloc | apply pw_below_drewN | apply below_drew1 | refine below_set ?_ GE269.out | refine below_set ?_ GE296.out) | exact HB.out))⟩)
          ·skip
           rintro ⟨v275, v278, v282, v285, gb296⟩ w44 ⟨hS_, h0_, h1_, h2_, h3_, h4_, h5_, h6_, h7_, h8_⟩
           have n0_ : Aside0 (Kd.R k39 39 w44 w.heap.size (fun k_ => some k_ ≠ (v285 : Value).ownBlock) v282 y281) := ⟨h0_⟩
           have n1_ : Aside0 (Kd.R k39 39 w44 w.heap.size (fun k_ => some k_ ≠ (v282 : Value).ownBlock) v285 y284) := ⟨h1_⟩
           have n2_ : Aside0 (w44.heap[gb269]? = some (.cells #[.string a0_0, .string a0_1, .string a0_2, .slice A0_3 l0_3.length c0_3, .slice A0_4 l0_4.length c0_4] 27 (0, 0))) := ⟨h2_⟩
           have n3_ : Aside0 (w44.heap[gb296]? = some (.cells #[.string (⟨#[]⟩ : ByteArray), .string (⟨#[]⟩ : ByteArray), .string (⟨#[]⟩ : ByteArray), .string (⟨#[]⟩ : ByteArray), .string (⟨#[]⟩ : ByteArray), .string (⟨#[]⟩ : ByteArray)] 30 (0, 0))) := ⟨h3_⟩
           have n4_ : Aside0 (w.heap.size ≤ gb296) := ⟨h4_⟩
           have n5_ : Aside0 (w.heap.size ≤ gb296) := ⟨h5_⟩
           have n6_ : Aside0 (gb269 ≠ gb296) := ⟨h6_⟩
           have n7_ : Aside0 (gb296 ≠ gb269) := ⟨h7_⟩
           have n8_ : Aside0 (Below w.heap.size w w44) := ⟨h8_⟩
           clear BK269; clear HB; clear h0_ h1_ h2_ h3_ h4_ h5_ h6_ h7_ h8_
           have HO283 := n0_
           have HO286 := n1_
           have BK269 := n2_
           have BK296 := n3_
           have GW296 := n4_
           have GE296 := n5_
           have NB269_296 := n6_
           have NB296_269 := n7_
           have HB := n8_
           clear n0_ n1_ n2_ n3_ n4_ n5_ n6_ n7_ n8_
           have hHeld : w44.cell? ⟨gb269, 0, none⟩ = some (.string a0_0) ∧ w44.cell? ⟨gb269, 1, none⟩ = some (.string a0_1) ∧ w44.cell? ⟨gb269, 2, none⟩ = some (.string a0_2) ∧ w44.cell? ⟨gb269, 3, none⟩ = some (.slice A0_3 l0_3.length c0_3) ∧ w44.cell? ⟨gb269, 4, none⟩ = some (.slice A0_4 l0_4.length c0_4) ∧ w44.cell? (ad280.add (((ji23)).toNat * 2)) = some (.string ((rd_T39 l1 (ji23)).f0)) ∧ w44.cell? ⟨(ad280.add (((ji23)).toNat * 2)).block, (ad280.add (((ji23)).toNat * 2)).off + 1, none⟩ = some (.string ((rd_T39 l1 (ji23)).f1)) := hS_
           refine norm_ (a' := ?_) ?_ ?_
           rotate_left
           ·simp only [putAll, Act.put, List.setIfInBounds_toArray, List.set_cons_zero, List.set_cons_succ]
            rfl
           refine one_ (i := 15) (N := some 63) #[true, true, true, true, true, true, true, true, true, true, true, true, true, true, true, true, false, false, false, false, true, false, false, false] rfl rfl (one_of HT_.out (by kernel_rfl)) (by decide) (fun K hK => ?_)
           refine goes_ Tryd.func8 (by kernel_rfl) rfl #[.agg #[.string a0_0, .string a0_1, .string a0_2, .slice A0_3 l0_3.length c0_3, .slice A0_4 l0_4.length c0_4], .string t287] (by rfl) rfl rfl (by (try simp only [List.map_toArray, List.map_cons, List.map_nil]); first | done | rfl | (simp only [List.length_drop, List.length_take]; rfl)) ?_
           with_reducible refine (ask_Check.calls a0_0 a0_1 a0_2 _ _ l0_3 _ _ l0_4 t287 t288 t289 t290 t291 t292 t293 t294 t295 _ ?side1 ?side2 ?side3 ?side4 A28.out (hG := GOK.below hG (by repeat (first | (with_reducible first | exact HB.out | apply below_alloc | apply pw_below_drewN | apply below_drew1 | refine below_set ?_ GE269.out | refine below_set ?_ GE296.out) | exact HB.out)))).mono ?_
           (case side1 => repeat (first | exact (Kd.C_below HR0_3.out HB.out) | (with_reducible refine Kd.C_alloc ?_ _) | (with_reducible refine Kd.C_drewN ?_ _) | (with_reducible refine Kd.C_drew ?_)))
           (case side2 => exact HC0_3.out)
           (case side3 => repeat (first | exact (Kd.C_below HR0_4.out HB.out) | (with_reducible refine Kd.C_alloc ?_ _) | (with_reducible refine Kd.C_drewN ?_ _) | (with_reducible refine Kd.C_drew ?_)))
           (case side4 => exact HC0_4.out)
           rintro e w45 ⟨rfl, hb⟩
           refine ⟨_, rfl, ?_⟩
           have n0_ := Aside0.mk (Kd.R_below (by (with_reducible repeat (first | apply Kd.R_alloc | apply Kd.R_drewN | apply Kd.R_drew)); exact HO283.out) hb)
           have n1_ := Aside0.mk (Kd.R_below (by (with_reducible repeat (first | apply Kd.R_alloc | apply Kd.R_drewN | apply Kd.R_drew)); exact HO286.out) hb)
           have n2_ := Aside0.mk (blk_belowB BK269.out (by (with_reducible repeat (first | refine blk_drewN ?_ _ | refine blk_drew ?_ | refine blk_alloc ?_ _)); exact BK269.out) hb)
           have n3_ := Aside0.mk (blk_belowB BK296.out (by (with_reducible repeat (first | refine blk_drewN ?_ _ | refine blk_drew ?_ | refine blk_alloc ?_ _)); exact BK296.out) hb)
           have n4_ := Aside0.mk (below_step (by repeat (first | (with_reducible first | exact HB.out | apply below_alloc | apply pw_below_drewN | apply below_drew1 | refine below_set ?_ GE269.out | refine below_set ?_ GE296.out) | exact HB.out)) hb)
           clear HO283; clear HO286; clear BK269; clear BK296; clear HB
           have HO283 := n0_
           have HO286 := n1_
           have BK269 := n2_
           have BK296 := n3_
           have HB := n4_
           clear n0_ n1_ n2_ n3_ n4_; (try clear hb); (try clear hb2); (try clear hk); (try clear hi)
           refine hK.out _ _ ⟨(blk_cell BK269.out 0).trans rfl, (blk_cell BK269.out 1).trans rfl, (blk_cell BK269.out 2).trans rfl, (blk_cell BK269.out 3).trans rfl, (blk_cell BK269.out 4).trans rfl, ((HB.out.cell (World.block_lt_of_cell? w _ hw280_0)).trans hw280_0), ((HB.out.cell (World.block_lt_of_cell? w _ hw280_1)).trans hw280_1)⟩ (fun hHeld => ?_)
           clear hK K
           refine norm_ (a' := ?_) ?_ ?_
           rotate_left
           ·show Act.put _ (some 63) _ = _
            simp only [Act.put, List.setIfInBounds_toArray, List.set_cons_zero, List.set_cons_succ, i64_w, i32_w]
            rfl
           refine pure_ (i := 16) (N := some 47) (v := ?_) (a' := ?_) #[true, true, true, true, true, true, true, true, true, true, true, true, true, true, true, true, true, false, false, false, true, false, false, false] rfl rfl (any_of HT_.out (by kernel_rfl)) (fun _ _ _ h => h) (Or.inl ⟨by rfl, ?_⟩) ?_ ?_
           rotate_left
           ·intro w'
            go_simp
            with_reducible rfl
           rotate_left
           ·simp only [Act.put, List.setIfInBounds_toArray, List.set_cons_zero, List.set_cons_succ, i64_w, i32_w]
            rfl
           refine pure_ (i := 17) (N := some 64) (v := ?_) (a' := ?_) #[true, true, true, true, true, true, true, true, true, true, true, true, true, true, true, true, true, true, false, false, true, false, false, false] rfl rfl (any_of HT_.out (by kernel_rfl)) (fun _ _ _ h => h) (Or.inl ⟨by rfl, ?_⟩) ?_ ?_
           rotate_left
           ·intro w'
            go_simp
            with_reducible rfl
           rotate_left
           ·simp only [Act.put, List.setIfInBounds_toArray, List.set_cons_zero, List.set_cons_succ, i64_w, i32_w]
            rfl
           refine pure_ (i := 18) (N := some 65) (v := ?_) (a' := ?_) #[true, true, true, true, true, true, true, true, true, true, true, true, true, true, true, true, true, true, true, false, true, false, false, false] rfl rfl (any_of HT_.out (by kernel_rfl)) (fun _ _ _ h => h) (Or.inl ⟨by rfl, ?_⟩) ?_ ?_
           rotate_left
           ·intro w'
            go_simp
            with_reducible rfl
           rotate_left
           ·simp only [Act.put, List.setIfInBounds_toArray, List.set_cons_zero, List.set_cons_succ, i64_w, i32_w]
            rfl
           refine pure_ (i := 19) (N := some 66) (v := ?_) (a' := ?_) #[true, true, true, true, true, true, true, true, true, true, true, true, true, true, true, true, true, true, true, true, true, false, false, false] rfl rfl (any_of HT_.out (by kernel_rfl)) (fun _ _ _ h => h) (Or.inl ⟨by rfl, ?_⟩) ?_ ?_
           rotate_left
           ·intro w'
            go_simp
            with_reducible rfl
           rotate_left
           ·simp only [Act.put, List.setIfInBounds_toArray, List.set_cons_zero, List.set_cons_succ, i64_w, i32_w]
            rfl
           exact norm_ (by first | (simp only [putAll, Act.put, List.setIfInBounds_toArray, List.set_cons_zero, List.set_cons_succ]; done) | (simp only [putAll, Act.put, List.setIfInBounds_toArray, List.set_cons_zero, List.set_cons_succ]; rfl)) (hJ1_3_12_13_14_15_20 (v275, v278, v282, v285, gb296) _ ⟨hHeld, (by (with_reducible repeat (first | apply Kd.R_alloc | apply Kd.R_drewN | apply Kd.R_drew)); exact HO283.out), (by (with_reducible repeat (first | apply Kd.R_alloc | apply Kd.R_drewN | apply Kd.R_drew)); exact HO286.out), (by (with_reducible repeat (first | refine blk_drewN ?_ _ | refine blk_drew ?_ | refine blk_alloc ?_ _)); exact BK269.out), (by (with_reducible repeat (first | refine blk_drewN ?_ _ | refine blk_drew ?_ | refine blk_alloc ?_ _)); exact BK296.out), GW296.out, GE296.out, NB269_296.out, NB296_269.out, (by repeat (first | (with_reducible first | exact HB.out | apply below_alloc | apply pw_below_drewN | apply below_drew1 | refine below_set ?_ GE269.out | refine below_set ?_ GE296.out) | exact HB.out))⟩)
         ·skip
          rintro ⟨v275, v278, v282, v285⟩ w44 ⟨hS_, h0_, h1_, h2_, h3_⟩
          have n0_ : Aside0 (Kd.R k39 39 w44 w.heap.size (fun k_ => some k_ ≠ (v285 : Value).ownBlock) v282 y281) := ⟨h0_⟩
          have n1_ : Aside0 (Kd.R k39 39 w44 w.heap.size (fun k_ => some k_ ≠ (v282 : Value).ownBlock) v285 y284) := ⟨h1_⟩
          have n2_ : Aside0 (w44.heap[gb269]? = some (.cells #[.string a0_0, .string a0_1, .string a0_2, .slice A0_3 l0_3.length c0_3, .slice A0_4 l0_4.length c0_4] 27 (0, 0))) := ⟨h2_⟩
          have n3_ : Aside0 (Below w.heap.size w w44) := ⟨h3_⟩
          clear BK269; clear HB; clear h0_ h1_ h2_ h3_
          have HO283 := n0_
          have HO286 := n1_
          have BK269 := n2_
          have HB := n3_
          clear n0_ n1_ n2_ n3_
          have hHeld : w44.cell? ⟨gb269, 0, none⟩ = some (.string a0_0) ∧ w44.cell? ⟨gb269, 1, none⟩ = some (.string a0_1) ∧ w44.cell? ⟨gb269, 2, none⟩ = some (.string a0_2) ∧ w44.cell? ⟨gb269, 3, none⟩ = some (.slice A0_3 l0_3.length c0_3) ∧ w44.cell? ⟨gb269, 4, none⟩ = some (.slice A0_4 l0_4.length c0_4) ∧ w44.cell? (ad280.add (((ji23)).toNat * 2)) = some (.string ((rd_T39 l1 (ji23)).f0)) ∧ w44.cell? ⟨(ad280.add (((ji23)).toNat * 2)).block, (ad280.add (((ji23)).toNat * 2)).off + 1, none⟩ = some (.string ((rd_T39 l1 (ji23)).f1)) := hS_
          refine norm_ (a' := ?_) ?_ ?_
          rotate_left
          ·simp only [putAll, Act.put, List.setIfInBounds_toArray, List.set_cons_zero, List.set_cons_succ]
           rfl
          refine one_ (i := 20) (N := some 8) #[true, true, true, true, true, true, true, true, true, true, true, true, true, true, true, true, true, true, true, true, true, false, false, false] rfl rfl (one_of HT_.out (by kernel_rfl)) (by decide) (fun K hK => ?_)
          refine box_step ?hg (N := 8) ?hd (cs := #[.string (⟨#[]⟩ : ByteArray), .string (⟨#[]⟩ : ByteArray), .string (⟨#[]⟩ : ByteArray), .string (⟨#[]⟩ : ByteArray), .string (⟨#[]⟩ : ByteArray), .string (⟨#[]⟩ : ByteArray)]) (t := 30) ?hr ?_; (case hd => rfl); (case hg => rfl); (case hr => first | (go_simp; done) | (go_simp; rfl))
          intro gb296 hg w45 hbox hb
          have n0_ := Aside0.mk (Kd.R_below (by (with_reducible repeat (first | apply Kd.R_alloc | apply Kd.R_drewN | apply Kd.R_drew)); exact HO283.out) hb)
          have n1_ := Aside0.mk (Kd.R_below (by (with_reducible repeat (first | apply Kd.R_alloc | apply Kd.R_drewN | apply Kd.R_drew)); exact HO286.out) hb)
          have n2_ := Aside0.mk (blk_belowB BK269.out (by (with_reducible repeat (first | refine blk_drewN ?_ _ | refine blk_drew ?_ | refine blk_alloc ?_ _)); exact BK269.out) hb)
          have n3_ := Aside0.mk (below_step (by repeat (first | (with_reducible first | exact HB.out | apply below_alloc | apply pw_below_drewN | apply below_drew1 | refine below_set ?_ GE269.out) | exact HB.out)) hb)
          have n4_ := Aside0.mk (hbox)
          have n5_ := Aside0.mk ((by rw [hg]; exact (below_size (by repeat (first | (with_reducible first | exact HB.out | apply below_alloc | apply pw_below_drewN | apply below_drew1 | refine below_set ?_ GE269.out) | exact HB.out))) : w.heap.size ≤ gb296))
          have n6_ := Aside0.mk ((by rw [hg]; exact (below_size (by repeat (first | (with_reducible first | exact HB.out | apply below_alloc | apply pw_below_drewN | apply below_drew1 | refine below_set ?_ GE269.out) | exact HB.out))) : w.heap.size ≤ gb296))
          have n7_ := Aside0.mk ((by rw [hg]; exact Nat.ne_of_lt (blk_lt (g := gb269) (o := .cells #[.string a0_0, .string a0_1, .string a0_2, .slice A0_3 l0_3.length c0_3, .slice A0_4 l0_4.length c0_4] 27 (0, 0)) (by (with_reducible repeat (first | refine blk_drewN ?_ _ | refine blk_drew ?_ | refine blk_alloc ?_ _)); exact BK269.out)) : gb269 ≠ gb296))
          have n8_ := Aside0.mk ((by rw [hg]; exact Nat.ne_of_gt (blk_lt (g := gb269) (o := .cells #[.string a0_0, .string a0_1, .string a0_2, .slice A0_3 l0_3.length c0_3, .slice A0_4 l0_4.length c0_4] 27 (0, 0)) (by (with_reducible repeat (first | refine blk_drewN ?_ _ | refine blk_drew ?_ | refine blk_alloc ?_ _)); exact BK269.out)) : gb296 ≠ gb269))
          clear HO283; clear HO286; clear BK269; clear HB
          have HO283 := n0_
          have HO286 := n1_
          have BK269 := n2_
          have HB := n3_
          have BK296 := n4_
          have GW296 := n5_
          have GE296 := n6_
          have NB269_296 := n7_
          have NB296_269 := n8_
          clear n0_ n1_ n2_ n3_ n4_ n5_ n6_ n7_ n8_; clear hb hbox hg
          refine hK.out _ _ ⟨(blk_cell BK269.out 0).trans rfl, (blk_cell BK269.out 1).trans rfl, (blk_cell BK269.out 2).trans rfl, (blk_cell BK269.out 3).trans rfl, (blk_cell BK269.out 4).trans rfl, ((HB.out.cell (World.block_lt_of_cell? w _ hw280_0)).trans hw280_0), ((HB.out.cell (World.block_lt_of_cell? w _ hw280_1)).trans hw280_1)⟩ (fun hHeld => ?_)
          clear hK K
          refine norm_ (a' := ?_) ?_ ?_
          rotate_left
          ·show Act.put _ (some 8) _ = _
           simp only [Act.put, List.setIfInBounds_toArray, List.set_cons_zero, List.set_cons_succ, i64_w, i32_w]
           rfl
          exact norm_ (by first | (simp only [putAll, Act.put, List.setIfInBounds_toArray, List.set_cons_zero, List.set_cons_succ]; done) | (simp only [putAll, Act.put, List.setIfInBounds_toArray, List.set_cons_zero, List.set_cons_succ]; rfl)) (hJ1_3_12_13_14_15_20 (v275, v278, v282, v285, gb296) _ ⟨hHeld, (by (with_reducible repeat (first | apply Kd.R_alloc | apply Kd.R_drewN | apply Kd.R_drew)); exact HO283.out), (by (with_reducible repeat (first | apply Kd.R_alloc | apply Kd.R_drewN | apply Kd.R_drew)); exact HO286.out), (by (with_reducible repeat (first | refine blk_drewN ?_ _ | refine blk_drew ?_ | refine blk_alloc ?_ _)); exact BK269.out), (by (with_reducible repeat (first | refine blk_drewN ?_ _ | refine blk_drew ?_ | refine blk_alloc ?_ _)); exact BK296.out), GW296.out, GE296.out, NB269_296.out, NB296_269.out, (by repeat (first | (with_reducible first | exact HB.out | apply below_alloc | apply pw_below_drewN | apply below_drew1 | refine below_set ?_ GE269.out | refine below_set ?_ GE296.out) | exact HB.out))⟩)
        rintro ⟨v275, v278, v282, v285, gb296⟩ w45 ⟨hS_, h0_, h1_, h2_, h3_, h4_, h5_, h6_, h7_, h8_⟩
        have n0_ : Aside0 (Kd.R k39 39 w45 w.heap.size (fun k_ => some k_ ≠ (v285 : Value).ownBlock) v282 y281) := ⟨h0_⟩
        have n1_ : Aside0 (Kd.R k39 39 w45 w.heap.size (fun k_ => some k_ ≠ (v282 : Value).ownBlock) v285 y284) := ⟨h1_⟩
        have n2_ : Aside0 (w45.heap[gb269]? = some (.cells #[.string a0_0, .string a0_1, .string a0_2, .slice A0_3 l0_3.length c0_3, .slice A0_4 l0_4.length c0_4] 27 (0, 0))) := ⟨h2_⟩
        have n3_ : Aside0 (w45.heap[gb296]? = some (.cells #[.string (⟨#[]⟩ : ByteArray), .string (⟨#[]⟩ : ByteArray), .string (⟨#[]⟩ : ByteArray), .string (⟨#[]⟩ : ByteArray), .string (⟨#[]⟩ : ByteArray), .string (⟨#[]⟩ : ByteArray)] 30 (0, 0))) := ⟨h3_⟩
        have n4_ : Aside0 (w.heap.size ≤ gb296) := ⟨h4_⟩
        have n5_ : Aside0 (w.heap.size ≤ gb296) := ⟨h5_⟩
        have n6_ : Aside0 (gb269 ≠ gb296) := ⟨h6_⟩
        have n7_ : Aside0 (gb296 ≠ gb269) := ⟨h7_⟩
        have n8_ : Aside0 (Below w.heap.size w w45) := ⟨h8_⟩
        clear BK269; clear HB; clear h0_ h1_ h2_ h3_ h4_ h5_ h6_ h7_ h8_
        have HO283 := n0_
        have HO286 := n1_
        have BK269 := n2_
        have BK296 := n3_
        have GW296 := n4_
        have GE296 := n5_
        have NB269_296 := n6_
        have NB296_269 := n7_
        have HB := n8_
        clear n0_ n1_ n2_ n3_ n4_ n5_ n6_ n7_ n8_
        have hHeld : w45.cell? ⟨gb269, 0, none⟩ = some (.string a0_0) ∧ w45.cell? ⟨gb269, 1, none⟩ = some (.string a0_1) ∧ w45.cell? ⟨gb269, 2, none⟩ = some (.string a0_2) ∧ w45.cell? ⟨gb269, 3, none⟩ = some (.slice A0_3 l0_3.length c0_3) ∧ w45.cell? ⟨gb269, 4, none⟩ = some (.slice A0_4 l0_4.length c0_4) ∧ w45.cell? (ad280.add (((ji23)).toNat * 2)) = some (.string ((rd_T39 l1 (ji23)).f0)) ∧ w45.cell? ⟨(ad280.add (((ji23)).toNat * 2)).block, (ad280.add (((ji23)).toNat * 2)).off + 1, none⟩ = some (.string ((rd_T39 l1 (ji23)).f1)) := hS_
        refine norm_ (a' := ?_) ?_ ?_
        rotate_left
        ·simp only [putAll, Act.put, List.setIfInBounds_toArray, List.set_cons_zero, List.set_cons_succ]
         rfl
        refine one_ (i := 21) (N := none) #[true, true, true, true, true, true, true, true, true, true, true, true, true, true, true, true, true, true, true, true, true, true, false, false] rfl rfl (one_of HT_.out (by kernel_rfl)) (by decide) (fun K hK => ?_)
        have hs46 : w45.cell? ⟨gb296, 0, none⟩ = some (.string (⟨#[]⟩ : ByteArray)) := (blk_cell BK296.out 0).trans rfl
        have hfs46 := blk_frozen BK296.out 0
        have hns46_0 := NB269_296.out
        have hms46_0 := NB296_269.out
        have hs47 : w45.cell? ⟨gb296, 1, none⟩ = some (.string (⟨#[]⟩ : ByteArray)) := (blk_cell BK296.out 1).trans rfl
        have hfs47 := blk_frozen BK296.out 1
        have hns47_0 := NB269_296.out
        have hms47_0 := NB296_269.out
        have hs48 : w45.cell? ⟨gb296, 2, none⟩ = some (.string (⟨#[]⟩ : ByteArray)) := (blk_cell BK296.out 2).trans rfl
        have hfs48 := blk_frozen BK296.out 2
        have hns48_0 := NB269_296.out
        have hms48_0 := NB296_269.out
        have hs49 : w45.cell? ⟨gb296, 3, none⟩ = some (.string (⟨#[]⟩ : ByteArray)) := (blk_cell BK296.out 3).trans rfl
        have hfs49 := blk_frozen BK296.out 3
        have hns49_0 := NB269_296.out
        have hms49_0 := NB296_269.out
        have hs50 : w45.cell? ⟨gb296, 4, none⟩ = some (.string (⟨#[]⟩ : ByteArray)) := (blk_cell BK296.out 4).trans rfl
        have hfs50 := blk_frozen BK296.out 4
        have hns50_0 := NB269_296.out
        have hms50_0 := NB296_269.out
        have hs51 : w45.cell? ⟨gb296, 5, none⟩ = some (.string (⟨#[]⟩ : ByteArray)) := (blk_cell BK296.out 5).trans rfl
        have hfs51 := blk_frozen BK296.out 5
        have hns51_0 := NB269_296.out
        have hms51_0 := NB296_269.out
        refine skip_ (w1 := ?_) (by rfl) rfl ?_ ?_
        rotate_left
        ·go_simp
         rfl
        refine hK.out _ _ ⟨((cell_far (p := ⟨gb296, _, none⟩) NB269_296.out _).trans (((cell_far (p := ⟨gb296, _, none⟩) NB269_296.out _).trans (((cell_far (p := ⟨gb296, _, none⟩) NB269_296.out _).trans (((cell_far (p := ⟨gb296, _, none⟩) NB269_296.out _).trans (((cell_far (p := ⟨gb296, _, none⟩) NB269_296.out _).trans (((cell_far (p := ⟨gb296, _, none⟩) NB269_296.out _).trans (hHeld.1)))))))))))), ((cell_far (p := ⟨gb296, _, none⟩) NB269_296.out _).trans (((cell_far (p := ⟨gb296, _, none⟩) NB269_296.out _).trans (((cell_far (p := ⟨gb296, _, none⟩) NB269_296.out _).trans (((cell_far (p := ⟨gb296, _, none⟩) NB269_296.out _).trans (((cell_far (p := ⟨gb296, _, none⟩) NB269_296.out _).trans (((cell_far (p := ⟨gb296, _, none⟩) NB269_296.out _).trans (hHeld.2.1)))))))))))), ((cell_far (p := ⟨gb296, _, none⟩) NB269_296.out _).trans (((cell_far (p := ⟨gb296, _, none⟩) NB269_296.out _).trans (((cell_far (p := ⟨gb296, _, none⟩) NB269_296.out _).trans (((cell_far (p := ⟨gb296, _, none⟩) NB269_296.out _).trans (((cell_far (p := ⟨gb296, _, none⟩) NB269_296.out _).trans (((cell_far (p := ⟨gb296, _, none⟩) NB269_296.out _).trans (hHeld.2.2.1)))))))))))), ((cell_far (p := ⟨gb296, _, none⟩) NB269_296.out _).trans (((cell_far (p := ⟨gb296, _, none⟩) NB269_296.out _).trans (((cell_far (p := ⟨gb296, _, none⟩) NB269_296.out _).trans (((cell_far (p := ⟨gb296, _, none⟩) NB269_296.out _).trans (((cell_far (p := ⟨gb296, _, none⟩) NB269_296.out _).trans (((cell_far (p := ⟨gb296, _, none⟩) NB269_296.out _).trans (hHeld.2.2.2.1)))))))))))), ((cell_far (p := ⟨gb296, _, none⟩) NB269_296.out _).trans (((cell_far (p := ⟨gb296, _, none⟩) NB269_296.out _).trans (((cell_far (p := ⟨gb296, _, none⟩) NB269_296.out _).trans (((cell_far (p := ⟨gb296, _, none⟩) NB269_296.out _).trans (((cell_far (p := ⟨gb296, _, none⟩) NB269_296.out _).trans (((cell_far (p := ⟨gb296, _, none⟩) NB269_296.out _).trans (hHeld.2.2.2.2.1)))))))))))), ((cell_far (p := ⟨gb296, _, none⟩) (by first | exact Nat.ne_of_lt (Nat.lt_of_lt_of_le (by have := World.block_lt_of_cell? _ _ hw280_0; first | rwa [add_block] at this | exact this) GW296.out) | (rw [add_block]; exact Nat.ne_of_lt (Nat.lt_of_lt_of_le (by have := World.block_lt_of_cell? _ _ hw280_0; first | rwa [add_block] at this | exact this) GW296.out)) | (show (Addr.add _ _).block ≠ _; rw [add_block]; exact Nat.ne_of_lt (Nat.lt_of_lt_of_le (by have := World.block_lt_of_cell? _ _ hw280_0; first | rwa [add_block] at this | exact this) GW296.out)) | (dsimp only; exact Nat.ne_of_lt (Nat.lt_of_lt_of_le (by have := World.block_lt_of_cell? _ _ hw280_0; first | rwa [add_block] at this | exact this) GW296.out))) _).trans (((cell_far (p := ⟨gb296, _, none⟩) (by first | exact Nat.ne_of_lt (Nat.lt_of_lt_of_le (by have := World.block_lt_of_cell? _ _ hw280_0; first | rwa [add_block] at this | exact this) GW296.out) | (rw [add_block]; exact Nat.ne_of_lt (Nat.lt_of_lt_of_le (by have := World.block_lt_of_cell? _ _ hw280_0; first | rwa [add_block] at this | exact this) GW296.out)) | (show (Addr.add _ _).block ≠ _; rw [add_block]; exact Nat.ne_of_lt (Nat.lt_of_lt_of_le (by have := World.block_lt_of_cell? _ _ hw280_0; first | rwa [add_block] at this | exact this) GW296.out)) | (dsimp only; exact Nat.ne_of_lt (Nat.lt_of_lt_of_le (by have := World.block_lt_of_cell? _ _ hw280_0; first | rwa [add_block] at this | exact this) GW296.out))) _).trans (((cell_far (p := ⟨gb296, _, none⟩) (by first | exact Nat.ne_of_lt (Nat.lt_of_lt_of_le (by have := World.block_lt_of_cell? _ _ hw280_0; first | rwa [add_block] at this | exact this) GW296.out) | (rw [add_block]; exact Nat.ne_of_lt (Nat.lt_of_lt_of_le (by have := World.block_lt_of_cell? _ _ hw280_0; first | rwa [add_block] at this | exact this) GW296.out)) | (show (Addr.add _ _).block ≠ _; rw [add_block]; exact Nat.ne_of_lt (Nat.lt_of_lt_of_le (by have := World.block_lt_of_cell? _ _ hw280_0; first | rwa [add_block] at this | exact this) GW296.out)) | (dsimp only; exact Nat.ne_of_lt (Nat.lt_of_lt_of_le (by have := World.block_lt_of_cell? _ _ hw280_0; first | rwa [add_block] at this | exact this) GW296.out))) _).trans (((cell_far (p := ⟨gb296, _, none⟩) (by first | exact Nat.ne_of_lt (Nat.lt_of_lt_of_le (by have := World.block_lt_of_cell? _ _ hw280_0; first | rwa [add_block] at this | exact this) GW296.out) | (rw [add_block]; exact Nat.ne_of_lt (Nat.lt_of_lt_of_le (by have := World.block_lt_of_cell? _ _ hw280_0; first | rwa [add_block] at this | exact this) GW296.out)) | (show (Addr.add _ _).block ≠ _; rw [add_block]; exact Nat.ne_of_lt (Nat.lt_of_lt_of_le (by have := World.block_lt_of_cell? _ _ hw280_0; first | rwa [add_block] at this | exact this) GW296.out)) | (dsimp only; exact Nat.ne_of_lt (Nat.lt_of_lt_of_le (by have := World.block_lt_of_cell? _ _ hw280_0; first | rwa [add_block] at this | exact this) GW296.out))) _).trans (((cell_far (p := ⟨gb296, _, none⟩) (by first | exact Nat.ne_of_lt (Nat.lt_of_lt_of_le (by have := World.block_lt_of_cell? _ _ hw280_0; first | rwa [add_block] at this | exact this) GW296.out) | (rw [add_block]; exact Nat.ne_of_lt (Nat.lt_of_lt_of_le (by have := World.block_lt_of_cell? _ _ hw280_0; first | rwa [add_block] at this | exact this) GW296.out)) | (show (Addr.add _ _).block ≠ _; rw [add_block]; exact Nat.ne_of_lt (Nat.lt_of_lt_of_le (by have := World.block_lt_of_cell? _ _ hw280_0; first | rwa [add_block] at this | exact this) GW296.out)) | (dsimp only; exact Nat.ne_of_lt (Nat.lt_of_lt_of_le (by have := World.block_lt_of_cell? _ _ hw280_0; first | rwa [add_block] at this | exact this) GW296.out))) _).trans (((cell_far (p := ⟨gb296, _, none⟩) (by first | exact Nat.ne_of_lt (Nat.lt_of_lt_of_le (by have := World.block_lt_of_cell? _ _ hw280_0; first | rwa [add_block] at this | exact this) GW296.out) | (rw [add_block]; exact Nat.ne_of_lt (Nat.lt_of_lt_of_le (by have := World.block_lt_of_cell? _ _ hw280_0; first | rwa [add_block] at this | exact this) GW296.out)) | (show (Addr.add _ _).block ≠ _; rw [add_block]; exact Nat.ne_of_lt (Nat.lt_of_lt_of_le (by have := World.block_lt_of_cell? _ _ hw280_0; first | rwa [add_block] at this | exact this) GW296.out)) | (dsimp only; exact Nat.ne_of_lt (Nat.lt_of_lt_of_le (by have := World.block_lt_of_cell? _ _ hw280_0; first | rwa [add_block] at this | exact this) GW296.out))) _).trans (hHeld.2.2.2.2.2.1)))))))))))), ((cell_far (p := ⟨gb296, _, none⟩) (by first | exact Nat.ne_of_lt (Nat.lt_of_lt_of_le (by have := World.block_lt_of_cell? _ _ hw280_1; first | rwa [add_block] at this | exact this) GW296.out) | (rw [add_block]; exact Nat.ne_of_lt (Nat.lt_of_lt_of_le (by have := World.block_lt_of_cell? _ _ hw280_1; first | rwa [add_block] at this | exact this) GW296.out)) | (show (Addr.add _ _).block ≠ _; rw [add_block]; exact Nat.ne_of_lt (Nat.lt_of_lt_of_le (by have := World.block_lt_of_cell? _ _ hw280_1; first | rwa [add_block] at this | exact this) GW296.out)) | (dsimp only; exact Nat.ne_of_lt (Nat.lt_of_lt_of_le (by have := World.block_lt_of_cell? _ _ hw280_1; first | rwa [add_block] at this | exact this) GW296.out))) _).trans (((cell_far (p := ⟨gb296, _, none⟩) (by first | exact Nat.ne_of_lt (Nat.lt_of_lt_of_le (by have := World.block_lt_of_cell? _ _ hw280_1; first | rwa [add_block] at this | exact this) GW296.out) | (rw [add_block]; exact Nat.ne_of_lt (Nat.lt_of_lt_of_le (by have := World.block_lt_of_cell? _ _ hw280_1; first | rwa [add_block] at this | exact this) GW296.out)) | (show (Addr.add _ _).block ≠ _; rw [add_block]; exact Nat.ne_of_lt (Nat.lt_of_lt_of_le (by have := World.block_lt_of_cell? _ _ hw280_1; first | rwa [add_block] at this | exact this) GW296.out)) | (dsimp only; exact Nat.ne_of_lt (Nat.lt_of_lt_of_le (by have := World.block_lt_of_cell? _ _ hw280_1; first | rwa [add_block] at this | exact this) GW296.out))) _).trans (((cell_far (p := ⟨gb296, _, none⟩) (by first | exact Nat.ne_of_lt (Nat.lt_of_lt_of_le (by have := World.block_lt_of_cell? _ _ hw280_1; first | rwa [add_block] at this | exact this) GW296.out) | (rw [add_block]; exact Nat.ne_of_lt (Nat.lt_of_lt_of_le (by have := World.block_lt_of_cell? _ _ hw280_1; first | rwa [add_block] at this | exact this) GW296.out)) | (show (Addr.add _ _).block ≠ _; rw [add_block]; exact Nat.ne_of_lt (Nat.lt_of_lt_of_le (by have := World.block_lt_of_cell? _ _ hw280_1; first | rwa [add_block] at this | exact this) GW296.out)) | (dsimp only; exact Nat.ne_of_lt (Nat.lt_of_lt_of_le (by have := World.block_lt_of_cell? _ _ hw280_1; first | rwa [add_block] at this | exact this) GW296.out))) _).trans (((cell_far (p := ⟨gb296, _, none⟩) (by first | exact Nat.ne_of_lt (Nat.lt_of_lt_of_le (by have := World.block_lt_of_cell? _ _ hw280_1; first | rwa [add_block] at this | exact this) GW296.out) | (rw [add_block]; exact Nat.ne_of_lt (Nat.lt_of_lt_of_le (by have := World.block_lt_of_cell? _ _ hw280_1; first | rwa [add_block] at this | exact this) GW296.out)) | (show (Addr.add _ _).block ≠ _; rw [add_block]; exact Nat.ne_of_lt (Nat.lt_of_lt_of_le (by have := World.block_lt_of_cell? _ _ hw280_1; first | rwa [add_block] at this | exact this) GW296.out)) | (dsimp only; exact Nat.ne_of_lt (Nat.lt_of_lt_of_le (by have := World.block_lt_of_cell? _ _ hw280_1; first | rwa [add_block] at this | exact this) GW296.out))) _).trans (((cell_far (p := ⟨gb296, _, none⟩) (by first | exact Nat.ne_of_lt (Nat.lt_of_lt_of_le (by have := World.block_lt_of_cell? _ _ hw280_1; first | rwa [add_block] at this | exact this) GW296.out) | (rw [add_block]; exact Nat.ne_of_lt (Nat.lt_of_lt_of_le (by have := World.block_lt_of_cell? _ _ hw280_1; first | rwa [add_block] at this | exact this) GW296.out)) | (show (Addr.add _ _).block ≠ _; rw [add_block]; exact Nat.ne_of_lt (Nat.lt_of_lt_of_le (by have := World.block_lt_of_cell? _ _ hw280_1; first | rwa [add_block] at this | exact this) GW296.out)) | (dsimp only; exact Nat.ne_of_lt (Nat.lt_of_lt_of_le (by have := World.block_lt_of_cell? _ _ hw280_1; first | rwa [add_block] at this | exact this) GW296.out))) _).trans (((cell_far (p := ⟨gb296, _, none⟩) (by first | exact Nat.ne_of_lt (Nat.lt_of_lt_of_le (by have := World.block_lt_of_cell? _ _ hw280_1; first | rwa [add_block] at this | exact this) GW296.out) | (rw [add_block]; exact Nat.ne_of_lt (Nat.lt_of_lt_of_le (by have := World.block_lt_of_cell? _ _ hw280_1; first | rwa [add_block] at this | exact this) GW296.out)) | (show (Addr.add _ _).block ≠ _; rw [add_block]; exact Nat.ne_of_lt (Nat.lt_of_lt_of_le (by have := World.block_lt_of_cell? _ _ hw280_1; first | rwa [add_block] at this | exact this) GW296.out)) | (dsimp only; exact Nat.ne_of_lt (Nat.lt_of_lt_of_le (by have := World.block_lt_of_cell? _ _ hw280_1; first | rwa [add_block] at this | exact this) GW296.out))) _).trans (hHeld.2.2.2.2.2.2))))))))))))⟩ (fun hHeld => ?_)
        clear hK K
        refine pure_ (i := 22) (N := some 9) (v := ?_) (a' := ?_) #[true, true, true, true, true, true, true, true, true, true, true, true, true, true, true, true, true, true, true, true, true, true, true, false] rfl rfl (any_of HT_.out (by kernel_rfl)) (fun _ _ _ h => h) (Or.inl ⟨by rfl, ?_⟩) ?_ ?_
        rotate_left
        ·intro w'
         go_simp
         with_reducible rfl
        rotate_left
        ·simp only [Act.put, List.setIfInBounds_toArray, List.set_cons_zero, List.set_cons_succ, i64_w, i32_w]
         rfl
        refine pure_ (i := 23) (N := some 10) (v := ?_) (a' := ?_) #[true, true, true, true, true, true, true, true, true, true, true, true, true, true, true, true, true, true, true, true, true, true, true, true] rfl rfl (any_of HT_.out (by kernel_rfl)) (fun _ _ _ h => h) (Or.inl ⟨by rfl, ?_⟩) ?_ ?_
        rotate_left
        ·intro w'
         go_simp
         with_reducible rfl
        rotate_left
        ·simp only [Act.put, List.setIfInBounds_toArray, List.set_cons_zero, List.set_cons_succ, i64_w, i32_w]
         rfl
        refine done_ (done_of HT_.out (by kernel_rfl)) ?_
        have H := HH_.out
        clear HH_
        by_cases c30 : t297 = true
        ·subst c30
         have H1 : (if (t288.toList == ([] : List UInt8) && (t289.toList == ([] : List UInt8) && (t290.toList == ([] : List UInt8) && (t291.toList == ([] : List UInt8) && (t292.toList == ([] : List UInt8) && (t293.toList == ([] : List UInt8))))))) = true then (if t294.toList = ([105, 110, 118, 97, 108, 105, 100, 95, 114, 101, 113, 117, 101, 115, 116] : List UInt8) then (some (!t295)) else (some false)) else (some false)) = some r := by rw [if_pos rfl] at H; exact H
         clear H
         have H := H1
         clear H1
         by_cases c31 : (t288.toList == ([] : List UInt8) && (t289.toList == ([] : List UInt8) && (t290.toList == ([] : List UInt8) && (t291.toList == ([] : List UInt8) && (t292.toList == ([] : List UInt8) && (t293.toList == ([] : List UInt8))))))) = true
         ·rw [if_pos c31] at H
          have c31b0 : (t288.toList == ([] : List UInt8) && (t289.toList == ([] : List UInt8) && (t290.toList == ([] : List UInt8) && (t291.toList == ([] : List UInt8) && (t292.toList == ([] : List UInt8) && (t293.toList == ([] : List UInt8))))))) = true := c31
          (try (have c31b1 : decide (t288.toList = ([] : List UInt8) && (t289.toList == ([] : List UInt8) && (t290.toList == ([] : List UInt8) && (t291.toList == ([] : List UInt8) && (t292.toList == ([] : List UInt8) && (t293.toList == ([] : List UInt8))))))) = true := by simpa using c31))
          (try (have c31b2 : (t288.toList == ([] : List UInt8) && (t289.toList == ([] : List UInt8) && (t290.toList == ([] : List UInt8) && (t291.toList == ([] : List UInt8) && (t292.toList == ([] : List UInt8) && (t293.toList == ([] : List UInt8))))))) = true := by simpa using c31))
          clear c31
          by_cases c32 : t294.toList = ([105, 110, 118, 97, 108, 105, 100, 95, 114, 101, 113, 117, 101, 115, 116] : List UInt8)
          ·rw [if_pos c32] at H
           have c32b0 : (t294.toList == ([105, 110, 118, 97, 108, 105, 100, 95, 114, 101, 113, 117, 101, 115, 116] : List UInt8)) = true := beq_iff_eq.mpr c32
           have c32b1 : (t294.toList != ([105, 110, 118, 97, 108, 105, 100, 95, 114, 101, 113, 117, 101, 115, 116] : List UInt8)) = false := bne_eq_false_iff_eq.mpr c32
           clear c32
           obtain rfl := Option.some.inj H
           try go_wp2_with (first | ((with_reducible refine gate_callee (f := 7) rfl ?_); refine goesL_ (some 67) rfl rfl Tryd.func7 (by kernel_rfl) rfl #[] rfl (by (try simp only [List.map_toArray, List.map_cons, List.map_nil]); first | done | rfl | (simp only [List.length_drop, List.length_take]; rfl)) ?_; (with_reducible refine (exequaturlaw17_answers.calls  true _ A29.out (hG := GOK.below hG (by repeat (first | (with_reducible first | exact HB.out | apply below_alloc | apply pw_below_drewN | apply below_drew1 | refine below_set ?_ GE269.out | refine below_set ?_ GE296.out) | exact HB.out)))).mono ?_); rintro e w52 ⟨rfl, hb⟩; refine ⟨_, rfl, ?_⟩; have n0_ := Aside0.mk (Kd.R_below (by (with_reducible repeat (first | apply Kd.R_alloc | apply Kd.R_drewN | apply Kd.R_drew)); exact (Kd.R_mono (Kd.R_far (p := ⟨gb296, 5, none⟩) (Kd.R_far (p := ⟨gb296, 4, none⟩) (Kd.R_far (p := ⟨gb296, 3, none⟩) (Kd.R_far (p := ⟨gb296, 2, none⟩) (Kd.R_far (p := ⟨gb296, 1, none⟩) (Kd.R_far (p := ⟨gb296, 0, none⟩) (Kd.R_types HO283.out BK296.out (by decide)) (fun _ hk => hk.2) (.string t288)) (fun _ hk => hk.2) (.string t289)) (fun _ hk => hk.2) (.string t290)) (fun _ hk => hk.2) (.string t291)) (fun _ hk => hk.2) (.string t292)) (fun _ hk => hk.2) (.string t293)) (fun _ h_ => h_.1))) hb); have n1_ := Aside0.mk (Kd.R_below (by (with_reducible repeat (first | apply Kd.R_alloc | apply Kd.R_drewN | apply Kd.R_drew)); exact (Kd.R_mono (Kd.R_far (p := ⟨gb296, 5, none⟩) (Kd.R_far (p := ⟨gb296, 4, none⟩) (Kd.R_far (p := ⟨gb296, 3, none⟩) (Kd.R_far (p := ⟨gb296, 2, none⟩) (Kd.R_far (p := ⟨gb296, 1, none⟩) (Kd.R_far (p := ⟨gb296, 0, none⟩) (Kd.R_types HO286.out BK296.out (by decide)) (fun _ hk => hk.2) (.string t288)) (fun _ hk => hk.2) (.string t289)) (fun _ hk => hk.2) (.string t290)) (fun _ hk => hk.2) (.string t291)) (fun _ hk => hk.2) (.string t292)) (fun _ hk => hk.2) (.string t293)) (fun _ h_ => h_.1))) hb); have n2_ := Aside0.mk (blk_belowB BK269.out (by (with_reducible repeat (first | refine blk_drewN ?_ _ | refine blk_drew ?_ | refine blk_alloc ?_ _)); refine blk_far (blk_far (blk_far (blk_far (blk_far (blk_far ?_ NB269_296.out _) NB269_296.out _) NB269_296.out _) NB269_296.out _) NB269_296.out _) NB269_296.out _; (with_reducible repeat (first | refine blk_drewN ?_ _ | refine blk_drew ?_ | refine blk_alloc ?_ _)); exact BK269.out) hb); have n3_ := Aside0.mk (blk_below (g := gb296) (o := .cells #[.string t288, .string t289, .string t290, .string t291, .string t292, .string t293] 30 (0, 0)) (by (with_reducible repeat (first | refine blk_drewN ?_ _ | refine blk_drew ?_ | refine blk_alloc ?_ _)); refine fillR (cs := ?cs_) rfl rfl ?h_ ?l_; (case h_ => (with_reducible repeat (first | refine blk_drewN ?_ _ | refine blk_drew ?_ | refine blk_alloc ?_ _)); exact BK296.out); (case l_ => rfl)) hb); have n4_ := Aside0.mk (below_step (by repeat (first | (with_reducible first | exact HB.out | apply below_alloc | apply pw_below_drewN | apply below_drew1 | refine below_set ?_ GE269.out | refine below_set ?_ GE296.out) | exact HB.out)) hb); clear HO283; clear HO286; clear BK269; clear BK296; clear HB; have HO283 := n0_; have HO286 := n1_; have BK269 := n2_; have BK296 := n3_; have HB := n4_; clear n0_ n1_ n2_ n3_ n4_; (try clear hb); (try clear hb2); (try clear hk); (try clear hi); have hnb53 := NB296_269.out; have hnc53 := NB269_296.out; obtain ⟨hcz54_0, hcz54_1, hcz54_2, hcz54_3, hcz54_4, hcz54_5⟩ := cells6 BK296.out; obtain ⟨hfz54_0, hfz54_1, hfz54_2, hfz54_3, hfz54_4, hfz54_5⟩ := froz6 BK296.out))
           go_ret
           first | (focus (exfalso; simp_all; done)) | (exact ⟨by first | rfl | (simp [errW_none, errW_some] <;> rfl) | (simp only [← hji23]; first | rfl | (simp [errW_none, errW_some] <;> rfl)) | (simp [*, errW_none, errW_some] <;> rfl), by repeat (first | (with_reducible first | exact HB.out | apply below_alloc | apply pw_below_drewN | apply below_drew1 | refine below_set ?_ GE269.out | refine below_set ?_ GE296.out) | exact HB.out)⟩) | (focus (exfalso; simp_all; done))
           all_goals (first | (exfalso; simp_all <;> omega) | (go_ret; exact ⟨by first | rfl | (simp [errW_none, errW_some] <;> rfl) | (simp only [← hji23]; first | rfl | (simp [errW_none, errW_some] <;> rfl)) | (simp [*, errW_none, errW_some] <;> rfl), by repeat (first | (with_reducible first | exact HB.out | apply below_alloc | apply pw_below_drewN | apply below_drew1 | refine below_set ?_ GE269.out | refine below_set ?_ GE296.out) | exact HB.out)⟩))
          ·rw [if_neg c32] at H
           have c32b0 : (t294.toList == ([105, 110, 118, 97, 108, 105, 100, 95, 114, 101, 113, 117, 101, 115, 116] : List UInt8)) = false := beq_eq_false_iff_ne.mpr c32
           have c32b1 : (t294.toList != ([105, 110, 118, 97, 108, 105, 100, 95, 114, 101, 113, 117, 101, 115, 116] : List UInt8)) = true := bne_iff_ne.mpr c32
           obtain rfl := Option.some.inj H
           try go_wp2_with (first | ((with_reducible refine gate_callee (f := 7) rfl ?_); refine goesL_ (some 67) rfl rfl Tryd.func7 (by kernel_rfl) rfl #[] rfl (by (try simp only [List.map_toArray, List.map_cons, List.map_nil]); first | done | rfl | (simp only [List.length_drop, List.length_take]; rfl)) ?_; (with_reducible refine (exequaturlaw17_answers.calls  true _ A29.out (hG := GOK.below hG (by repeat (first | (with_reducible first | exact HB.out | apply below_alloc | apply pw_below_drewN | apply below_drew1 | refine below_set ?_ GE269.out | refine below_set ?_ GE296.out) | exact HB.out)))).mono ?_); rintro e w74 ⟨rfl, hb⟩; refine ⟨_, rfl, ?_⟩; have n0_ := Aside0.mk (Kd.R_below (by (with_reducible repeat (first | apply Kd.R_alloc | apply Kd.R_drewN | apply Kd.R_drew)); exact (Kd.R_mono (Kd.R_far (p := ⟨gb296, 5, none⟩) (Kd.R_far (p := ⟨gb296, 4, none⟩) (Kd.R_far (p := ⟨gb296, 3, none⟩) (Kd.R_far (p := ⟨gb296, 2, none⟩) (Kd.R_far (p := ⟨gb296, 1, none⟩) (Kd.R_far (p := ⟨gb296, 0, none⟩) (Kd.R_types HO283.out BK296.out (by decide)) (fun _ hk => hk.2) (.string t288)) (fun _ hk => hk.2) (.string t289)) (fun _ hk => hk.2) (.string t290)) (fun _ hk => hk.2) (.string t291)) (fun _ hk => hk.2) (.string t292)) (fun _ hk => hk.2) (.string t293)) (fun _ h_ => h_.1))) hb); have n1_ := Aside0.mk (Kd.R_below (by (with_reducible repeat (first | apply Kd.R_alloc | apply Kd.R_drewN | apply Kd.R_drew)); exact (Kd.R_mono (Kd.R_far (p := ⟨gb296, 5, none⟩) (Kd.R_far (p := ⟨gb296, 4, none⟩) (Kd.R_far (p := ⟨gb296, 3, none⟩) (Kd.R_far (p := ⟨gb296, 2, none⟩) (Kd.R_far (p := ⟨gb296, 1, none⟩) (Kd.R_far (p := ⟨gb296, 0, none⟩) (Kd.R_types HO286.out BK296.out (by decide)) (fun _ hk => hk.2) (.string t288)) (fun _ hk => hk.2) (.string t289)) (fun _ hk => hk.2) (.string t290)) (fun _ hk => hk.2) (.string t291)) (fun _ hk => hk.2) (.string t292)) (fun _ hk => hk.2) (.string t293)) (fun _ h_ => h_.1))) hb); have n2_ := Aside0.mk (blk_belowB BK269.out (by (with_reducible repeat (first | refine blk_drewN ?_ _ | refine blk_drew ?_ | refine blk_alloc ?_ _)); refine blk_far (blk_far (blk_far (blk_far (blk_far (blk_far ?_ NB269_296.out _) NB269_296.out _) NB269_296.out _) NB269_296.out _) NB269_296.out _) NB269_296.out _; (with_reducible repeat (first | refine blk_drewN ?_ _ | refine blk_drew ?_ | refine blk_alloc ?_ _)); exact BK269.out) hb); have n3_ := Aside0.mk (blk_below (g := gb296) (o := .cells #[.string t288, .string t289, .string t290, .string t291, .string t292, .string t293] 30 (0, 0)) (by (with_reducible repeat (first | refine blk_drewN ?_ _ | refine blk_drew ?_ | refine blk_alloc ?_ _)); refine fillR (cs := ?cs2_) rfl rfl ?h2_ ?l2_; (case h2_ => (with_reducible repeat (first | refine blk_drewN ?_ _ | refine blk_drew ?_ | refine blk_alloc ?_ _)); exact BK296.out); (case l2_ => rfl)) hb); have n4_ := Aside0.mk (below_step (by repeat (first | (with_reducible first | exact HB.out | apply below_alloc | apply pw_below_drewN | apply below_drew1 | refine below_set ?_ GE269.out | refine below_set ?_ GE296.out) | exact HB.out)) hb); clear HO283; clear HO286; clear BK269; clear BK296; clear HB; have HO283 := n0_; have HO286 := n1_; have BK269 := n2_; have BK296 := n3_; have HB := n4_; clear n0_ n1_ n2_ n3_ n4_; (try clear hb); (try clear hb2); (try clear hk); (try clear hi); have hnb75 := NB296_269.out; have hnc75 := NB269_296.out; obtain ⟨hcz76_0, hcz76_1, hcz76_2, hcz76_3, hcz76_4, hcz76_5⟩ := cells6 BK296.out; obtain ⟨hfz76_0, hfz76_1, hfz76_2, hfz76_3, hfz76_4, hfz76_5⟩ := froz6 BK296.out))
           go_ret
           first | (focus (exfalso; simp_all; done)) | (exact ⟨by first | rfl | (simp [errW_none, errW_some] <;> rfl) | (simp only [← hji23]; first | rfl | (simp [errW_none, errW_some] <;> rfl)) | (simp [*, errW_none, errW_some] <;> rfl), by repeat (first | (with_reducible first | exact HB.out | apply below_alloc | apply pw_below_drewN | apply below_drew1 | refine below_set ?_ GE269.out | refine below_set ?_ GE296.out) | exact HB.out)⟩) | (focus (exfalso; simp_all; done))
           all_goals (first | (exfalso; simp_all <;> omega) | (go_ret; exact ⟨by first | rfl | (simp [errW_none, errW_some] <;> rfl) | (simp only [← hji23]; first | rfl | (simp [errW_none, errW_some] <;> rfl)) | (simp [*, errW_none, errW_some] <;> rfl), by repeat (first | (with_reducible first | exact HB.out | apply below_alloc | apply pw_below_drewN | apply below_drew1 | refine below_set ?_ GE269.out | refine below_set ?_ GE296.out) | exact HB.out)⟩))
         ·rw [if_neg c31] at H
          have c31b0 : (t288.toList == ([] : List UInt8) && (t289.toList == ([] : List UInt8) && (t290.toList == ([] : List UInt8) && (t291.toList == ([] : List UInt8) && (t292.toList == ([] : List UInt8) && (t293.toList == ([] : List UInt8))))))) = false := by simpa using c31
          (try (have c31b1 : decide (t288.toList = ([] : List UInt8) && (t289.toList == ([] : List UInt8) && (t290.toList == ([] : List UInt8) && (t291.toList == ([] : List UInt8) && (t292.toList == ([] : List UInt8) && (t293.toList == ([] : List UInt8))))))) = false := by simpa using c31))
          (try (have c31b2 : (t288.toList == ([] : List UInt8) && (t289.toList == ([] : List UInt8) && (t290.toList == ([] : List UInt8) && (t291.toList == ([] : List UInt8) && (t292.toList == ([] : List UInt8) && (t293.toList == ([] : List UInt8))))))) = false := by simpa using c31))
          (try (have c31b3 : ¬ (t288.toList = ([] : List UInt8) && (t289.toList == ([] : List UInt8) && (t290.toList == ([] : List UInt8) && (t291.toList == ([] : List UInt8) && (t292.toList == ([] : List UInt8) && (t293.toList == ([] : List UInt8))))))) := by simpa using c31))
          clear c31
          obtain rfl := Option.some.inj H
          try go_wp2_with (first | ((with_reducible refine gate_callee (f := 7) rfl ?_); refine goesL_ (some 67) rfl rfl Tryd.func7 (by kernel_rfl) rfl #[] rfl (by (try simp only [List.map_toArray, List.map_cons, List.map_nil]); first | done | rfl | (simp only [List.length_drop, List.length_take]; rfl)) ?_; (with_reducible refine (exequaturlaw17_answers.calls  true _ A29.out (hG := GOK.below hG (by repeat (first | (with_reducible first | exact HB.out | apply below_alloc | apply pw_below_drewN | apply below_drew1 | refine below_set ?_ GE269.out | refine below_set ?_ GE296.out) | exact HB.out)))).mono ?_); rintro e w96 ⟨rfl, hb⟩; refine ⟨_, rfl, ?_⟩; have n0_ := Aside0.mk (Kd.R_below (by (with_reducible repeat (first | apply Kd.R_alloc | apply Kd.R_drewN | apply Kd.R_drew)); exact (Kd.R_mono (Kd.R_far (p := ⟨gb296, 5, none⟩) (Kd.R_far (p := ⟨gb296, 4, none⟩) (Kd.R_far (p := ⟨gb296, 3, none⟩) (Kd.R_far (p := ⟨gb296, 2, none⟩) (Kd.R_far (p := ⟨gb296, 1, none⟩) (Kd.R_far (p := ⟨gb296, 0, none⟩) (Kd.R_types HO283.out BK296.out (by decide)) (fun _ hk => hk.2) (.string t288)) (fun _ hk => hk.2) (.string t289)) (fun _ hk => hk.2) (.string t290)) (fun _ hk => hk.2) (.string t291)) (fun _ hk => hk.2) (.string t292)) (fun _ hk => hk.2) (.string t293)) (fun _ h_ => h_.1))) hb); have n1_ := Aside0.mk (Kd.R_below (by (with_reducible repeat (first | apply Kd.R_alloc | apply Kd.R_drewN | apply Kd.R_drew)); exact (Kd.R_mono (Kd.R_far (p := ⟨gb296, 5, none⟩) (Kd.R_far (p := ⟨gb296, 4, none⟩) (Kd.R_far (p := ⟨gb296, 3, none⟩) (Kd.R_far (p := ⟨gb296, 2, none⟩) (Kd.R_far (p := ⟨gb296, 1, none⟩) (Kd.R_far (p := ⟨gb296, 0, none⟩) (Kd.R_types HO286.out BK296.out (by decide)) (fun _ hk => hk.2) (.string t288)) (fun _ hk => hk.2) (.string t289)) (fun _ hk => hk.2) (.string t290)) (fun _ hk => hk.2) (.string t291)) (fun _ hk => hk.2) (.string t292)) (fun _ hk => hk.2) (.string t293)) (fun _ h_ => h_.1))) hb); have n2_ := Aside0.mk (blk_belowB BK269.out (by (with_reducible repeat (first | refine blk_drewN ?_ _ | refine blk_drew ?_ | refine blk_alloc ?_ _)); refine blk_far (blk_far (blk_far (blk_far (blk_far (blk_far ?_ NB269_296.out _) NB269_296.out _) NB269_296.out _) NB269_296.out _) NB269_296.out _) NB269_296.out _; (with_reducible repeat (first | refine blk_drewN ?_ _ | refine blk_drew ?_ | refine blk_alloc ?_ _)); exact BK269.out) hb); have n3_ := Aside0.mk (blk_below (g := gb296) (o := .cells #[.string t288, .string t289, .string t290, .string t291, .string t292, .string t293] 30 (0, 0)) (by (with_reducible repeat (first | refine blk_drewN ?_ _ | refine blk_drew ?_ | refine blk_alloc ?_ _)); refine fillR (cs := ?cs3_) rfl rfl ?h3_ ?l3_; (case h3_ => (with_reducible repeat (first | refine blk_drewN ?_ _ | refine blk_drew ?_ | refine blk_alloc ?_ _)); exact BK296.out); (case l3_ => rfl)) hb); have n4_ := Aside0.mk (below_step (by repeat (first | (with_reducible first | exact HB.out | apply below_alloc | apply pw_below_drewN | apply below_drew1 | refine below_set ?_ GE269.out | refine below_set ?_ GE296.out) | exact HB.out)) hb); clear HO283; clear HO286; clear BK269; clear BK296; clear HB; have HO283 := n0_; have HO286 := n1_; have BK269 := n2_; have BK296 := n3_; have HB := n4_; clear n0_ n1_ n2_ n3_ n4_; (try clear hb); (try clear hb2); (try clear hk); (try clear hi); have hnb97 := NB296_269.out; have hnc97 := NB269_296.out; obtain ⟨hcz98_0, hcz98_1, hcz98_2, hcz98_3, hcz98_4, hcz98_5⟩ := cells6 BK296.out; obtain ⟨hfz98_0, hfz98_1, hfz98_2, hfz98_3, hfz98_4, hfz98_5⟩ := froz6 BK296.out))
          go_ret
          first | (focus (exfalso; simp_all; done)) | (exact ⟨by first | rfl | (simp [errW_none, errW_some] <;> rfl) | (simp only [← hji23]; first | rfl | (simp [errW_none, errW_some] <;> rfl)) | (simp [*, errW_none, errW_some] <;> rfl), by repeat (first | (with_reducible first | exact HB.out | apply below_alloc | apply pw_below_drewN | apply below_drew1 | refine below_set ?_ GE269.out | refine below_set ?_ GE296.out) | exact HB.out)⟩) | (focus (exfalso; simp_all; done))
          all_goals (first | (exfalso; simp_all <;> omega) | (go_ret; exact ⟨by first | rfl | (simp [errW_none, errW_some] <;> rfl) | (simp only [← hji23]; first | rfl | (simp [errW_none, errW_some] <;> rfl)) | (simp [*, errW_none, errW_some] <;> rfl), by repeat (first | (with_reducible first | exact HB.out | apply below_alloc | apply pw_below_drewN | apply below_drew1 | refine below_set ?_ GE269.out | refine below_set ?_ GE296.out) | exact HB.out)⟩))
        ·replace c30 := Bool.eq_false_iff.mpr c30
         subst c30
         have H1 : (some false) = some r := by rw [if_neg (show ¬ (false = true) by decide)] at H; exact H
         clear H
         have H := H1
         clear H1
         obtain rfl := Option.some.inj H
         try go_wp2_with (first | ((with_reducible refine gate_callee (f := 7) rfl ?_); refine goesL_ (some 67) rfl rfl Tryd.func7 (by kernel_rfl) rfl #[] rfl (by (try simp only [List.map_toArray, List.map_cons, List.map_nil]); first | done | rfl | (simp only [List.length_drop, List.length_take]; rfl)) ?_; (with_reducible refine (exequaturlaw17_answers.calls  false _ A29.out (hG := GOK.below hG (by repeat (first | (with_reducible first | exact HB.out | apply below_alloc | apply pw_below_drewN | apply below_drew1 | refine below_set ?_ GE269.out | refine below_set ?_ GE296.out) | exact HB.out)))).mono ?_); rintro e w118 ⟨rfl, hb⟩; refine ⟨_, rfl, ?_⟩; have n0_ := Aside0.mk (Kd.R_below (by (with_reducible repeat (first | apply Kd.R_alloc | apply Kd.R_drewN | apply Kd.R_drew)); exact (Kd.R_mono (Kd.R_far (p := ⟨gb296, 5, none⟩) (Kd.R_far (p := ⟨gb296, 4, none⟩) (Kd.R_far (p := ⟨gb296, 3, none⟩) (Kd.R_far (p := ⟨gb296, 2, none⟩) (Kd.R_far (p := ⟨gb296, 1, none⟩) (Kd.R_far (p := ⟨gb296, 0, none⟩) (Kd.R_types HO283.out BK296.out (by decide)) (fun _ hk => hk.2) (.string t288)) (fun _ hk => hk.2) (.string t289)) (fun _ hk => hk.2) (.string t290)) (fun _ hk => hk.2) (.string t291)) (fun _ hk => hk.2) (.string t292)) (fun _ hk => hk.2) (.string t293)) (fun _ h_ => h_.1))) hb); have n1_ := Aside0.mk (Kd.R_below (by (with_reducible repeat (first | apply Kd.R_alloc | apply Kd.R_drewN | apply Kd.R_drew)); exact (Kd.R_mono (Kd.R_far (p := ⟨gb296, 5, none⟩) (Kd.R_far (p := ⟨gb296, 4, none⟩) (Kd.R_far (p := ⟨gb296, 3, none⟩) (Kd.R_far (p := ⟨gb296, 2, none⟩) (Kd.R_far (p := ⟨gb296, 1, none⟩) (Kd.R_far (p := ⟨gb296, 0, none⟩) (Kd.R_types HO286.out BK296.out (by decide)) (fun _ hk => hk.2) (.string t288)) (fun _ hk => hk.2) (.string t289)) (fun _ hk => hk.2) (.string t290)) (fun _ hk => hk.2) (.string t291)) (fun _ hk => hk.2) (.string t292)) (fun _ hk => hk.2) (.string t293)) (fun _ h_ => h_.1))) hb); have n2_ := Aside0.mk (blk_belowB BK269.out (by (with_reducible repeat (first | refine blk_drewN ?_ _ | refine blk_drew ?_ | refine blk_alloc ?_ _)); refine blk_far (blk_far (blk_far (blk_far (blk_far (blk_far ?_ NB269_296.out _) NB269_296.out _) NB269_296.out _) NB269_296.out _) NB269_296.out _) NB269_296.out _; (with_reducible repeat (first | refine blk_drewN ?_ _ | refine blk_drew ?_ | refine blk_alloc ?_ _)); exact BK269.out) hb); have n3_ := Aside0.mk (blk_below (g := gb296) (o := .cells #[.string t288, .string t289, .string t290, .string t291, .string t292, .string t293] 30 (0, 0)) (by (with_reducible repeat (first | refine blk_drewN ?_ _ | refine blk_drew ?_ | refine blk_alloc ?_ _)); refine fillR (cs := ?cs4_) rfl rfl ?h4_ ?l4_; (case h4_ => (with_reducible repeat (first | refine blk_drewN ?_ _ | refine blk_drew ?_ | refine blk_alloc ?_ _)); exact BK296.out); (case l4_ => rfl)) hb); have n4_ := Aside0.mk (below_step (by repeat (first | (with_reducible first | exact HB.out | apply below_alloc | apply pw_below_drewN | apply below_drew1 | refine below_set ?_ GE269.out | refine below_set ?_ GE296.out) | exact HB.out)) hb); clear HO283; clear HO286; clear BK269; clear BK296; clear HB; have HO283 := n0_; have HO286 := n1_; have BK269 := n2_; have BK296 := n3_; have HB := n4_; clear n0_ n1_ n2_ n3_ n4_; (try clear hb); (try clear hb2); (try clear hk); (try clear hi)))
         go_ret
         first | (focus (exfalso; simp_all; done)) | (exact ⟨by first | rfl | (simp [errW_none, errW_some] <;> rfl) | (simp only [← hji23]; first | rfl | (simp [errW_none, errW_some] <;> rfl)) | (simp [*, errW_none, errW_some] <;> rfl), by repeat (first | (with_reducible first | exact HB.out | apply below_alloc | apply pw_below_drewN | apply below_drew1 | refine below_set ?_ GE269.out | refine below_set ?_ GE296.out) | exact HB.out)⟩) | (focus (exfalso; simp_all; done))
         all_goals (first | (exfalso; simp_all <;> omega) | (go_ret; exact ⟨by first | rfl | (simp [errW_none, errW_some] <;> rfl) | (simp only [← hji23]; first | rfl | (simp [errW_none, errW_some] <;> rfl)) | (simp [*, errW_none, errW_some] <;> rfl), by repeat (first | (with_reducible first | exact HB.out | apply below_alloc | apply pw_below_drewN | apply below_drew1 | refine below_set ?_ GE269.out | refine below_set ?_ GE296.out) | exact HB.out)⟩))

end Go.Proofs.YtmhaaggmfgojbaaDoor.X
