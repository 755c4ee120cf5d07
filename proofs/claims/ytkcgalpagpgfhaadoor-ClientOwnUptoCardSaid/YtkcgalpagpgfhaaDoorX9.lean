-- Lean text made by xprint.py (ours) out of the seat's translation. Lean checks it.
import Derived.Test.YtkcgalpagpgfhaaDoorX0
namespace Go.Proofs.YtkcgalpagpgfhaaDoor.X
open Go.RowKit Go.Proofs.YtkcgalpagpgfhaaDoorW.PrintWords Go.Proofs.YtkcgalpagpgfhaaDoorW.PrintLast Go.Proofs.YtkcgalpagpgfhaaDoorW.PrintMore
attribute [local go_sem] max2_int min2_int max_two min_two max_three min_three max_four min_four   -- for this text's walks alone
set_option linter.unusedVariables false
set_option linter.unusedSimpArgs false

/-! ### exequaturlaw16_small: function 12 -/
mutual
def exequaturlaw16_small.j0 : Nat → Bool → ByteArray → ByteArray → ByteArray → List (S25) → List (S40) → Option (Bool)
  | 0, _, _, _, _, _, _ => none
  | k + 1, x20, x165000, x165001, x165002, x165003, x165004 => if x20 = true then (some false) else (exequaturlaw16_small.l0 k 0 x165000 x165001 x165002 x165003 x165004)
def exequaturlaw16_small.l0 : Nat → Int → ByteArray → ByteArray → ByteArray → List (S25) → List (S40) → Option (Bool)
  | 0, _, _, _, _, _, _ => none
  | k + 1, x3, x165000, x165001, x165002, x165003, x165004 => if x3 < (x165003.length : Int) then (if 0 ≤ x3 then (if (((rd_T25 x165003 x3).f2).length : Int) > 100 then (some false) else (exequaturlaw16_small.l0 k (wrap64 (x3 + 1)) x165000 x165001 x165002 x165003 x165004)) else (none)) else (exequaturlaw16_small.l1 k 0 x165000 x165001 x165002 x165003 x165004)
def exequaturlaw16_small.l1 : Nat → Int → ByteArray → ByteArray → ByteArray → List (S25) → List (S40) → Option (Bool)
  | 0, _, _, _, _, _, _ => none
  | k + 1, x4, x165000, x165001, x165002, x165003, x165004 => if x4 < (x165004.length : Int) then (if 0 ≤ x4 then (if (((rd_T40 x165004 x4).f6).size : Int) > 5000 then (some false) else (exequaturlaw16_small.l1 k (wrap64 (x4 + 1)) x165000 x165001 x165002 x165003 x165004)) else (none)) else (some true)
end
def exequaturlaw16_small.f (k : Nat) (a0_0 : ByteArray) (a0_1 : ByteArray) (a0_2 : ByteArray) (l0_3 : List (S25)) (l0_4 : List (S40)) : Option (Bool) := if (l0_3.length : Int) > 20 then (exequaturlaw16_small.j0 k true a0_0 a0_1 a0_2 l0_3 l0_4) else (if (l0_4.length : Int) > 20 then (exequaturlaw16_small.j0 k true a0_0 a0_1 a0_2 l0_3 l0_4) else (exequaturlaw16_small.j0 k (decide ((a0_0.size : Int) > 5000)) a0_0 a0_1 a0_2 l0_3 l0_4))
theorem exequaturlaw16_small.mono_l : ∀ k, (∀ y0 y1 y2 y3 y4 y5, LeO (exequaturlaw16_small.j0 k y0 y1 y2 y3 y4 y5) (exequaturlaw16_small.j0 (k + 1) y0 y1 y2 y3 y4 y5)) ∧ (∀ y0 y1 y2 y3 y4 y5, LeO (exequaturlaw16_small.l0 k y0 y1 y2 y3 y4 y5) (exequaturlaw16_small.l0 (k + 1) y0 y1 y2 y3 y4 y5)) ∧ (∀ y0 y1 y2 y3 y4 y5, LeO (exequaturlaw16_small.l1 k y0 y1 y2 y3 y4 y5) (exequaturlaw16_small.l1 (k + 1) y0 y1 y2 y3 y4 y5))
  | 0 => ⟨fun _ _ _ _ _ _ r h => by simp [exequaturlaw16_small.j0] at h, fun _ _ _ _ _ _ r h => by simp [exequaturlaw16_small.l0] at h, fun _ _ _ _ _ _ r h => by simp [exequaturlaw16_small.l1] at h⟩
  | k + 1 => by
    obtain ⟨ih0, ih1, ih2⟩ := exequaturlaw16_small.mono_l k
    refine ⟨?_, ?_, ?_⟩
    · intro y0 y1 y2 y3 y4 y5
      unfold exequaturlaw16_small.j0
      repeat' first
      | (with_reducible exact ih0 _ _ _ _ _ _)
      | (with_reducible exact ih1 _ _ _ _ _ _)
      | (with_reducible exact ih2 _ _ _ _ _ _)
      | (with_reducible exact LeO.refl _)
      | (with_reducible exact LeO.none _)
      | (with_reducible refine LeO.ite ?_ ?_)
      | (with_reducible refine LeO.bind ?_ (fun _ => ?_))
      | exact ih0 _ _ _ _ _ _
      | exact ih1 _ _ _ _ _ _
      | exact ih2 _ _ _ _ _ _
      | exact LeO.none _
      | refine LeO.ite ?_ ?_
      | refine LeO.bind ?_ (fun _ => ?_)
    · intro y0 y1 y2 y3 y4 y5
      unfold exequaturlaw16_small.l0
      repeat' first
      | (with_reducible exact ih0 _ _ _ _ _ _)
      | (with_reducible exact ih1 _ _ _ _ _ _)
      | (with_reducible exact ih2 _ _ _ _ _ _)
      | (with_reducible exact LeO.refl _)
      | (with_reducible exact LeO.none _)
      | (with_reducible refine LeO.ite ?_ ?_)
      | (with_reducible refine LeO.bind ?_ (fun _ => ?_))
      | exact ih0 _ _ _ _ _ _
      | exact ih1 _ _ _ _ _ _
      | exact ih2 _ _ _ _ _ _
      | exact LeO.none _
      | refine LeO.ite ?_ ?_
      | refine LeO.bind ?_ (fun _ => ?_)
    · intro y0 y1 y2 y3 y4 y5
      unfold exequaturlaw16_small.l1
      repeat' first
      | (with_reducible exact ih0 _ _ _ _ _ _)
      | (with_reducible exact ih1 _ _ _ _ _ _)
      | (with_reducible exact ih2 _ _ _ _ _ _)
      | (with_reducible exact LeO.refl _)
      | (with_reducible exact LeO.none _)
      | (with_reducible refine LeO.ite ?_ ?_)
      | (with_reducible refine LeO.bind ?_ (fun _ => ?_))
      | exact ih0 _ _ _ _ _ _
      | exact ih1 _ _ _ _ _ _
      | exact ih2 _ _ _ _ _ _
      | exact LeO.none _
      | refine LeO.ite ?_ ?_
      | refine LeO.bind ?_ (fun _ => ?_)
theorem exequaturlaw16_small.mono : ∀ a0 a1 a2 a3 a4 k, LeO (exequaturlaw16_small.f k a0 a1 a2 a3 a4) (exequaturlaw16_small.f (k + 1) a0 a1 a2 a3 a4) := by
  intro a0 a1 a2 a3 a4 k
  obtain ⟨ih0, ih1, ih2⟩ := exequaturlaw16_small.mono_l k
  unfold exequaturlaw16_small.f
  repeat' first
      | (with_reducible exact ih0 _ _ _ _ _ _)
      | (with_reducible exact ih1 _ _ _ _ _ _)
      | (with_reducible exact ih2 _ _ _ _ _ _)
      | (with_reducible exact LeO.refl _)
      | (with_reducible exact LeO.none _)
      | (with_reducible refine LeO.ite ?_ ?_)
      | (with_reducible refine LeO.bind ?_ (fun _ => ?_))
      | exact ih0 _ _ _ _ _ _
      | exact ih1 _ _ _ _ _ _
      | exact ih2 _ _ _ _ _ _
      | exact LeO.none _
      | refine LeO.ite ?_ ?_
      | refine LeO.bind ?_ (fun _ => ?_)
set_option maxHeartbeats 8000000 in
set_option maxRecDepth 100000 in
theorem exequaturlaw16_small.calls (k : Nat) (a0_0 : ByteArray) (a0_1 : ByteArray) (a0_2 : ByteArray) (A0_3 : Option Addr) (c0_3 : Nat) (l0_3 : List (S25)) (A0_4 : Option Addr) (c0_4 : Nat) (l0_4 : List (S40)) (r : Bool) (w : World) (hr0_3 : Kd.C k25 w A0_3 l0_3.length l0_3) (hc0_3 : l0_3.length ≤ c0_3) (hr0_4 : Kd.C k40 w A0_4 l0_4.length l0_4) (hc0_4 : l0_4.length ≤ c0_4) (h : exequaturlaw16_small.f k a0_0 a0_1 a0_2 l0_3 l0_4 = some r) :
  Calls Tryd.prog 12 #[.agg #[.string a0_0, .string a0_1, .string a0_2, .slice A0_3 l0_3.length c0_3, .slice A0_4 l0_4.length c0_4]] w fun e w' => e = .returned (.bool r) ∧ Below w.heap.size w w' := by
 have hu31 := Tryd.underlying31
 have HR0_3 := Aside0.mk hr0_3
 have HC0_3 := Aside0.mk hc0_3
 clear hr0_3 hc0_3
 have HR0_4 := Aside0.mk hr0_4
 have HC0_4 := Aside0.mk hc0_4
 clear hr0_4 hc0_4
 have HB := Aside0.mk (Below.refl w.heap.size w)
 have H : (if (l0_3.length : Int) > 20 then (exequaturlaw16_small.j0 k true a0_0 a0_1 a0_2 l0_3 l0_4) else (if (l0_4.length : Int) > 20 then (exequaturlaw16_small.j0 k true a0_0 a0_1 a0_2 l0_3 l0_4) else (exequaturlaw16_small.j0 k (decide ((a0_0.size : Int) > 5000)) a0_0 a0_1 a0_2 l0_3 l0_4))) = some r := h
 clear h
 have HC2 := Aside0.mk H
 clear H
 go_enter Tryd.func12, Tryd.ntmps12
 go_upto_region 1 with (first | ((with_reducible refine gate_dst (N := 1) rfl ?_); (try (refine gate_guard (by rfl) ?_; dsimp only)); refine box_event ?hg (N := 1) ?hd (cs := #[.string a0_0, .string a0_1, .string a0_2, .slice A0_3 l0_3.length c0_3, .slice A0_4 l0_4.length c0_4]) (t := 31) ?hr ?_; (case hd => rfl); (case hg => rfl); (case hr => first | (go_simp; done) | (go_simp; rfl)); intro gb164 hg w3 hbox hb; have n0_ := Aside0.mk (below_step (by repeat (first | (with_reducible first | exact HB.out | apply below_alloc | apply pw_below_drewN | apply below_drew1) | exact HB.out)) hb); have n1_ := Aside0.mk (hbox); have n2_ := Aside0.mk ((by rw [hg]; exact (below_size (by repeat (first | (with_reducible first | exact HB.out | apply below_alloc | apply pw_below_drewN | apply below_drew1) | exact HB.out))) : w.heap.size ≤ gb164)); have n3_ := Aside0.mk ((by rw [hg]; exact (below_size (by repeat (first | (with_reducible first | exact HB.out | apply below_alloc | apply pw_below_drewN | apply below_drew1) | exact HB.out))) : w.heap.size ≤ gb164)); clear HB; have HB := n0_; have BK164 := n1_; have GW164 := n2_; have GE164 := n3_; clear n0_ n1_ n2_ n3_; clear hb hbox hg))
 (try simp only [Act.put, List.setIfInBounds_toArray, List.set_cons_zero, List.set_cons_succ])
 go_cut [20] (fun v20 wc => ∃ (kq : Nat) (x20_1 : Bool), v20 = .bool x20_1 ∧ Aside0 (exequaturlaw16_small.j0 kq x20_1 a0_0 a0_1 a0_2 l0_3 l0_4 = some r) ∧ Aside0 (kq ≤ k) ∧ Aside0 (wc.heap[gb164]? = some (.cells #[.string a0_0, .string a0_1, .string a0_2, (.slice A0_3 l0_3.length c0_3), (.slice A0_4 l0_4.length c0_4)] 31 (0, 0))) ∧ Aside0 (Below w.heap.size w wc))
 case first =>
  have H := HC2.out
  clear HC2
  by_cases c4 : (l0_3.length : Int) > 20
  ·rw [if_pos c4] at H
   have c4b0 : decide (20 < (l0_3.length : Int)) = true := decide_eq_true c4
   have c4b1 : decide (20 < l0_3.length) = true := decide_eq_true (by omega)
   clear c4
   (first | rw [c4b0] | (simp only [i64_w, i32_w]; rw [c4b0]) | skip)
   have H' := Aside0.mk H
   clear H
   obtain ⟨hcz5_0, hcz5_1, hcz5_2, hcz5_3, hcz5_4⟩ := cells5 BK164.out
   obtain ⟨hfz5_0, hfz5_1, hfz5_2, hfz5_3, hfz5_4⟩ := froz5 BK164.out
   go_wp2
   go_meet
   case rel => exact ⟨_, (true), (by first | rfl | (simp; done) | (simp [*]; done) | (refine congrArg Value.bool ?_; rw [Bool.eq_iff_iff]; simp; done)), H', ⟨by first | omega | exact Nat.le_refl _⟩, ⟨by (with_reducible repeat (first | refine blk_drewN ?_ _ | refine blk_drew ?_ | refine blk_alloc ?_ _)); exact BK164.out⟩, ⟨by repeat (first | (with_reducible first | exact HB.out | apply below_alloc | apply pw_below_drewN | apply below_drew1 | refine below_set ?_ GE164.out) | exact HB.out)⟩⟩
  ·rw [if_neg c4] at H
   have c4b0 : decide (20 < (l0_3.length : Int)) = false := decide_eq_false c4
   have c4b1 : decide (20 < l0_3.length) = false := decide_eq_false (by omega)
   clear c4
   (first | rw [c4b0] | (simp only [i64_w, i32_w]; rw [c4b0]) | skip)
   by_cases c6 : (l0_4.length : Int) > 20
   ·rw [if_pos c6] at H
    have c6b0 : decide (20 < (l0_4.length : Int)) = true := decide_eq_true c6
    have c6b1 : decide (20 < l0_4.length) = true := decide_eq_true (by omega)
    clear c6
    have H' := Aside0.mk H
    clear H
    obtain ⟨hcz7_0, hcz7_1, hcz7_2, hcz7_3, hcz7_4⟩ := cells5 BK164.out
    obtain ⟨hfz7_0, hfz7_1, hfz7_2, hfz7_3, hfz7_4⟩ := froz5 BK164.out
    go_wp2
    go_meet
    case rel => exact ⟨_, (true), (by first | rfl | (simp; done) | (simp [*]; done) | (refine congrArg Value.bool ?_; rw [Bool.eq_iff_iff]; simp; done)), H', ⟨by first | omega | exact Nat.le_refl _⟩, ⟨by (with_reducible repeat (first | refine blk_drewN ?_ _ | refine blk_drew ?_ | refine blk_alloc ?_ _)); exact BK164.out⟩, ⟨by repeat (first | (with_reducible first | exact HB.out | apply below_alloc | apply pw_below_drewN | apply below_drew1 | refine below_set ?_ GE164.out) | exact HB.out)⟩⟩
   ·rw [if_neg c6] at H
    have c6b0 : decide (20 < (l0_4.length : Int)) = false := decide_eq_false c6
    have c6b1 : decide (20 < l0_4.length) = false := decide_eq_false (by omega)
    clear c6
    have H' := Aside0.mk H
    clear H
    obtain ⟨hcz8_0, hcz8_1, hcz8_2, hcz8_3, hcz8_4⟩ := cells5 BK164.out
    obtain ⟨hfz8_0, hfz8_1, hfz8_2, hfz8_3, hfz8_4⟩ := froz5 BK164.out
    go_wp2
    go_meet
    case rel => exact ⟨_, (decide ((a0_0.size : Int) > 5000)), (by first | rfl | (simp; done) | (simp [*]; done) | (refine congrArg Value.bool ?_; rw [Bool.eq_iff_iff]; simp; done)), H', ⟨by first | omega | exact Nat.le_refl _⟩, ⟨by (with_reducible repeat (first | refine blk_drewN ?_ _ | refine blk_drew ?_ | refine blk_alloc ?_ _)); exact BK164.out⟩, ⟨by repeat (first | (with_reducible first | exact HB.out | apply below_alloc | apply pw_below_drewN | apply below_drew1 | refine below_set ?_ GE164.out) | exact HB.out)⟩⟩
 case rest =>
  clear HC2; try clear c1; try clear p2; try clear c4; try clear c4b0; try clear c4b1; try clear c6; try clear c6b0; try clear c6b1; try clear hcz5_0; try clear hcz5_1; try clear hcz5_2; try clear hcz5_3; try clear hcz5_4; try clear hcz7_0; try clear hcz7_1; try clear hcz7_2; try clear hcz7_3; try clear hcz7_4; try clear hcz8_0; try clear hcz8_1; try clear hcz8_2; try clear hcz8_3; try clear hcz8_4; try clear hfz5_0; try clear hfz5_1; try clear hfz5_2; try clear hfz5_3; try clear hfz5_4; try clear hfz7_0; try clear hfz7_1; try clear hfz7_2; try clear hfz7_3; try clear hfz7_4; try clear hfz8_0; try clear hfz8_1; try clear hfz8_2; try clear hfz8_3; try clear hfz8_4
  obtain ⟨kq, x20_1, rfl, HA, HJ1, BK164, HB⟩ := hcut
  cases kq with
  | zero => exact absurd HA.out (by simp [exequaturlaw16_small.j0])
  | succ kj1 =>
   have H := HA.out
   clear HA
   simp only [exequaturlaw16_small.j0] at H
   by_cases c9 : x20_1 = true
   ·subst c9
    have H1 : (some false) = some r := by rw [if_pos rfl] at H; exact H
    clear H
    have H := H1
    clear H1
    obtain rfl := Option.some.inj H
    go_wp2
    go_ret
    first | (exact ⟨by first | rfl | (simp [errW_none, errW_some] <;> rfl) | (simp [*, errW_none, errW_some] <;> rfl), by repeat (first | (with_reducible first | exact HB.out | apply below_alloc | apply pw_below_drewN | apply below_drew1 | refine below_set ?_ GE164.out) | exact HB.out)⟩) | (focus (exfalso; simp_all; done))
    all_goals (first | (exfalso; simp_all <;> omega) | (go_ret; exact ⟨by first | rfl | (simp [errW_none, errW_some] <;> rfl) | (simp [*, errW_none, errW_some] <;> rfl), by repeat (first | (with_reducible first | exact HB.out | apply below_alloc | apply pw_below_drewN | apply below_drew1 | refine below_set ?_ GE164.out) | exact HB.out)⟩))
   ·replace c9 := Bool.eq_false_iff.mpr c9
    subst c9
    have H1 : (exequaturlaw16_small.l0 kj1 0 a0_0 a0_1 a0_2 l0_3 l0_4) = some r := by rw [if_neg (show ¬ (false = true) by decide)] at H; exact H
    clear H
    have H := H1
    clear H1
    have H' := Aside0.mk H
    clear H
    go_wp2
    go_loopg [3] kj1 (fun kq v3 w' => ∃ (x3_2 : Int), v3 = .int .i64 x3_2 ∧ Aside0 (exequaturlaw16_small.l0 kq x3_2 a0_0 a0_1 a0_2 l0_3 l0_4 = some r) ∧ Aside0 (kq ≤ kj1) ∧ Aside0 (w'.heap[gb164]? = some (.cells #[.string a0_0, .string a0_1, .string a0_2, (.slice A0_3 l0_3.length c0_3), (.slice A0_4 l0_4.length c0_4)] 31 (0, 0))) ∧ Aside0 (Below w.heap.size w w'))
    case atStart => exact ⟨(0), (by first | rfl | (simp; done) | (simp [*]; done) | (refine congrArg Value.bool ?_; rw [Bool.eq_iff_iff]; simp; done)), H', ⟨Nat.le_refl _⟩, ⟨by (with_reducible repeat (first | refine blk_drewN ?_ _ | refine blk_drew ?_ | refine blk_alloc ?_ _)); exact BK164.out⟩, ⟨by repeat (first | (with_reducible first | exact HB.out | apply below_alloc | apply pw_below_drewN | apply below_drew1 | refine below_set ?_ GE164.out) | exact HB.out)⟩⟩
    case round =>
     clear H'
     try clear c1; try clear p2; try clear c4; try clear c4b0; try clear c4b1; try clear c6; try clear c6b0; try clear c6b1; try clear c9; try clear hcz5_0; try clear hcz5_1; try clear hcz5_2; try clear hcz5_3; try clear hcz5_4; try clear hcz7_0; try clear hcz7_1; try clear hcz7_2; try clear hcz7_3; try clear hcz7_4; try clear hcz8_0; try clear hcz8_1; try clear hcz8_2; try clear hcz8_3; try clear hcz8_4; try clear hfz5_0; try clear hfz5_1; try clear hfz5_2; try clear hfz5_3; try clear hfz5_4; try clear hfz7_0; try clear hfz7_1; try clear hfz7_2; try clear hfz7_3; try clear hfz7_4; try clear hfz8_0; try clear hfz8_1; try clear hfz8_2; try clear hfz8_3; try clear hfz8_4; try clear p2
     obtain ⟨x3_2, rfl, HA, HK2, BK164, HB⟩ := hrel
     cases gk with
     | zero => exact absurd HA.out (by simp [exequaturlaw16_small.l0])
     | succ k2 =>
      have H := HA.out
      clear HA
      simp only [exequaturlaw16_small.l0] at H
      by_cases c10 : x3_2 < (l0_3.length : Int)
      ·rw [if_pos c10] at H
       have c10b0 : decide (x3_2 < (l0_3.length : Int)) = true := decide_eq_true c10
       clear c10
       by_cases c11 : 0 ≤ x3_2
       rotate_left
       ·rw [if_neg c11] at H; exact absurd H (by simp)
       rw [if_pos c11] at H
       have c11b0 : decide (0 ≤ x3_2) = true := decide_eq_true c11
       clear c11
       by_cases c12 : (((rd_T25 l0_3 x3_2).f2).length : Int) > 100
       ·rw [if_pos c12] at H
        have c12b0 : decide (100 < (((rd_T25 l0_3 x3_2).f2).length : Int)) = true := decide_eq_true c12
        have c12b1 : decide (100 < ((rd_T25 l0_3 x3_2).f2).length) = true := decide_eq_true (by omega)
        clear c12
        obtain rfl := Option.some.inj H
        obtain ⟨hcz13_0, hcz13_1, hcz13_2, hcz13_3, hcz13_4⟩ := cells5 BK164.out
        obtain ⟨hfz13_0, hfz13_1, hfz13_2, hfz13_3, hfz13_4⟩ := froz5 BK164.out
        have p165 : 0 ≤ (x3_2 : Int) := of_decide_eq_true (by first | (with_reducible assumption) | assumption)
        have q165 : x3_2 < (l0_3.length : Int) := of_decide_eq_true (by first | (with_reducible assumption) | assumption)
        obtain ⟨ad165, A165_2, c165_2, e165, hx165_0, hx165_1, hx165_2, hl165_2, hi165_2⟩ := at_T25 HR0_3.out x3_2 p165 q165
        cases e165
        replace hx165_0 := (HB.out.cell (World.block_lt_of_cell? w _ hx165_0)).trans hx165_0
        replace hx165_1 := (HB.out.cell (World.block_lt_of_cell? w _ hx165_1)).trans hx165_1
        replace hx165_2 := (HB.out.cell (World.block_lt_of_cell? w _ hx165_2)).trans hx165_2
        have HR165_2 := Aside0.mk hi165_2
        have HC165_2 := Aside0.mk hl165_2
        clear hi165_2 hl165_2
        replace p165 := eq_true p165
        replace q165 := eq_true q165
        go_wp2
        go_ret
        first | (exact ⟨by first | rfl | (simp [errW_none, errW_some] <;> rfl) | (simp [*, errW_none, errW_some] <;> rfl), by repeat (first | (with_reducible first | exact HB.out | apply below_alloc | apply pw_below_drewN | apply below_drew1 | refine below_set ?_ GE164.out) | exact HB.out)⟩) | (focus (exfalso; simp_all; done))
        all_goals (first | (exfalso; simp_all <;> omega) | (go_ret; exact ⟨by first | rfl | (simp [errW_none, errW_some] <;> rfl) | (simp [*, errW_none, errW_some] <;> rfl), by repeat (first | (with_reducible first | exact HB.out | apply below_alloc | apply pw_below_drewN | apply below_drew1 | refine below_set ?_ GE164.out) | exact HB.out)⟩))
       ·rw [if_neg c12] at H
        have c12b0 : decide (100 < (((rd_T25 l0_3 x3_2).f2).length : Int)) = false := decide_eq_false c12
        have c12b1 : decide (100 < ((rd_T25 l0_3 x3_2).f2).length) = false := decide_eq_false (by omega)
        clear c12
        have H' := Aside0.mk H
        clear H
        obtain ⟨hcz14_0, hcz14_1, hcz14_2, hcz14_3, hcz14_4⟩ := cells5 BK164.out
        obtain ⟨hfz14_0, hfz14_1, hfz14_2, hfz14_3, hfz14_4⟩ := froz5 BK164.out
        have p165 : 0 ≤ (x3_2 : Int) := of_decide_eq_true (by first | (with_reducible assumption) | assumption)
        have q165 : x3_2 < (l0_3.length : Int) := of_decide_eq_true (by first | (with_reducible assumption) | assumption)
        obtain ⟨ad165, A165_2, c165_2, e165, hx165_0, hx165_1, hx165_2, hl165_2, hi165_2⟩ := at_T25 HR0_3.out x3_2 p165 q165
        cases e165
        replace hx165_0 := (HB.out.cell (World.block_lt_of_cell? w _ hx165_0)).trans hx165_0
        replace hx165_1 := (HB.out.cell (World.block_lt_of_cell? w _ hx165_1)).trans hx165_1
        replace hx165_2 := (HB.out.cell (World.block_lt_of_cell? w _ hx165_2)).trans hx165_2
        have HR165_2 := Aside0.mk hi165_2
        have HC165_2 := Aside0.mk hl165_2
        clear hi165_2 hl165_2
        replace p165 := eq_true p165
        replace q165 := eq_true q165
        go_wp2
        go_roundg k2
        case measure => have := HJ1.out; have := HK2.out; omega
        case rel => exact ⟨(wrap64 (x3_2 + 1)), (by first | rfl | (simp; done) | (simp [*]; done) | (refine congrArg Value.bool ?_; rw [Bool.eq_iff_iff]; simp; done)), H', ⟨by have := HJ1.out; have := HK2.out; omega⟩, ⟨by (with_reducible repeat (first | refine blk_drewN ?_ _ | refine blk_drew ?_ | refine blk_alloc ?_ _)); exact BK164.out⟩, ⟨by repeat (first | (with_reducible first | exact HB.out | apply below_alloc | apply pw_below_drewN | apply below_drew1 | refine below_set ?_ GE164.out) | exact HB.out)⟩⟩
      ·rw [if_neg c10] at H
       have c10b0 : decide (x3_2 < (l0_3.length : Int)) = false := decide_eq_false c10
       clear c10
       have H' := Aside0.mk H
       clear H
       obtain ⟨hcz15_0, hcz15_1, hcz15_2, hcz15_3, hcz15_4⟩ := cells5 BK164.out
       obtain ⟨hfz15_0, hfz15_1, hfz15_2, hfz15_3, hfz15_4⟩ := froz5 BK164.out
       go_wp2
       go_loopg [4] k2 (fun kq v4 w' => ∃ (x4_3 : Int), v4 = .int .i64 x4_3 ∧ Aside0 (exequaturlaw16_small.l1 kq x4_3 a0_0 a0_1 a0_2 l0_3 l0_4 = some r) ∧ Aside0 (kq ≤ k2) ∧ Aside0 (w'.heap[gb164]? = some (.cells #[.string a0_0, .string a0_1, .string a0_2, (.slice A0_3 l0_3.length c0_3), (.slice A0_4 l0_4.length c0_4)] 31 (0, 0))) ∧ Aside0 (Below w.heap.size w w'))
       case atStart => exact ⟨(0), (by first | rfl | (simp; done) | (simp [*]; done) | (refine congrArg Value.bool ?_; rw [Bool.eq_iff_iff]; simp; done)), H', ⟨Nat.le_refl _⟩, ⟨by (with_reducible repeat (first | refine blk_drewN ?_ _ | refine blk_drew ?_ | refine blk_alloc ?_ _)); exact BK164.out⟩, ⟨by repeat (first | (with_reducible first | exact HB.out | apply below_alloc | apply pw_below_drewN | apply below_drew1 | refine below_set ?_ GE164.out) | exact HB.out)⟩⟩
       case round =>
        clear H'
        try clear c1; try clear p1; try clear q1; try clear hx1; try clear p2; try clear c4; try clear c4b0; try clear c4b1; try clear c6; try clear c6b0; try clear c6b1; try clear p6; try clear c9; try clear c10; try clear c10b0; try clear c11; try clear c11b0; try clear c12; try clear c12b0; try clear c12b1; try clear hcz13_0; try clear hcz13_1; try clear hcz13_2; try clear hcz13_3; try clear hcz13_4; try clear hcz14_0; try clear hcz14_1; try clear hcz14_2; try clear hcz14_3; try clear hcz14_4; try clear hcz15_0; try clear hcz15_1; try clear hcz15_2; try clear hcz15_3; try clear hcz15_4; try clear hcz5_0; try clear hcz5_1; try clear hcz5_2; try clear hcz5_3; try clear hcz5_4; try clear hcz7_0; try clear hcz7_1; try clear hcz7_2; try clear hcz7_3; try clear hcz7_4; try clear hcz8_0; try clear hcz8_1; try clear hcz8_2; try clear hcz8_3; try clear hcz8_4; try clear hfz13_0; try clear hfz13_1; try clear hfz13_2; try clear hfz13_3; try clear hfz13_4; try clear hfz14_0; try clear hfz14_1; try clear hfz14_2; try clear hfz14_3; try clear hfz14_4; try clear hfz15_0; try clear hfz15_1; try clear hfz15_2; try clear hfz15_3; try clear hfz15_4; try clear hfz5_0; try clear hfz5_1; try clear hfz5_2; try clear hfz5_3; try clear hfz5_4; try clear hfz7_0; try clear hfz7_1; try clear hfz7_2; try clear hfz7_3; try clear hfz7_4; try clear hfz8_0; try clear hfz8_1; try clear hfz8_2; try clear hfz8_3; try clear hfz8_4; try clear hx165_0; try clear hx165_1; try clear hx165_2; try clear p165; try clear p2; try clear q165
        obtain ⟨x4_3, rfl, HA, HK3, BK164, HB⟩ := hrel
        cases gk with
        | zero => exact absurd HA.out (by simp [exequaturlaw16_small.l1])
        | succ k3 =>
         have H := HA.out
         clear HA
         simp only [exequaturlaw16_small.l1] at H
         by_cases c16 : x4_3 < (l0_4.length : Int)
         ·rw [if_pos c16] at H
          have c16b0 : decide (x4_3 < (l0_4.length : Int)) = true := decide_eq_true c16
          clear c16
          by_cases c17 : 0 ≤ x4_3
          rotate_left
          ·rw [if_neg c17] at H; exact absurd H (by simp)
          rw [if_pos c17] at H
          have c17b0 : decide (0 ≤ x4_3) = true := decide_eq_true c17
          clear c17
          by_cases c18 : (((rd_T40 l0_4 x4_3).f6).size : Int) > 5000
          ·rw [if_pos c18] at H
           have c18b0 : decide (5000 < (((rd_T40 l0_4 x4_3).f6).size : Int)) = true := decide_eq_true c18
           have c18b1 : decide (5000 < ((rd_T40 l0_4 x4_3).f6).size) = true := decide_eq_true (by omega)
           clear c18
           obtain rfl := Option.some.inj H
           obtain ⟨hcz19_0, hcz19_1, hcz19_2, hcz19_3, hcz19_4⟩ := cells5 BK164.out
           obtain ⟨hfz19_0, hfz19_1, hfz19_2, hfz19_3, hfz19_4⟩ := froz5 BK164.out
           have p166 : 0 ≤ (x4_3 : Int) := of_decide_eq_true (by first | (with_reducible assumption) | assumption)
           have q166 : x4_3 < (l0_4.length : Int) := of_decide_eq_true (by first | (with_reducible assumption) | assumption)
           obtain ⟨ad166, e166, hx166_0, hx166_1, hx166_2, hx166_3, hx166_4, hx166_5, hx166_6⟩ := at_T40 HR0_4.out x4_3 p166 q166
           cases e166
           replace hx166_0 := (HB.out.cell (World.block_lt_of_cell? w _ hx166_0)).trans hx166_0
           replace hx166_1 := (HB.out.cell (World.block_lt_of_cell? w _ hx166_1)).trans hx166_1
           replace hx166_2 := (HB.out.cell (World.block_lt_of_cell? w _ hx166_2)).trans hx166_2
           replace hx166_3 := (HB.out.cell (World.block_lt_of_cell? w _ hx166_3)).trans hx166_3
           replace hx166_4 := (HB.out.cell (World.block_lt_of_cell? w _ hx166_4)).trans hx166_4
           replace hx166_5 := (HB.out.cell (World.block_lt_of_cell? w _ hx166_5)).trans hx166_5
           replace hx166_6 := (HB.out.cell (World.block_lt_of_cell? w _ hx166_6)).trans hx166_6
           replace p166 := eq_true p166
           replace q166 := eq_true q166
           go_wp2
           go_ret
           first | (exact ⟨by first | rfl | (simp [errW_none, errW_some] <;> rfl) | (simp [*, errW_none, errW_some] <;> rfl), by repeat (first | (with_reducible first | exact HB.out | apply below_alloc | apply pw_below_drewN | apply below_drew1 | refine below_set ?_ GE164.out) | exact HB.out)⟩) | (focus (exfalso; simp_all; done))
           all_goals (first | (exfalso; simp_all <;> omega) | (go_ret; exact ⟨by first | rfl | (simp [errW_none, errW_some] <;> rfl) | (simp [*, errW_none, errW_some] <;> rfl), by repeat (first | (with_reducible first | exact HB.out | apply below_alloc | apply pw_below_drewN | apply below_drew1 | refine below_set ?_ GE164.out) | exact HB.out)⟩))
          ·rw [if_neg c18] at H
           have c18b0 : decide (5000 < (((rd_T40 l0_4 x4_3).f6).size : Int)) = false := decide_eq_false c18
           have c18b1 : decide (5000 < ((rd_T40 l0_4 x4_3).f6).size) = false := decide_eq_false (by omega)
           clear c18
           have H' := Aside0.mk H
           clear H
           obtain ⟨hcz20_0, hcz20_1, hcz20_2, hcz20_3, hcz20_4⟩ := cells5 BK164.out
           obtain ⟨hfz20_0, hfz20_1, hfz20_2, hfz20_3, hfz20_4⟩ := froz5 BK164.out
           have p166 : 0 ≤ (x4_3 : Int) := of_decide_eq_true (by first | (with_reducible assumption) | assumption)
           have q166 : x4_3 < (l0_4.length : Int) := of_decide_eq_true (by first | (with_reducible assumption) | assumption)
           obtain ⟨ad166, e166, hx166_0, hx166_1, hx166_2, hx166_3, hx166_4, hx166_5, hx166_6⟩ := at_T40 HR0_4.out x4_3 p166 q166
           cases e166
           replace hx166_0 := (HB.out.cell (World.block_lt_of_cell? w _ hx166_0)).trans hx166_0
           replace hx166_1 := (HB.out.cell (World.block_lt_of_cell? w _ hx166_1)).trans hx166_1
           replace hx166_2 := (HB.out.cell (World.block_lt_of_cell? w _ hx166_2)).trans hx166_2
           replace hx166_3 := (HB.out.cell (World.block_lt_of_cell? w _ hx166_3)).trans hx166_3
           replace hx166_4 := (HB.out.cell (World.block_lt_of_cell? w _ hx166_4)).trans hx166_4
           replace hx166_5 := (HB.out.cell (World.block_lt_of_cell? w _ hx166_5)).trans hx166_5
           replace hx166_6 := (HB.out.cell (World.block_lt_of_cell? w _ hx166_6)).trans hx166_6
           replace p166 := eq_true p166
           replace q166 := eq_true q166
           go_wp2
           go_roundg k3
           case measure => have := HJ1.out; have := HK2.out; have := HK3.out; omega
           case rel => exact ⟨(wrap64 (x4_3 + 1)), (by first | rfl | (simp; done) | (simp [*]; done) | (refine congrArg Value.bool ?_; rw [Bool.eq_iff_iff]; simp; done)), H', ⟨by have := HJ1.out; have := HK2.out; have := HK3.out; omega⟩, ⟨by (with_reducible repeat (first | refine blk_drewN ?_ _ | refine blk_drew ?_ | refine blk_alloc ?_ _)); exact BK164.out⟩, ⟨by repeat (first | (with_reducible first | exact HB.out | apply below_alloc | apply pw_below_drewN | apply below_drew1 | refine below_set ?_ GE164.out) | exact HB.out)⟩⟩
         ·rw [if_neg c16] at H
          have c16b0 : decide (x4_3 < (l0_4.length : Int)) = false := decide_eq_false c16
          clear c16
          obtain rfl := Option.some.inj H
          obtain ⟨hcz21_0, hcz21_1, hcz21_2, hcz21_3, hcz21_4⟩ := cells5 BK164.out
          obtain ⟨hfz21_0, hfz21_1, hfz21_2, hfz21_3, hfz21_4⟩ := froz5 BK164.out
          go_wp2
          go_ret
          first | (exact ⟨by first | rfl | (simp [errW_none, errW_some] <;> rfl) | (simp [*, errW_none, errW_some] <;> rfl), by repeat (first | (with_reducible first | exact HB.out | apply below_alloc | apply pw_below_drewN | apply below_drew1 | refine below_set ?_ GE164.out) | exact HB.out)⟩) | (focus (exfalso; simp_all; done))
          all_goals (first | (exfalso; simp_all <;> omega) | (go_ret; exact ⟨by first | rfl | (simp [errW_none, errW_some] <;> rfl) | (simp [*, errW_none, errW_some] <;> rfl), by repeat (first | (with_reducible first | exact HB.out | apply below_alloc | apply pw_below_drewN | apply below_drew1 | refine below_set ?_ GE164.out) | exact HB.out)⟩))

/-! ### exequaturref13_Client: function 13 -/
def exequaturref13_Client.l0 : Nat → ByteArray → Int → ByteArray → ByteArray → ByteArray → List (S25) → List (S40) → Option (ByteArray × ByteArray × List ByteArray × Bool)
  | 0, _, _, _, _, _, _, _ => none
  | k + 1, x1, x6, x168000, x168001, x168002, x168003, x168004 => if x6 < (x168003.length : Int) then (if 0 ≤ x6 then (if ((rd_T25 x168003 x6).f0).toList = x1.toList then (some ((rd_T25 x168003 x6).f0, (rd_T25 x168003 x6).f1, (rd_T25 x168003 x6).f2, true)) else (exequaturref13_Client.l0 k x1 (wrap64 (x6 + 1)) x168000 x168001 x168002 x168003 x168004)) else (none)) else (some ((⟨#[]⟩ : ByteArray), (⟨#[]⟩ : ByteArray), ([] : List ByteArray), false))
def exequaturref13_Client.f (k : Nat) (a0_0 : ByteArray) (a0_1 : ByteArray) (a0_2 : ByteArray) (l0_3 : List (S25)) (l0_4 : List (S40)) (a1 : ByteArray) : Option (ByteArray × ByteArray × List ByteArray × Bool) := exequaturref13_Client.l0 k a1 0 a0_0 a0_1 a0_2 l0_3 l0_4
theorem exequaturref13_Client.mono_l : ∀ k, (∀ y0 y1 y2 y3 y4 y5 y6, LeO (exequaturref13_Client.l0 k y0 y1 y2 y3 y4 y5 y6) (exequaturref13_Client.l0 (k + 1) y0 y1 y2 y3 y4 y5 y6))
  | 0 => fun _ _ _ _ _ _ _ r h => by simp [exequaturref13_Client.l0] at h
  | k + 1 => by
    have ih0 := exequaturref13_Client.mono_l k
    · intro y0 y1 y2 y3 y4 y5 y6
      unfold exequaturref13_Client.l0
      repeat' first
      | (with_reducible exact ih0 _ _ _ _ _ _ _)
      | (with_reducible exact LeO.refl _)
      | (with_reducible exact LeO.none _)
      | (with_reducible refine LeO.ite ?_ ?_)
      | (with_reducible refine LeO.bind ?_ (fun _ => ?_))
      | exact ih0 _ _ _ _ _ _ _
      | exact LeO.none _
      | refine LeO.ite ?_ ?_
      | refine LeO.bind ?_ (fun _ => ?_)
theorem exequaturref13_Client.mono : ∀ a0 a1 a2 a3 a4 a5 k, LeO (exequaturref13_Client.f k a0 a1 a2 a3 a4 a5) (exequaturref13_Client.f (k + 1) a0 a1 a2 a3 a4 a5) := by
  intro a0 a1 a2 a3 a4 a5 k
  have ih0 := exequaturref13_Client.mono_l k
  unfold exequaturref13_Client.f
  repeat' first
      | (with_reducible exact ih0 _ _ _ _ _ _ _)
      | (with_reducible exact LeO.refl _)
      | (with_reducible exact LeO.none _)
      | (with_reducible refine LeO.ite ?_ ?_)
      | (with_reducible refine LeO.bind ?_ (fun _ => ?_))
      | exact ih0 _ _ _ _ _ _ _
      | exact LeO.none _
      | refine LeO.ite ?_ ?_
      | refine LeO.bind ?_ (fun _ => ?_)
set_option maxHeartbeats 8000000 in
set_option maxRecDepth 100000 in
theorem exequaturref13_Client.calls (k : Nat) (a0_0 : ByteArray) (a0_1 : ByteArray) (a0_2 : ByteArray) (P0_3_ : Nat → Prop) (A0_3 : Option Addr) (c0_3 : Nat) (l0_3 : List (S25)) (A0_4 : Option Addr) (c0_4 : Nat) (l0_4 : List (S40)) (a1 : ByteArray) (r1 : ByteArray) (r2 : ByteArray) (r3 : List ByteArray) (r4 : Bool) (w : World) (hs0_3 : Kd.V k25 25 w w.heap.size (fun k_ => P0_3_ k_) (.slice A0_3 l0_3.length c0_3) l0_3) (hr0_4 : Kd.C k40 w A0_4 l0_4.length l0_4) (hc0_4 : l0_4.length ≤ c0_4) (h : exequaturref13_Client.f k a0_0 a0_1 a0_2 l0_3 l0_4 a1 = some (r1, r2, r3, r4)) :
  Calls Tryd.prog 13 #[.agg #[.string a0_0, .string a0_1, .string a0_2, .slice A0_3 l0_3.length c0_3, .slice A0_4 l0_4.length c0_4], .string a1] w fun e w' => ∃ v2_ : Value, e = .returned (.tuple #[.agg #[.string r1, .string r2, v2_], .bool r4]) ∧ Kd.V Kd.string 9 w' w.heap.size (fun k_ => (P0_3_ k_ ∨ w.heap.size ≤ k_)) v2_ r3 ∧ Below w.heap.size w w' := by
 have hu31 := Tryd.underlying31
 have hu25 := Tryd.underlying25
 have HO0_3 := Aside0.mk (show Kd.V k25 25 w w.heap.size (fun k_ => (P0_3_ k_ ∨ w.heap.size ≤ k_)) (.slice A0_3 l0_3.length c0_3) l0_3 from Kd.V_mono hs0_3 (fun k_ hk => .inl hk))
 have HR0_4 := Aside0.mk hr0_4
 have HC0_4 := Aside0.mk hc0_4
 clear hr0_4 hc0_4
 have HB := Aside0.mk (Below.refl w.heap.size w)
 have H : (exequaturref13_Client.l0 k a1 0 a0_0 a0_1 a0_2 l0_3 l0_4) = some (r1, r2, r3, r4) := h
 clear h
 have H' := Aside0.mk H
 clear H
 go_enter Tryd.func13, Tryd.ntmps13
 go_wp2_with (first | ((with_reducible refine gate_dst (N := 2) rfl ?_); refine box_event ?hg (N := 2) ?hd (cs := #[.string a0_0, .string a0_1, .string a0_2, .slice A0_3 l0_3.length c0_3, .slice A0_4 l0_4.length c0_4]) (t := 31) ?hr ?_; (case hd => rfl); (case hg => rfl); (case hr => first | (go_simp; done) | (go_simp; rfl)); intro gb167 hg w3 hbox hb; have n0_ := Aside0.mk (Kd.V_below (Kd.V_elderB (by (with_reducible repeat (first | apply Kd.V_alloc | apply Kd.V_drewN | apply Kd.V_drew)); exact HO0_3.out) gb167 (Nat.le_of_eq hg.symm)) hb); have n1_ := Aside0.mk (below_step (by repeat (first | (with_reducible first | exact HB.out | apply below_alloc | apply pw_below_drewN | apply below_drew1) | exact HB.out)) hb); have n2_ := Aside0.mk (hbox); have n3_ := Aside0.mk ((by rw [hg]; exact (below_size (by repeat (first | (with_reducible first | exact HB.out | apply below_alloc | apply pw_below_drewN | apply below_drew1) | exact HB.out))) : w.heap.size ≤ gb167)); have n4_ := Aside0.mk ((by rw [hg]; exact (below_size (by repeat (first | (with_reducible first | exact HB.out | apply below_alloc | apply pw_below_drewN | apply below_drew1) | exact HB.out))) : w.heap.size ≤ gb167)); clear HO0_3; clear HB; have HO0_3 := n0_; have HB := n1_; have BK167 := n2_; have GW167 := n3_; have GE167 := n4_; clear n0_ n1_ n2_ n3_ n4_; clear hb hbox hg) | ((with_reducible refine gate_dst (N := 4) rfl ?_); refine box_event ?hg (N := 4) ?hd (cs := #[.string (⟨#[]⟩ : ByteArray), .string (⟨#[]⟩ : ByteArray), .slice none 0 0]) (t := 25) ?hr ?_; (case hd => rfl); (case hg => rfl); (case hr => first | (go_simp; done) | (go_simp; rfl)); intro gb168 hg w4 hbox hb; have n0_ := Aside0.mk (Kd.V_below (Kd.V_elderB (by (with_reducible repeat (first | apply Kd.V_alloc | apply Kd.V_drewN | apply Kd.V_drew)); exact HO0_3.out) gb168 (Nat.le_of_eq hg.symm)) hb); have n1_ := Aside0.mk (blk_belowB BK167.out (by (with_reducible repeat (first | refine blk_drewN ?_ _ | refine blk_drew ?_ | refine blk_alloc ?_ _)); exact BK167.out) hb); have n2_ := Aside0.mk (below_step (by repeat (first | (with_reducible first | exact HB.out | apply below_alloc | apply pw_below_drewN | apply below_drew1 | refine below_set ?_ GE167.out) | exact HB.out)) hb); have n3_ := Aside0.mk (hbox); have n4_ := Aside0.mk ((by rw [hg]; exact (below_size (by repeat (first | (with_reducible first | exact HB.out | apply below_alloc | apply pw_below_drewN | apply below_drew1 | refine below_set ?_ GE167.out) | exact HB.out))) : w.heap.size ≤ gb168)); have n5_ := Aside0.mk ((by rw [hg]; exact (below_size (by repeat (first | (with_reducible first | exact HB.out | apply below_alloc | apply pw_below_drewN | apply below_drew1 | refine below_set ?_ GE167.out) | exact HB.out))) : w.heap.size ≤ gb168)); have n6_ := Aside0.mk ((by rw [hg]; exact Nat.ne_of_lt (blk_lt (g := gb167) (o := .cells #[.string a0_0, .string a0_1, .string a0_2, .slice A0_3 l0_3.length c0_3, .slice A0_4 l0_4.length c0_4] 31 (0, 0)) (by (with_reducible repeat (first | refine blk_drewN ?_ _ | refine blk_drew ?_ | refine blk_alloc ?_ _)); exact BK167.out)) : gb167 ≠ gb168)); have n7_ := Aside0.mk ((by rw [hg]; exact Nat.ne_of_gt (blk_lt (g := gb167) (o := .cells #[.string a0_0, .string a0_1, .string a0_2, .slice A0_3 l0_3.length c0_3, .slice A0_4 l0_4.length c0_4] 31 (0, 0)) (by (with_reducible repeat (first | refine blk_drewN ?_ _ | refine blk_drew ?_ | refine blk_alloc ?_ _)); exact BK167.out)) : gb168 ≠ gb167)); clear HO0_3; clear BK167; clear HB; have HO0_3 := n0_; have BK167 := n1_; have HB := n2_; have BK168 := n3_; have GW168 := n4_; have GE168 := n5_; have NB167_168 := n6_; have NB168_167 := n7_; clear n0_ n1_ n2_ n3_ n4_ n5_ n6_ n7_; clear hb hbox hg))
 go_loopg [6] k (fun kq v6 w' => ∃ (x6_1 : Int) (x169000_1 : ByteArray) (x169001_1 : ByteArray), v6 = .int .i64 x6_1 ∧ Aside0 (exequaturref13_Client.l0 kq a1 x6_1 a0_0 a0_1 a0_2 l0_3 l0_4 = some (r1, r2, r3, r4)) ∧ Aside0 (kq ≤ k) ∧ Aside0 (Kd.V k25 25 w' w.heap.size (fun k_ => (P0_3_ k_ ∨ w.heap.size ≤ k_) ∧ k_ ≠ gb167 ∧ k_ ≠ gb168) (.slice A0_3 l0_3.length c0_3) l0_3) ∧ Aside0 (w'.heap[gb167]? = some (.cells #[.string a0_0, .string a0_1, .string a0_2, (.slice A0_3 l0_3.length c0_3), (.slice A0_4 l0_4.length c0_4)] 31 (0, 0))) ∧ Aside0 (w'.heap[gb168]? = some (.cells #[.string x169000_1, .string x169001_1, (.slice none 0 0)] 25 (0, 0))) ∧ Aside0 (Below w.heap.size w w'))
 case atStart => exact ⟨(0), ((⟨#[]⟩ : ByteArray)), ((⟨#[]⟩ : ByteArray)), (by first | rfl | (simp; done) | (simp [*]; done) | (refine congrArg Value.bool ?_; rw [Bool.eq_iff_iff]; simp; done)), H', ⟨Nat.le_refl _⟩, ⟨by (with_reducible repeat (first | apply Kd.V_alloc | apply Kd.V_drewN | apply Kd.V_drew)); exact Kd.V_mono HO0_3.out (fun _ hk => ⟨hk.1.1, ⟨hk.1.2, hk.2⟩⟩)⟩, ⟨by (with_reducible repeat (first | refine blk_drewN ?_ _ | refine blk_drew ?_ | refine blk_alloc ?_ _)); exact BK167.out⟩, ⟨by (with_reducible repeat (first | refine blk_drewN ?_ _ | refine blk_drew ?_ | refine blk_alloc ?_ _)); exact BK168.out⟩, ⟨by repeat (first | (with_reducible first | exact HB.out | apply below_alloc | apply pw_below_drewN | apply below_drew1 | refine below_set ?_ GE167.out | refine below_set ?_ GE168.out) | exact HB.out)⟩⟩
 case round =>
  clear H'
  try clear c1; try clear p2
  obtain ⟨x6_1, x169000_1, x169001_1, rfl, HA, HK1, HO_168003, BK167, BK168, HB⟩ := hrel
  cases gk with
  | zero => exact absurd HA.out (by simp [exequaturref13_Client.l0])
  | succ k1 =>
   have H := HA.out
   clear HA
   simp only [exequaturref13_Client.l0] at H
   by_cases c5 : x6_1 < (l0_3.length : Int)
   ·rw [if_pos c5] at H
    have c5b0 : decide (x6_1 < (l0_3.length : Int)) = true := decide_eq_true c5
    clear c5
    by_cases c6 : 0 ≤ x6_1
    rotate_left
    ·rw [if_neg c6] at H; exact absurd H (by simp)
    rw [if_pos c6] at H
    have c6b0 : decide (0 ≤ x6_1) = true := decide_eq_true c6
    clear c6
    by_cases c7 : ((rd_T25 l0_3 x6_1).f0).toList = a1.toList
    ·rw [if_pos c7] at H
     have c7b0 : (((rd_T25 l0_3 x6_1).f0).toList == a1.toList) = true := beq_iff_eq.mpr c7
     have c7b1 : (((rd_T25 l0_3 x6_1).f0).toList != a1.toList) = false := bne_eq_false_iff_eq.mpr c7
     clear c7
     simp only [Option.some.injEq, Prod.mk.injEq] at H
     obtain ⟨rfl, rfl, rfl, rfl⟩ := H
     have hnb8 := NB167_168.out
     have hnc8 := NB168_167.out
     obtain ⟨hcz9_0, hcz9_1, hcz9_2, hcz9_3, hcz9_4⟩ := cells5 BK167.out
     obtain ⟨hfz9_0, hfz9_1, hfz9_2, hfz9_3, hfz9_4⟩ := froz5 BK167.out
     have p169 : 0 ≤ (x6_1 : Int) := of_decide_eq_true (by first | (with_reducible assumption) | assumption)
     have q169 : x6_1 < (l0_3.length : Int) := of_decide_eq_true (by first | (with_reducible assumption) | assumption)
     obtain ⟨ad169, A169_2, c169_2, e169, hx169_0, hx169_1, hx169_2, hl169_2, hi169_2⟩ := at_T25 (Kd.V_reads' HO_168003.out).2.2 x6_1 p169 q169
     cases e169
     obtain ⟨ce169, hce169, hMe169, hcc169⟩ := Kd.V_get HO_168003.out z25 x6_1 p169 (by first | exact q169 | exact of_decide_eq_true (by first | (with_reducible assumption) | assumption) | (have e_ := (Kd.V_reads' HO_168003.out).1; omega))
     obtain ⟨ua169_2, uc169_2, rfl, ul169_2, ge169_2⟩ := k25_openF hMe169
     have hv169_2 := hcc169 2 _ rfl
     rw [add_field _ _ 2 (by omega)] at hv169_2
     replace hv169_2 := Option.some.inj (hv169_2.symm.trans hx169_2)
     injection hv169_2 with hva_ hvn_ hvc_
     rw [hva_] at ge169_2
     rw [hvc_] at ul169_2
     have HL169_2 := Aside0.mk (show Kd.V Kd.string 9 _ w.heap.size _ _ ((rd_T25 l0_3 x6_1).f2) from Kd.V_mk ul169_2 ge169_2)
     clear hva_ hvn_ hvc_ ge169_2 ul169_2; clear hcc169 hce169
     have HR169_2 := Aside0.mk hi169_2
     have HC169_2 := Aside0.mk hl169_2
     clear hi169_2 hl169_2
     replace p169 := eq_true p169
     replace q169 := eq_true q169
     have p170 : 0 ≤ (x6_1 : Int) := of_decide_eq_true (by first | (with_reducible assumption) | assumption)
     have q170 : x6_1 < (l0_3.length : Int) := of_decide_eq_true (by first | (with_reducible assumption) | assumption)
     obtain ⟨ad170, A170_2, c170_2, e170, hx170_0, hx170_1, hx170_2, hl170_2, hi170_2⟩ := at_T25 (Kd.V_reads' HO_168003.out).2.2 x6_1 p170 q170
     obtain rfl : ad169 = ad170 := (by injection e170)
     obtain ⟨ce170, hce170, hMe170, hcc170⟩ := Kd.V_get HO_168003.out z25 x6_1 p170 (by first | exact q170 | exact of_decide_eq_true (by first | (with_reducible assumption) | assumption) | (have e_ := (Kd.V_reads' HO_168003.out).1; omega))
     obtain ⟨ua170_2, uc170_2, rfl, ul170_2, ge170_2⟩ := k25_openF hMe170
     have hv170_2 := hcc170 2 _ rfl
     rw [add_field _ _ 2 (by omega)] at hv170_2
     replace hv170_2 := Option.some.inj (hv170_2.symm.trans hx170_2)
     injection hv170_2 with hva_ hvn_ hvc_
     rw [hva_] at ge170_2
     rw [hvc_] at ul170_2
     have HL170_2 := Aside0.mk (show Kd.V Kd.string 9 _ w.heap.size _ _ ((rd_T25 l0_3 x6_1).f2) from Kd.V_mk ul170_2 ge170_2)
     clear hva_ hvn_ hvc_ ge170_2 ul170_2; clear hcc170 hce170
     have HR170_2 := Aside0.mk hi170_2
     have HC170_2 := Aside0.mk hl170_2
     clear hi170_2 hl170_2
     replace p170 := eq_true p170
     replace q170 := eq_true q170
     have ea_ := Option.some.inj (hx169_2.symm.trans hx170_2)
     injection ea_ with ea_ en_ ec_
     subst ea_
     subst ec_
     clear en_
     have hcz10_0 : wr.cell? ⟨gb168, 0, none⟩ = some (.string x169000_1) := (blk_cell BK168.out 0).trans rfl
     have hcz10_1 : wr.cell? ⟨gb168, 1, none⟩ = some (.string x169001_1) := (blk_cell BK168.out 1).trans rfl
     have hcz10_2 : wr.cell? ⟨gb168, 2, none⟩ = some (.slice none 0 0) := (blk_cell BK168.out 2).trans rfl
     have hfz10_0 := blk_frozen BK168.out 0
     have hfz10_1 := blk_frozen BK168.out 1
     have hfz10_2 := blk_frozen BK168.out 2
     go_wp2
     refine bodyPost_ret (results_ct rfl _ _ gb168 25 #[.string ((rd_T25 l0_3 x6_1).f0), .string ((rd_T25 l0_3 x6_1).f1), .slice A169_2 ((rd_T25 l0_3 x6_1).f2).length c169_2] (0, 0) _ rfl (by (with_reducible repeat (first | refine blk_drewN ?_ _ | refine blk_drew ?_ | refine blk_alloc ?_ _)); refine fillR (cs := ?cs_) rfl rfl ?h_ ?l_; (case h_ => (with_reducible repeat (first | refine blk_drewN ?_ _ | refine blk_drew ?_ | refine blk_alloc ?_ _)); exact BK168.out); (case l_ => rfl)) Tryd.underlying25 rfl (by kernel_rfl)) rfl ?_
     first | (exact ⟨_, by first | rfl | (simp [errW_none, errW_some] <;> rfl) | (simp [*, errW_none, errW_some] <;> rfl), by (with_reducible repeat (first | apply Kd.V_alloc | apply Kd.V_drewN | apply Kd.V_drew)); exact Kd.V_mono (Kd.V_far (p := ⟨gb168, 2, none⟩) (Kd.V_far (p := ⟨gb168, 1, none⟩) (Kd.V_far (p := ⟨gb168, 0, none⟩) (Kd.V_mono HL170_2.out (fun k_ hk => (⟨hk, hk.2.2⟩ : _ ∧ k_ ≠ gb168))) (fun _ hk => hk.2) (.string ((rd_T25 l0_3 x6_1).f0))) (fun _ hk => hk.2) (.string ((rd_T25 l0_3 x6_1).f1))) (fun _ hk => hk.2) (.slice A169_2 ((rd_T25 l0_3 x6_1).f2).length c169_2)) (fun _ hk => hk.1.1), by repeat (first | (with_reducible first | exact HB.out | apply below_alloc | apply pw_below_drewN | apply below_drew1 | refine below_set ?_ GE167.out | refine below_set ?_ GE168.out) | exact HB.out)⟩) | (focus (exfalso; simp_all; done))
     all_goals (first | (exfalso; simp_all <;> omega) | (go_ret; exact ⟨_, by first | rfl | (simp [errW_none, errW_some] <;> rfl) | (simp [*, errW_none, errW_some] <;> rfl), by (with_reducible repeat (first | apply Kd.V_alloc | apply Kd.V_drewN | apply Kd.V_drew)); exact Kd.V_mono (Kd.V_far (p := ⟨gb168, 2, none⟩) (Kd.V_far (p := ⟨gb168, 1, none⟩) (Kd.V_far (p := ⟨gb168, 0, none⟩) (Kd.V_mono HL170_2.out (fun k_ hk => (⟨hk, hk.2.2⟩ : _ ∧ k_ ≠ gb168))) (fun _ hk => hk.2) (.string ((rd_T25 l0_3 x6_1).f0))) (fun _ hk => hk.2) (.string ((rd_T25 l0_3 x6_1).f1))) (fun _ hk => hk.2) (.slice A169_2 ((rd_T25 l0_3 x6_1).f2).length c169_2)) (fun _ hk => hk.1.1), by repeat (first | (with_reducible first | exact HB.out | apply below_alloc | apply pw_below_drewN | apply below_drew1 | refine below_set ?_ GE167.out | refine below_set ?_ GE168.out) | exact HB.out)⟩))
    ·rw [if_neg c7] at H
     have c7b0 : (((rd_T25 l0_3 x6_1).f0).toList == a1.toList) = false := beq_eq_false_iff_ne.mpr c7
     have c7b1 : (((rd_T25 l0_3 x6_1).f0).toList != a1.toList) = true := bne_iff_ne.mpr c7
     have H' := Aside0.mk H
     clear H
     have hnb11 := NB167_168.out
     have hnc11 := NB168_167.out
     obtain ⟨hcz12_0, hcz12_1, hcz12_2, hcz12_3, hcz12_4⟩ := cells5 BK167.out
     obtain ⟨hfz12_0, hfz12_1, hfz12_2, hfz12_3, hfz12_4⟩ := froz5 BK167.out
     have p169 : 0 ≤ (x6_1 : Int) := of_decide_eq_true (by first | (with_reducible assumption) | assumption)
     have q169 : x6_1 < (l0_3.length : Int) := of_decide_eq_true (by first | (with_reducible assumption) | assumption)
     obtain ⟨ad169, A169_2, c169_2, e169, hx169_0, hx169_1, hx169_2, hl169_2, hi169_2⟩ := at_T25 (Kd.V_reads' HO_168003.out).2.2 x6_1 p169 q169
     cases e169
     obtain ⟨ce169, hce169, hMe169, hcc169⟩ := Kd.V_get HO_168003.out z25 x6_1 p169 (by first | exact q169 | exact of_decide_eq_true (by first | (with_reducible assumption) | assumption) | (have e_ := (Kd.V_reads' HO_168003.out).1; omega))
     obtain ⟨ua169_2, uc169_2, rfl, ul169_2, ge169_2⟩ := k25_openF hMe169
     have hv169_2 := hcc169 2 _ rfl
     rw [add_field _ _ 2 (by omega)] at hv169_2
     replace hv169_2 := Option.some.inj (hv169_2.symm.trans hx169_2)
     injection hv169_2 with hva_ hvn_ hvc_
     rw [hva_] at ge169_2
     rw [hvc_] at ul169_2
     have HL169_2 := Aside0.mk (show Kd.V Kd.string 9 _ w.heap.size _ _ ((rd_T25 l0_3 x6_1).f2) from Kd.V_mk ul169_2 ge169_2)
     clear hva_ hvn_ hvc_ ge169_2 ul169_2; clear hcc169 hce169
     have HR169_2 := Aside0.mk hi169_2
     have HC169_2 := Aside0.mk hl169_2
     clear hi169_2 hl169_2
     replace p169 := eq_true p169
     replace q169 := eq_true q169
     go_wp2
     go_roundg k1
     case measure => have := HK1.out; omega
     case rel => exact ⟨(wrap64 (x6_1 + 1)), (x169000_1), (x169001_1), (by first | rfl | (simp; done) | (simp [*]; done) | (refine congrArg Value.bool ?_; rw [Bool.eq_iff_iff]; simp; done)), H', ⟨by have := HK1.out; omega⟩, ⟨by (with_reducible repeat (first | apply Kd.V_alloc | apply Kd.V_drewN | apply Kd.V_drew)); exact HO_168003.out⟩, ⟨by (with_reducible repeat (first | refine blk_drewN ?_ _ | refine blk_drew ?_ | refine blk_alloc ?_ _)); exact BK167.out⟩, ⟨by (with_reducible repeat (first | refine blk_drewN ?_ _ | refine blk_drew ?_ | refine blk_alloc ?_ _)); exact BK168.out⟩, ⟨by repeat (first | (with_reducible first | exact HB.out | apply below_alloc | apply pw_below_drewN | apply below_drew1 | refine below_set ?_ GE167.out | refine below_set ?_ GE168.out) | exact HB.out)⟩⟩
   ·rw [if_neg c5] at H
    have c5b0 : decide (x6_1 < (l0_3.length : Int)) = false := decide_eq_false c5
    clear c5
    simp only [Option.some.injEq, Prod.mk.injEq] at H
    obtain ⟨rfl, rfl, rfl, rfl⟩ := H
    have hnb13 := NB167_168.out
    have hnc13 := NB168_167.out
    obtain ⟨hcz14_0, hcz14_1, hcz14_2, hcz14_3, hcz14_4⟩ := cells5 BK167.out
    obtain ⟨hfz14_0, hfz14_1, hfz14_2, hfz14_3, hfz14_4⟩ := froz5 BK167.out
    have hcz15_0 : wr.cell? ⟨gb168, 0, none⟩ = some (.string x169000_1) := (blk_cell BK168.out 0).trans rfl
    have hcz15_1 : wr.cell? ⟨gb168, 1, none⟩ = some (.string x169001_1) := (blk_cell BK168.out 1).trans rfl
    have hcz15_2 : wr.cell? ⟨gb168, 2, none⟩ = some (.slice none 0 0) := (blk_cell BK168.out 2).trans rfl
    have hfz15_0 := blk_frozen BK168.out 0
    have hfz15_1 := blk_frozen BK168.out 1
    have hfz15_2 := blk_frozen BK168.out 2
    go_wp2
    refine bodyPost_ret (results_ct rfl _ _ gb168 25 #[.string (⟨#[]⟩ : ByteArray), .string (⟨#[]⟩ : ByteArray), .slice none 0 0] (0, 0) _ rfl (by (with_reducible repeat (first | refine blk_drewN ?_ _ | refine blk_drew ?_ | refine blk_alloc ?_ _)); refine fillR (cs := ?cs2_) rfl rfl ?h2_ ?l2_; (case h2_ => (with_reducible repeat (first | refine blk_drewN ?_ _ | refine blk_drew ?_ | refine blk_alloc ?_ _)); exact BK168.out); (case l2_ => rfl)) Tryd.underlying25 rfl (by kernel_rfl)) rfl ?_
    first | (exact ⟨_, by first | rfl | (simp [errW_none, errW_some] <;> rfl) | (simp [*, errW_none, errW_some] <;> rfl), Kd.V_mono (Kd.V_nil _ _ _ _ _) (fun k_ hk => by first | exact ⟨(.inr (hk.1)), hk.2⟩ | exact (.inr (hk))), by repeat (first | (with_reducible first | exact HB.out | apply below_alloc | apply pw_below_drewN | apply below_drew1 | refine below_set ?_ GE167.out | refine below_set ?_ GE168.out) | exact HB.out)⟩) | (focus (exfalso; simp_all; done))
    all_goals (first | (exfalso; simp_all <;> omega) | (go_ret; exact ⟨_, by first | rfl | (simp [errW_none, errW_some] <;> rfl) | (simp [*, errW_none, errW_some] <;> rfl), Kd.V_mono (Kd.V_nil _ _ _ _ _) (fun k_ hk => by first | exact ⟨(.inr (hk.1)), hk.2⟩ | exact (.inr (hk))), by repeat (first | (with_reducible first | exact HB.out | apply below_alloc | apply pw_below_drewN | apply below_drew1 | refine below_set ?_ GE167.out | refine below_set ?_ GE168.out) | exact HB.out)⟩))

end Go.Proofs.YtkcgalpagpgfhaaDoor.X
