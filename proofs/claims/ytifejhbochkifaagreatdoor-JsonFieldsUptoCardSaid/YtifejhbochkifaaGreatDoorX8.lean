-- Lean text made by xprint.py (ours) out of the seat's translation. Lean checks it.
import Derived.Test.YtifejhbochkifaaGreatDoorX0
import Derived.Test.YtifejhbochkifaaGreatDoorHDec
namespace Go.Proofs.YtifejhbochkifaaGreatDoor.X
open Go.RowKit Go.Proofs.YtifejhbochkifaaGreatDoorW.PrintWords Go.Proofs.YtifejhbochkifaaGreatDoorW.PrintLast Go.Proofs.YtifejhbochkifaaGreatDoorW.PrintMore
attribute [local go_sem] max2_int min2_int max_two min_two max_three min_three max_four min_four   -- for this text's walks alone
set_option linter.unusedVariables false
set_option linter.unusedSimpArgs false

/-! ### exequaturref01_quote: function 55 -/
mutual
def exequaturref01_quote.l0 : Nat → ByteArray → List Int → Int → Option (ByteArray)
  | 0, _, _, _ => none
  | k + 1, x0, x3, x4 => if x4 < (x0.size : Int) then (if 0 ≤ x4 then (if (bt x0 x4) = 34 then (exequaturref01_quote.j1 k x0 x3 x4 true) else (exequaturref01_quote.j1 k x0 x3 x4 ((bt x0 x4) == 92))) else (none)) else (if x3.length < 140737488355328 then (some (strOfNums (x3 ++ [34]))) else (none))
def exequaturref01_quote.j1 : Nat → ByteArray → List Int → Int → Bool → Option (ByteArray)
  | 0, _, _, _, _ => none
  | k + 1, x0, x3, x4, x18 => if x18 = true then (if 0 ≤ x4 then (if x4 < (x0.size : Int) then ((some (([92, bt x0 x4] : List Int) : List Int)).bind fun y155 => (if x3.length + y155.length < 140737488355328 then (exequaturref01_quote.l0 k x0 (x3 ++ y155) (wrap64 (x4 + 1))) else (none))) else (none)) else (none)) else (if 0 ≤ x4 then (if x4 < (x0.size : Int) then (if (bt x0 x4) < 32 then (if 0 ≤ (Int.tmod (bt x0 x4) 16) then (if (Int.tmod (bt x0 x4) 16) < 16 then ((some (([92, 117, 48, 48, (48 + ((Int.tdiv (bt x0 x4) 16) % 256)) % 256, bt (⟨#[48, 49, 50, 51, 52, 53, 54, 55, 56, 57, 97, 98, 99, 100, 101, 102]⟩ : ByteArray) (Int.tmod (bt x0 x4) 16)] : List Int) : List Int)).bind fun y161 => (if x3.length + y161.length < 140737488355328 then (exequaturref01_quote.l0 k x0 (x3 ++ y161) (wrap64 (x4 + 1))) else (none))) else (none)) else (none)) else (if x3.length < 140737488355328 then (exequaturref01_quote.l0 k x0 (x3 ++ [bt x0 x4]) (wrap64 (x4 + 1))) else (none))) else (none)) else (none))
end
def exequaturref01_quote.f (k : Nat) (a0 : ByteArray) : Option (ByteArray) := exequaturref01_quote.l0 k a0 (([34] : List Int)) 0
theorem exequaturref01_quote.mono_l : ∀ k, (∀ y0 y1 y2, LeO (exequaturref01_quote.l0 k y0 y1 y2) (exequaturref01_quote.l0 (k + 1) y0 y1 y2)) ∧ (∀ y0 y1 y2 y3, LeO (exequaturref01_quote.j1 k y0 y1 y2 y3) (exequaturref01_quote.j1 (k + 1) y0 y1 y2 y3))
  | 0 => ⟨fun _ _ _ r h => by simp [exequaturref01_quote.l0] at h, fun _ _ _ _ r h => by simp [exequaturref01_quote.j1] at h⟩
  | k + 1 => by
    obtain ⟨ih0, ih1⟩ := exequaturref01_quote.mono_l k
    refine ⟨?_, ?_⟩
    · intro y0 y1 y2
      unfold exequaturref01_quote.l0
      repeat' first
      | (with_reducible exact ih0 _ _ _)
      | (with_reducible exact ih1 _ _ _ _)
      | (with_reducible exact LeO.refl _)
      | (with_reducible exact LeO.none _)
      | (with_reducible refine LeO.ite ?_ ?_)
      | (with_reducible refine LeO.bind ?_ (fun _ => ?_))
      | exact ih0 _ _ _
      | exact ih1 _ _ _ _
      | exact LeO.none _
      | refine LeO.ite ?_ ?_
      | refine LeO.bind ?_ (fun _ => ?_)
    · intro y0 y1 y2 y3
      unfold exequaturref01_quote.j1
      repeat' first
      | (with_reducible exact ih0 _ _ _)
      | (with_reducible exact ih1 _ _ _ _)
      | (with_reducible exact LeO.refl _)
      | (with_reducible exact LeO.none _)
      | (with_reducible refine LeO.ite ?_ ?_)
      | (with_reducible refine LeO.bind ?_ (fun _ => ?_))
      | exact ih0 _ _ _
      | exact ih1 _ _ _ _
      | exact LeO.none _
      | refine LeO.ite ?_ ?_
      | refine LeO.bind ?_ (fun _ => ?_)
theorem exequaturref01_quote.mono : ∀ a0 k, LeO (exequaturref01_quote.f k a0) (exequaturref01_quote.f (k + 1) a0) := by
  intro a0 k
  obtain ⟨ih0, ih1⟩ := exequaturref01_quote.mono_l k
  unfold exequaturref01_quote.f
  repeat' first
      | (with_reducible exact ih0 _ _ _)
      | (with_reducible exact ih1 _ _ _ _)
      | (with_reducible exact LeO.refl _)
      | (with_reducible exact LeO.none _)
      | (with_reducible refine LeO.ite ?_ ?_)
      | (with_reducible refine LeO.bind ?_ (fun _ => ?_))
      | exact ih0 _ _ _
      | exact ih1 _ _ _ _
      | exact LeO.none _
      | refine LeO.ite ?_ ?_
      | refine LeO.bind ?_ (fun _ => ?_)
def exequaturref01_quote.T9 : Bool × List (List Nat × List Nat) := (true, [([], []), ([], []), ([], []), ([1, 2], [1, 2]), ([3], [3]), ([4], [4]), ([], []), ([], []), ([6, 7], [6, 7]), ([8], [8]), ([9], [9]), ([5, 10], [5, 10]), ([0, 11], [0, 11]), ([12, 12, 0, 1, 2, 3, 4, 5, 6, 7, 8, 9, 10, 11, 12], [0, 12])])
def exequaturref01_quote.B9 : List Nat := [0, 0, 0, 6, 14, 30, 0, 0, 192, 448, 960, 2046, 4095, 8191]
theorem exequaturref01_quote.tab9 : rtab .any (opsOf Tryz.f55 9) = exequaturref01_quote.T9 := by kernel_rfl
theorem exequaturref01_quote.bits9 : waitsOk exequaturref01_quote.T9.2 exequaturref01_quote.B9 = true := by kernel_rfl
set_option maxHeartbeats 8000000 in
set_option maxRecDepth 100000 in
theorem exequaturref01_quote.calls (k : Nat) (a0 : ByteArray) (r : ByteArray) (w : World) (h : exequaturref01_quote.f k a0 = some r) :
  Calls Tryz.prog 55 #[.string a0] w fun e w' => e = .returned (.string r) ∧ Below w.heap.size w w' := by
 have HB := Aside0.mk (Below.refl w.heap.size w)
 have H : (exequaturref01_quote.l0 k a0 (([34] : List Int)) 0) = some r := h
 clear h
 obtain ⟨y149, hy149⟩ : ∃ y_ : List Int, y_ = (([34] : List Int)) := ⟨_, rfl⟩
 replace H : (exequaturref01_quote.l0 k a0 y149 0) = some r := by first | (rw [hy149]; with_reducible exact H) | (have H2_ := (Option.bind_some _ _).symm.trans H; rw [hy149]; with_reducible exact H2_) | (have H2_ := (Option.bind_some _ _).symm.trans H; with_reducible exact H2_) | with_reducible exact H | (rw [hy149]; exact H) | exact H
 have Ny149 := Aside0.mk hy149
 clear hy149
 have H' := Aside0.mk H
 clear H
 go_enter Tryz.func55, Tryz.ntmps55
 go_wp2_with (first | ((with_reducible refine gate_dst (N := 5) rfl ?_); refine Kd.R_lit (Kd.int .u8) _ 5 ?hg (N := 5) ?hd (xs := ([34] : List Int)) (inner := [.int .u8 34]) (ok := fun _ => True) (okp := fun _ => True) ?hr ?hp (fun _ hk => hk) trivial (Below.refl _ _) (Nat.le_refl _) (by simp) ?_; (case hd => rfl); (case hg => rfl); (case hr => first | (go_simp; done) | (go_simp; rfl)); (case hp => exact (Reps.one (show Kd.M (Kd.int .u8) _ _ _ 34 [.int .u8 34] from rfl) (Reps.none _ _))); intro v150 w2 ho3 hb hg_ hnew_; clear hg_ hnew_; (first | rw [← Ny149.out] at ho3 | (simp only [Int.reduceToNat] at ho3; rw [← Ny149.out] at ho3)); have n0_ := Aside0.mk (Kd.R_lower ho3 (below_size (by repeat (first | (with_reducible first | exact HB.out | apply below_alloc | apply pw_below_drewN | apply below_drew1) | exact HB.out)))); have n1_ := Aside0.mk (below_step (by repeat (first | (with_reducible first | exact HB.out | apply below_alloc | apply pw_below_drewN | apply below_drew1) | exact HB.out)) hb); clear HB; have HO151 := n0_; have HB := n1_; clear n0_ n1_; clear hb ho3))
 go_loopg [3, 4] k (fun kq v3 v4 w' => ∃ (x3_1 : List Int) (x4_1 : Int), v4 = .int .i64 x4_1 ∧ Aside0 (exequaturref01_quote.l0 kq a0 x3_1 x4_1 = some r) ∧ Aside0 (kq ≤ k) ∧ Aside0 (Kd.R (Kd.int .u8) 5 w' w.heap.size (fun _ => True) v3 x3_1) ∧ Aside0 (Below w.heap.size w w'))
 case atStart => exact ⟨(y149), (0), (by first | rfl | (simp; done) | (simp [*]; done) | (refine congrArg Value.bool ?_; rw [Bool.eq_iff_iff]; simp; done)), H', ⟨Nat.le_refl _⟩, ⟨by (with_reducible repeat (first | apply Kd.R_alloc | apply Kd.R_drewN | apply Kd.R_drew)); exact HO151.out⟩, ⟨by repeat (first | (with_reducible first | exact HB.out | apply below_alloc | apply pw_below_drewN | apply below_drew1) | exact HB.out)⟩⟩
 case round =>
  clear H'
  try clear p2
  obtain ⟨x3_1, x4_1, rfl, HA, HK1, HO_3, HB⟩ := hrel
  cases gk with
  | zero => exact absurd HA.out (by simp [exequaturref01_quote.l0])
  | succ k1 =>
   have H := HA.out
   clear HA
   simp only [exequaturref01_quote.l0] at H
   by_cases c4 : x4_1 < (a0.size : Int)
   ·rw [if_pos c4] at H
    have c4b0 : decide (x4_1 < (a0.size : Int)) = true := decide_eq_true c4
    clear c4
    have HC5 := Aside0.mk H
    clear H
    go_upto_region 6 with (fail)
    go_cut [18] (fun v18 wc => ∃ (kq : Nat) (x18_4 : Bool), v18 = .bool x18_4 ∧ Aside0 (exequaturref01_quote.j1 kq a0 x3_1 x4_1 x18_4 = some r) ∧ Aside0 (kq ≤ k1) ∧ Aside0 (Kd.R (Kd.int .u8) 5 wc w.heap.size (fun _ => True) u3 x3_1) ∧ Aside0 (Below w.heap.size w wc))
    case first =>
     have H := HC5.out
     clear HC5
     by_cases c6 : 0 ≤ x4_1
     rotate_left
     ·rw [if_neg c6] at H; exact absurd H (by simp)
     rw [if_pos c6] at H
     have c6b0 : decide (0 ≤ x4_1) = true := decide_eq_true c6
     clear c6
     (first | rw [c6b0] | (simp only [i64_w, i32_w]; rw [c6b0]) | skip)
     by_cases c8 : (bt a0 x4_1) = 34
     ·rw [if_pos c8] at H
      have c8b0 : ((bt a0 x4_1) == 34) = true := beq_iff_eq.mpr c8
      have c8b1 : ((bt a0 x4_1) != 34) = false := bne_eq_false_iff_eq.mpr c8
      clear c8
      have H' := Aside0.mk H
      clear H
      have p7 : 0 ≤ (x4_1 : Int) := of_decide_eq_true (by first | (with_reducible assumption) | assumption)
      have q7 : x4_1 < (a0.size : Int) := of_decide_eq_true (by first | (with_reducible assumption) | assumption)
      have hx7 := bt_at a0 x4_1
      replace p7 := eq_true p7
      replace q7 := eq_true q7
      go_wp2
      go_meet
      case rel => exact ⟨_, (true), (by first | rfl | (simp; done) | (simp [*]; done) | (refine congrArg Value.bool ?_; rw [Bool.eq_iff_iff]; simp; done)), H', ⟨by have := HK1.out; first | omega | exact Nat.le_refl _⟩, ⟨by (with_reducible repeat (first | apply Kd.R_alloc | apply Kd.R_drewN | apply Kd.R_drew)); exact HO_3.out⟩, ⟨by repeat (first | (with_reducible first | exact HB.out | apply below_alloc | apply pw_below_drewN | apply below_drew1) | exact HB.out)⟩⟩
     ·rw [if_neg c8] at H
      have c8b0 : ((bt a0 x4_1) == 34) = false := beq_eq_false_iff_ne.mpr c8
      have c8b1 : ((bt a0 x4_1) != 34) = true := bne_iff_ne.mpr c8
      have H' := Aside0.mk H
      clear H
      have p7 : 0 ≤ (x4_1 : Int) := of_decide_eq_true (by first | (with_reducible assumption) | assumption)
      have q7 : x4_1 < (a0.size : Int) := of_decide_eq_true (by first | (with_reducible assumption) | assumption)
      have hx7 := bt_at a0 x4_1
      replace p7 := eq_true p7
      replace q7 := eq_true q7
      have p9 : 0 ≤ (x4_1 : Int) := of_decide_eq_true (by first | (with_reducible assumption) | assumption)
      have q9 : x4_1 < (a0.size : Int) := of_decide_eq_true (by first | (with_reducible assumption) | assumption)
      have hx9 := bt_at a0 x4_1
      replace p9 := eq_true p9
      replace q9 := eq_true q9
      go_wp2
      go_meet
      case rel => exact ⟨_, (((bt a0 x4_1) == 92)), (by first | rfl | (simp; done) | (simp [*]; done) | (refine congrArg Value.bool ?_; rw [Bool.eq_iff_iff]; simp; done)), H', ⟨by have := HK1.out; first | omega | exact Nat.le_refl _⟩, ⟨by (with_reducible repeat (first | apply Kd.R_alloc | apply Kd.R_drewN | apply Kd.R_drew)); exact HO_3.out⟩, ⟨by repeat (first | (with_reducible first | exact HB.out | apply below_alloc | apply pw_below_drewN | apply below_drew1) | exact HB.out)⟩⟩
    case rest =>
     clear HC5; try clear p2; try clear c4; try clear c4b0; try clear c5; try clear c6; try clear c6b0; try clear p7; try clear q7; try clear hx7; try clear c8; try clear c8b0; try clear c8b1; try clear p9; try clear q9; try clear hx9; try clear p2; try clear p7; try clear p9; try clear q7; try clear q9
     obtain ⟨kq, x18_4, rfl, HA, HJ4, HO_3, HB⟩ := hcut
     cases kq with
     | zero => exact absurd HA.out (by simp [exequaturref01_quote.j1])
     | succ kj4 =>
      have H := HA.out
      clear HA
      simp only [exequaturref01_quote.j1] at H
      by_cases c10 : x18_4 = true
      ·subst c10
       have H1 : (if 0 ≤ x4_1 then (if x4_1 < (a0.size : Int) then ((some (([92, bt a0 x4_1] : List Int) : List Int)).bind fun y155 => (if x3_1.length + y155.length < 140737488355328 then (exequaturref01_quote.l0 kj4 a0 (x3_1 ++ y155) (wrap64 (x4_1 + 1))) else (none))) else (none)) else (none)) = some r := by rw [if_pos rfl] at H; exact H
       clear H
       have H := H1
       clear H1
       by_cases c11 : 0 ≤ x4_1
       rotate_left
       ·rw [if_neg c11] at H; exact absurd H (by simp)
       rw [if_pos c11] at H
       have c11b0 : decide (0 ≤ x4_1) = true := decide_eq_true c11
       clear c11
       by_cases c12 : x4_1 < (a0.size : Int)
       rotate_left
       ·rw [if_neg c12] at H; exact absurd H (by simp)
       rw [if_pos c12] at H
       have c12b0 : decide (x4_1 < (a0.size : Int)) = true := decide_eq_true c12
       clear c12
       obtain ⟨y155, hy155⟩ : ∃ y_ : List Int, y_ = (([92, bt a0 x4_1] : List Int)) := ⟨_, rfl⟩
       replace H : (if x3_1.length + y155.length < 140737488355328 then (exequaturref01_quote.l0 kj4 a0 (x3_1 ++ y155) (wrap64 (x4_1 + 1))) else (none)) = some r := by first | (rw [hy155]; with_reducible exact H) | (have H2_ := (Option.bind_some _ _).symm.trans H; rw [hy155]; with_reducible exact H2_) | (have H2_ := (Option.bind_some _ _).symm.trans H; with_reducible exact H2_) | with_reducible exact H | (rw [hy155]; exact H) | exact H
       have Ny155 := Aside0.mk hy155
       clear hy155
       by_cases c14 : x3_1.length + y155.length < 140737488355328
       rotate_left
       ·rw [if_neg c14] at H; exact absurd H (by simp)
       rw [if_pos c14] at H
       have LMc14 := Aside0.mk c14
       clear c14
       obtain ⟨y158, hy158⟩ : ∃ y_ : List Int, y_ = (x3_1 ++ y155) := ⟨_, rfl⟩
       replace H : (exequaturref01_quote.l0 kj4 a0 y158 (wrap64 (x4_1 + 1))) = some r := by first | (rw [hy158]; with_reducible exact H) | (have H2_ := (Option.bind_some _ _).symm.trans H; rw [hy158]; with_reducible exact H2_) | (have H2_ := (Option.bind_some _ _).symm.trans H; with_reducible exact H2_) | with_reducible exact H | (rw [hy158]; exact H) | exact H
       have Ny158 := Aside0.mk hy158
       clear hy158
       have H' := Aside0.mk H
       clear H
       have p13 : 0 ≤ (x4_1 : Int) := of_decide_eq_true (by first | (with_reducible assumption) | assumption)
       have q13 : x4_1 < (a0.size : Int) := of_decide_eq_true (by first | (with_reducible assumption) | assumption)
       have hx13 := bt_at a0 x4_1
       replace p13 := eq_true p13
       replace q13 := eq_true q13
       go_wp2_with (first | ((with_reducible refine gate_dst (N := 33) rfl ?_); refine Kd.R_lit (Kd.int .u8) _ 5 ?hg (N := 33) ?hd (xs := ([92, bt a0 x4_1] : List Int)) (inner := [.int .u8 92, .int .u8 (bt a0 x4_1)]) (ok := fun _ => True) (okp := fun _ => True) ?hr ?hp (fun _ hk => hk) trivial (Below.refl _ _) (Nat.le_refl _) (by simp) ?_; (case hd => rfl); (case hg => rfl); (case hr => first | (go_simp; done) | (go_simp; rfl)); (case hp => exact (Reps.one (show Kd.M (Kd.int .u8) _ _ _ 92 [.int .u8 92] from rfl) (Reps.one (show Kd.M (Kd.int .u8) _ _ _ (bt a0 x4_1) [.int .u8 (bt a0 x4_1)] from rfl) (Reps.none _ _)))); intro v156 w15 ho16 hb hg_ hnew_; clear hg_ hnew_; (first | rw [← Ny155.out] at ho16 | (simp only [Int.reduceToNat] at ho16; rw [← Ny155.out] at ho16)); have n0_ := Aside0.mk (Kd.R_elder' (by (with_reducible repeat (first | apply Kd.R_alloc | apply Kd.R_drewN | apply Kd.R_drew)); exact HO_3.out) (Kd.R_base ho16) hb); have n1_ := Aside0.mk (Kd.R_lower (Kd.R_new' ho16 (Kd.R_lt (by (with_reducible repeat (first | apply Kd.R_alloc | apply Kd.R_drewN | apply Kd.R_drew)); exact HO_3.out))) (below_size (by repeat (first | (with_reducible first | exact HB.out | apply below_alloc | apply pw_below_drewN | apply below_drew1) | exact HB.out)))); have n2_ := Aside0.mk (below_step (by repeat (first | (with_reducible first | exact HB.out | apply below_alloc | apply pw_below_drewN | apply below_drew1) | exact HB.out)) hb); clear HO_3; clear HB; have HO_3 := n0_; have HO157 := n1_; have HB := n2_; clear n0_ n1_ n2_; clear hb ho16; obtain ⟨Ao18, co18, eo18⟩ := Kd.R_slice HO157.out; subst eo18) | ((with_reducible refine gate_builtin (b := .append) (xs := #[.tmp 29, .tmp 33]) rfl ?_); at_builtin; refine Kd.R_append_rows (Kd.int .u8) (w0 := w) w.heap.size rfl (.tmp 29) (.tmp 33) 77 5 (.int .u8 0) 1 rfl Tryz.underlying77 info5 rfl (by decide) (by omega) u3 x3_1 y155 _ _ _ (fun k_ => some k_ ≠ (.slice Ao18 y155.length co18 : Value).ownBlock) (fun _ => False) rfl rfl ?aO ?aR (fun _ _ h => h) (fun _ h => h.elim) ?aF ?aB ?aS ?aL ?_; (case aR => repeat (first | exact (Kd.R_reads' HO157.out).2.2 | (with_reducible refine Kd.C_alloc ?_ _) | (with_reducible refine Kd.C_drewN ?_ _) | (with_reducible refine Kd.C_drew ?_))); (case aB => exact (by repeat (first | (with_reducible first | exact HB.out | apply below_alloc | apply pw_below_drewN | apply below_drew1) | exact HB.out))); (case aF => exact (fun k_ hk => Kd.fresh' (Kd.R_lt (by (with_reducible repeat (first | apply Kd.R_alloc | apply Kd.R_drewN | apply Kd.R_drew)); exact HO157.out)) k_ hk)); (case aO => exact (by (with_reducible repeat (first | apply Kd.R_alloc | apply Kd.R_drewN | apply Kd.R_drew)); exact Kd.R_mono HO_3.out (fun _ hk => hk.2))); (case aS => exact (below_size (by repeat (first | (with_reducible first | exact HB.out | apply below_alloc | apply pw_below_drewN | apply below_drew1) | exact HB.out)))); (case aL => have := LMc14.out; omega); intro v159 w17 ho hb hg hat; rw [← Ny158.out] at ho; have n0_ := Aside0.mk (Kd.R_after (ok := (fun _ => True)) (by (with_reducible repeat (first | apply Kd.R_alloc | apply Kd.R_drewN | apply Kd.R_drew)); exact HO157.out) hg hat); have n1_ := Aside0.mk (hb); have n2_ := Aside0.mk (ho); clear HO157; clear HB; clear HO_3; have HO157 := n0_; have HB := n1_; have HO160 := n2_; clear n0_ n1_ n2_; clear ho hb hg hat))
       go_roundg kj4
       case measure => have := HK1.out; have := HJ4.out; omega
       case rel => exact ⟨(y158), (wrap64 (x4_1 + 1)), (by first | rfl | (simp; done) | (simp [*]; done) | (refine congrArg Value.bool ?_; rw [Bool.eq_iff_iff]; simp; done)), H', ⟨by have := HK1.out; have := HJ4.out; omega⟩, ⟨by (with_reducible repeat (first | apply Kd.R_alloc | apply Kd.R_drewN | apply Kd.R_drew)); exact Kd.R_mono HO160.out (fun _ hk => trivial)⟩, ⟨by repeat (first | (with_reducible first | exact HB.out | apply below_alloc | apply pw_below_drewN | apply below_drew1) | exact HB.out)⟩⟩
      ·replace c10 := Bool.eq_false_iff.mpr c10
       subst c10
       have H1 : (if 0 ≤ x4_1 then (if x4_1 < (a0.size : Int) then (if (bt a0 x4_1) < 32 then (if 0 ≤ (Int.tmod (bt a0 x4_1) 16) then (if (Int.tmod (bt a0 x4_1) 16) < 16 then ((some (([92, 117, 48, 48, (48 + ((Int.tdiv (bt a0 x4_1) 16) % 256)) % 256, bt (⟨#[48, 49, 50, 51, 52, 53, 54, 55, 56, 57, 97, 98, 99, 100, 101, 102]⟩ : ByteArray) (Int.tmod (bt a0 x4_1) 16)] : List Int) : List Int)).bind fun y161 => (if x3_1.length + y161.length < 140737488355328 then (exequaturref01_quote.l0 kj4 a0 (x3_1 ++ y161) (wrap64 (x4_1 + 1))) else (none))) else (none)) else (none)) else (if x3_1.length < 140737488355328 then (exequaturref01_quote.l0 kj4 a0 (x3_1 ++ [bt a0 x4_1]) (wrap64 (x4_1 + 1))) else (none))) else (none)) else (none)) = some r := by rw [if_neg (show ¬ (false = true) by decide)] at H; exact H
       clear H
       have H := H1
       clear H1
       by_cases c19 : 0 ≤ x4_1
       rotate_left
       ·rw [if_neg c19] at H; exact absurd H (by simp)
       rw [if_pos c19] at H
       have c19b0 : decide (0 ≤ x4_1) = true := decide_eq_true c19
       clear c19
       by_cases c20 : x4_1 < (a0.size : Int)
       rotate_left
       ·rw [if_neg c20] at H; exact absurd H (by simp)
       rw [if_pos c20] at H
       have c20b0 : decide (x4_1 < (a0.size : Int)) = true := decide_eq_true c20
       clear c20
       by_cases c22 : (bt a0 x4_1) < 32
       ·rw [if_pos c22] at H
        have c22b0 : decide ((bt a0 x4_1) < 32) = true := decide_eq_true c22
        clear c22
        obtain ⟨ji25, hji25⟩ : ∃ j_ : Int, (Int.tmod (bt a0 x4_1) 16) = j_ := ⟨_, rfl⟩
        replace H : (if 0 ≤ (ji25) then (if (ji25) < 16 then ((some (([92, 117, 48, 48, (48 + ((Int.tdiv (bt a0 x4_1) 16) % 256)) % 256, bt (⟨#[48, 49, 50, 51, 52, 53, 54, 55, 56, 57, 97, 98, 99, 100, 101, 102]⟩ : ByteArray) (ji25)] : List Int) : List Int)).bind fun y161 => (if x3_1.length + y161.length < 140737488355328 then (exequaturref01_quote.l0 kj4 a0 (x3_1 ++ y161) (wrap64 (x4_1 + 1))) else (none))) else (none)) else (none)) = some r := by first | (rw [hji25] at H; exact H) | (simp only [hji25] at H ⊢; exact H)
        by_cases c26 : 0 ≤ (ji25)
        rotate_left
        ·rw [if_neg c26] at H; exact absurd H (by simp)
        rw [if_pos c26] at H
        have c26b0 : decide (0 ≤ (ji25)) = true := decide_eq_true c26
        clear c26
        by_cases c27 : (ji25) < 16
        rotate_left
        ·rw [if_neg c27] at H; exact absurd H (by simp)
        rw [if_pos c27] at H
        have c27b0 : decide ((ji25) < 16) = true := decide_eq_true c27
        clear c27
        obtain ⟨y161, hy161⟩ : ∃ y_ : List Int, y_ = (([92, 117, 48, 48, (48 + ((Int.tdiv (bt a0 x4_1) 16) % 256)) % 256, bt (⟨#[48, 49, 50, 51, 52, 53, 54, 55, 56, 57, 97, 98, 99, 100, 101, 102]⟩ : ByteArray) (ji25)] : List Int)) := ⟨_, rfl⟩
        replace H : (if x3_1.length + y161.length < 140737488355328 then (exequaturref01_quote.l0 kj4 a0 (x3_1 ++ y161) (wrap64 (x4_1 + 1))) else (none)) = some r := by first | (rw [hy161]; with_reducible exact H) | (have H2_ := (Option.bind_some _ _).symm.trans H; rw [hy161]; with_reducible exact H2_) | (have H2_ := (Option.bind_some _ _).symm.trans H; with_reducible exact H2_) | with_reducible exact H | (rw [hy161]; exact H) | exact H
        have Ny161 := Aside0.mk hy161
        clear hy161
        by_cases c29 : x3_1.length + y161.length < 140737488355328
        rotate_left
        ·rw [if_neg c29] at H; exact absurd H (by simp)
        rw [if_pos c29] at H
        have LMc29 := Aside0.mk c29
        clear c29
        obtain ⟨y164, hy164⟩ : ∃ y_ : List Int, y_ = (x3_1 ++ y161) := ⟨_, rfl⟩
        replace H : (exequaturref01_quote.l0 kj4 a0 y164 (wrap64 (x4_1 + 1))) = some r := by first | (rw [hy164]; with_reducible exact H) | (have H2_ := (Option.bind_some _ _).symm.trans H; rw [hy164]; with_reducible exact H2_) | (have H2_ := (Option.bind_some _ _).symm.trans H; with_reducible exact H2_) | with_reducible exact H | (rw [hy164]; exact H) | exact H
        have Ny164 := Aside0.mk hy164
        clear hy164
        have H' := Aside0.mk H
        clear H
        have p21 : 0 ≤ (x4_1 : Int) := of_decide_eq_true (by first | (with_reducible assumption) | assumption)
        have q21 : x4_1 < (a0.size : Int) := of_decide_eq_true (by first | (with_reducible assumption) | assumption)
        have hx21 := bt_at a0 x4_1
        replace p21 := eq_true p21
        replace q21 := eq_true q21
        try go_wp2
        have n0_ := Aside0.mk (Kd.R_drew HO_3.out)
        have n1_ := Aside0.mk (below_drew1 HB.out)
        clear HO_3; clear HB
        have HO_3 := n0_
        have HB := n1_
        clear n0_ n1_
        have p23 : 0 ≤ (x4_1 : Int) := of_decide_eq_true (by first | (with_reducible assumption) | assumption)
        have q23 : x4_1 < (a0.size : Int) := of_decide_eq_true (by first | (with_reducible assumption) | assumption)
        have hx23 := bt_at a0 x4_1
        replace p23 := eq_true p23
        replace q23 := eq_true q23
        have p24 : 0 ≤ (x4_1 : Int) := of_decide_eq_true (by first | (with_reducible assumption) | assumption)
        have q24 : x4_1 < (a0.size : Int) := of_decide_eq_true (by first | (with_reducible assumption) | assumption)
        have hx24 := bt_at a0 x4_1
        replace p24 := eq_true p24
        replace q24 := eq_true q24
        have p28 : 0 ≤ ((ji25) : Int) := of_decide_eq_true (by first | (with_reducible assumption) | assumption)
        have q28 : (ji25) < (16 : Int) := of_decide_eq_true (by first | (with_reducible assumption) | assumption)
        have hx28 := bt_at (⟨#[48, 49, 50, 51, 52, 53, 54, 55, 56, 57, 97, 98, 99, 100, 101, 102]⟩ : ByteArray) (ji25)
        replace p28 := eq_true p28
        replace q28 := eq_true q28
        refine start_ (n := 14) (S := fun w' => True) (ds := []) #[false, false, false, false, false, false, false, false, false, false, false, false, false, false] (by kernel_rfl) rfl rfl trivial (fun hHeld => ?_); refine with_tabW exequaturref01_quote.tab9 exequaturref01_quote.bits9 (fun HT_ HW_ => ?_)
        generalize wc.drew = w30 at HO_3 HB hHeld ⊢
        refine pure_ (i := 0) (N := some 40) (v := ?_) (a' := ?_) #[true, false, false, false, false, false, false, false, false, false, false, false, false, false] rfl rfl (any_of HT_.out (by kernel_rfl)) (fun _ _ _ h => h) (Or.inl ⟨by rfl, ?_⟩) ?_ ?_
        rotate_left
        ·intro w'
         go_simp
         with_reducible rfl
        rotate_left
        ·simp only [Act.put, List.setIfInBounds_toArray, List.set_cons_zero, List.set_cons_succ, i64_w, i32_w]
         rfl
        refine pure_ (i := 1) (N := some 41) (v := ?_) (a' := ?_) #[true, true, false, false, false, false, false, false, false, false, false, false, false, false] rfl rfl (any_of HT_.out (by kernel_rfl)) (fun _ _ _ h => h) (Or.inl ⟨by rfl, ?_⟩) ?_ ?_
        rotate_left
        ·intro w'
         go_simp
         with_reducible rfl
        rotate_left
        ·simp only [Act.put, List.setIfInBounds_toArray, List.set_cons_zero, List.set_cons_succ, i64_w, i32_w]
         rfl
        refine pure_ (i := 2) (N := some 42) (v := ?_) (a' := ?_) #[true, true, true, false, false, false, false, false, false, false, false, false, false, false] rfl rfl (any_of HT_.out (by kernel_rfl)) (fun _ _ _ h => h) (Or.inl ⟨by rfl, ?_⟩) ?_ ?_
        rotate_left
        ·intro w'
         go_simp
         with_reducible rfl
        rotate_left
        ·simp only [Act.put, List.setIfInBounds_toArray, List.set_cons_zero, List.set_cons_succ, i64_w, i32_w]
         rfl
        refine pure_ (i := 6) (N := some 46) (v := ?_) (a' := ?_) #[true, true, true, false, false, false, true, false, false, false, false, false, false, false] rfl rfl (any_of HT_.out (by kernel_rfl)) (fun _ _ _ h => h) (Or.inl ⟨by rfl, ?_⟩) ?_ ?_
        rotate_left
        ·intro w'
         go_simp
         with_reducible rfl
        rotate_left
        ·simp only [Act.put, List.setIfInBounds_toArray, List.set_cons_zero, List.set_cons_succ, i64_w, i32_w]
         rfl
        refine pure_ (i := 7) (N := some 47) (v := ?_) (a' := ?_) #[true, true, true, false, false, false, true, true, false, false, false, false, false, false] rfl rfl (any_of HT_.out (by kernel_rfl)) (fun _ _ _ h => h) (Or.inl ⟨by rfl, ?_⟩) ?_ ?_
        rotate_left
        ·intro w'
         go_simp
         with_reducible rfl
        rotate_left
        ·simp only [Act.put, List.setIfInBounds_toArray, List.set_cons_zero, List.set_cons_succ, i64_w, i32_w]
         rfl
        refine take_ (i := 3) (N := some 43) (v := ?_) (a' := ?_) #[true, true, true, true, false, false, true, true, false, false, false, false, false, false] rfl rfl (take_ofW HT_.out HW_.out (by kernel_rfl)) (fun _ _ _ h => h) (Or.inl ⟨by rfl, ?_⟩) hHeld ?_ ?_
        rotate_left
        ·intro w' _
         go_simp
         with_reducible rfl
        rotate_left
        ·simp only [Act.put, List.setIfInBounds_toArray, List.set_cons_zero, List.set_cons_succ, i64_w, i32_w]
         rfl
        refine pure_ (i := 4) (N := some 44) (v := ?_) (a' := ?_) #[true, true, true, true, true, false, true, true, false, false, false, false, false, false] rfl rfl (any_of HT_.out (by kernel_rfl)) (fun _ _ _ h => h) (Or.inl ⟨by rfl, ?_⟩) ?_ ?_
        rotate_left
        ·intro w'
         go_simp
         with_reducible rfl
        rotate_left
        ·simp only [Act.put, List.setIfInBounds_toArray, List.set_cons_zero, List.set_cons_succ, i64_w, i32_w]
         rfl
        refine pure_ (i := 5) (N := some 45) (v := ?_) (a' := ?_) #[true, true, true, true, true, true, true, true, false, false, false, false, false, false] rfl rfl (any_of HT_.out (by kernel_rfl)) (fun _ _ _ h => h) (Or.inl ⟨by rfl, ?_⟩) ?_ ?_
        rotate_left
        ·intro w'
         go_simp
         with_reducible rfl
        rotate_left
        ·simp only [Act.put, List.setIfInBounds_toArray, List.set_cons_zero, List.set_cons_succ, i64_w, i32_w]
         rfl
        refine take_ (i := 8) (N := some 48) (v := ?_) (a' := ?_) #[true, true, true, true, true, true, true, true, true, false, false, false, false, false] rfl rfl (take_ofW HT_.out HW_.out (by kernel_rfl)) (fun _ _ _ h => h) (Or.inl ⟨by rfl, ?_⟩) hHeld ?_ ?_
        rotate_left
        ·intro w' _
         go_simp
         with_reducible rfl
        rotate_left
        ·simp only [Act.put, List.setIfInBounds_toArray, List.set_cons_zero, List.set_cons_succ, i64_w, i32_w]
         rfl
        refine pure_ (i := 9) (N := some 49) (v := ?_) (a' := ?_) #[true, true, true, true, true, true, true, true, true, true, false, false, false, false] rfl rfl (any_of HT_.out (by kernel_rfl)) (fun _ _ _ h => h) (Or.inl ⟨by rfl, ?_⟩) ?_ ?_
        rotate_left
        ·intro w'
         go_simp
         with_reducible rfl
        rotate_left
        ·simp only [Act.put, List.setIfInBounds_toArray, List.set_cons_zero, List.set_cons_succ, i64_w, i32_w]
         rfl
        refine take_ (i := 10) (N := some 50) (v := ?_) (a' := ?_) #[true, true, true, true, true, true, true, true, true, true, true, false, false, false] rfl rfl (take_ofW HT_.out HW_.out (by kernel_rfl)) (fun _ _ _ h => h) (Or.inl ⟨by rfl, ?_⟩) hHeld ?_ ?_
        rotate_left
        ·intro w' _
         go_simp
         with_reducible rfl
        rotate_left
        ·simp only [Act.put, List.setIfInBounds_toArray, List.set_cons_zero, List.set_cons_succ, i64_w, i32_w]
         rfl
        have hwq_ : ∀ t : Int, IntKind.u8.wrap (48 + IntKind.u8.wrap t) = (48 + t) % 256 := fun t => by rw [IntKind.wrap_u8, IntKind.wrap_u8]; omega
        refine one_ (i := 11) (N := some 51) #[true, true, true, true, true, true, true, true, true, true, true, true, false, false] rfl rfl (one_of HT_.out (by kernel_rfl)) (by decide) (fun K hK => ?_)
        refine Kd.R_lit_step (Kd.int .u8) _ 5 ?hg (N := 51) ?hd (xs := ([92, 117, 48, 48, (48 + ((Int.tdiv (bt a0 x4_1) 16) % 256)) % 256, bt (⟨#[48, 49, 50, 51, 52, 53, 54, 55, 56, 57, 97, 98, 99, 100, 101, 102]⟩ : ByteArray) (ji25)] : List Int)) (inner := [.int .u8 92, .int .u8 117, .int .u8 48, .int .u8 48, .int .u8 ((48 + ((Int.tdiv (bt a0 x4_1) 16) % 256)) % 256), .int .u8 (bt (⟨#[48, 49, 50, 51, 52, 53, 54, 55, 56, 57, 97, 98, 99, 100, 101, 102]⟩ : ByteArray) (ji25))]) (ok := fun _ => True) (okp := fun _ => True) ?hr ?hp (fun _ hk => hk) trivial (Below.refl _ _) (Nat.le_refl _) (by simp) ?_; (case hd => rfl); (case hg => rfl); (case hr => first | (go_simp; done) | (go_simp; rfl)); (case hp => exact (Reps.one (show Kd.M (Kd.int .u8) _ _ _ 92 [.int .u8 92] from rfl) (Reps.one (show Kd.M (Kd.int .u8) _ _ _ 117 [.int .u8 117] from rfl) (Reps.one (show Kd.M (Kd.int .u8) _ _ _ 48 [.int .u8 48] from rfl) (Reps.one (show Kd.M (Kd.int .u8) _ _ _ 48 [.int .u8 48] from rfl) (Reps.one (show Kd.M (Kd.int .u8) _ _ _ ((48 + ((Int.tdiv (bt a0 x4_1) 16) % 256)) % 256) [.int .u8 ((48 + ((Int.tdiv (bt a0 x4_1) 16) % 256)) % 256)] from rfl) (Reps.one (show Kd.M (Kd.int .u8) _ _ _ (bt (⟨#[48, 49, 50, 51, 52, 53, 54, 55, 56, 57, 97, 98, 99, 100, 101, 102]⟩ : ByteArray) (ji25)) [.int .u8 (bt (⟨#[48, 49, 50, 51, 52, 53, 54, 55, 56, 57, 97, 98, 99, 100, 101, 102]⟩ : ByteArray) (ji25))] from rfl) (Reps.none _ _))))))))
        intro v162 w31 ho32 hb hg_ hnew_
        clear hg_ hnew_
        (first | rw [← Ny161.out] at ho32 | (simp only [Int.reduceToNat] at ho32; rw [← Ny161.out] at ho32))
        have n0_ := Aside0.mk (Kd.R_elder' (by (with_reducible repeat (first | apply Kd.R_alloc | apply Kd.R_drewN | apply Kd.R_drew)); exact HO_3.out) (Kd.R_base ho32) hb)
        have n1_ := Aside0.mk (Kd.R_lower (Kd.R_new' ho32 (Kd.R_lt (by (with_reducible repeat (first | apply Kd.R_alloc | apply Kd.R_drewN | apply Kd.R_drew)); exact HO_3.out))) (below_size (by repeat (first | (with_reducible first | exact HB.out | apply below_alloc | apply pw_below_drewN | apply below_drew1) | exact HB.out))))
        have n2_ := Aside0.mk (below_step (by repeat (first | (with_reducible first | exact HB.out | apply below_alloc | apply pw_below_drewN | apply below_drew1) | exact HB.out)) hb)
        clear HO_3; clear HB
        have HO_3 := n0_
        have HO163 := n1_
        have HB := n2_
        clear n0_ n1_ n2_; clear hb ho32
        obtain ⟨Ao34, co34, eo34⟩ := Kd.R_slice HO163.out
        (first | subst eo34 | (injection eo34 with f1_ f2_ f3_; have f4_ := f1_.symm; have f5_ := f3_.symm; clear f1_ f2_ f3_; subst f4_; subst f5_))
        refine hK.out _ _ trivial (fun hHeld => ?_)
        clear hK K
        refine norm_ (a' := ?_) ?_ ?_
        rotate_left
        ·show Act.put _ (some 51) _ = _
         simp only [Act.put, List.setIfInBounds_toArray, List.set_cons_zero, List.set_cons_succ, i64_w, i32_w]
         rfl
        refine one_ (i := 12) (N := some 52) #[true, true, true, true, true, true, true, true, true, true, true, true, true, false] rfl rfl (one_of HT_.out (by kernel_rfl)) (by decide) (fun K hK => ?_)
        refine Kd.R_append_rows_step (Kd.int .u8) (w0 := w) w.heap.size (by rfl) (.tmp 40) (.tmp 51) 77 5 (.int .u8 0) 1 rfl Tryz.underlying77 info5 rfl (by decide) (by omega) u3 x3_1 y161 _ _ _ (fun k_ => some k_ ≠ (.slice Ao34 y161.length co34 : Value).ownBlock) (fun _ => False) rfl rfl ?aO ?aR (fun _ _ h => h) (fun _ h => h.elim) ?aF ?aB ?aS ?aL ?_
        (case aR => repeat (first | exact (Kd.R_reads' HO163.out).2.2 | (with_reducible refine Kd.C_alloc ?_ _) | (with_reducible refine Kd.C_drewN ?_ _) | (with_reducible refine Kd.C_drew ?_)))
        (case aB => exact (by repeat (first | (with_reducible first | exact HB.out | apply below_alloc | apply pw_below_drewN | apply below_drew1) | exact HB.out)))
        (case aF => exact (fun k_ hk => Kd.fresh' (Kd.R_lt (by (with_reducible repeat (first | apply Kd.R_alloc | apply Kd.R_drewN | apply Kd.R_drew)); exact HO163.out)) k_ hk))
        (case aO => exact (by (with_reducible repeat (first | apply Kd.R_alloc | apply Kd.R_drewN | apply Kd.R_drew)); exact Kd.R_mono HO_3.out (fun _ hk => hk.2)))
        (case aS => exact (below_size (by repeat (first | (with_reducible first | exact HB.out | apply below_alloc | apply pw_below_drewN | apply below_drew1) | exact HB.out))))
        (case aL => have := LMc29.out; omega)
        intro v165 w33 ho hb hg hat
        rw [← Ny164.out] at ho
        have n0_ := Aside0.mk (Kd.R_after (ok := (fun _ => True)) (by (with_reducible repeat (first | apply Kd.R_alloc | apply Kd.R_drewN | apply Kd.R_drew)); exact HO163.out) hg hat)
        have n1_ := Aside0.mk (hb)
        have n2_ := Aside0.mk (ho)
        clear HO163; clear HB; clear HO_3
        have HO163 := n0_
        have HB := n1_
        have HO166 := n2_
        clear n0_ n1_ n2_; clear ho hb hg hat
        refine hK.out _ _ trivial (fun hHeld => ?_)
        clear hK K
        refine norm_ (a' := ?_) ?_ ?_
        rotate_left
        ·show Act.put _ (some 52) _ = _
         simp only [Act.put, List.setIfInBounds_toArray, List.set_cons_zero, List.set_cons_succ, i64_w, i32_w]
         rfl
        refine pure_ (i := 13) (N := some 3) (v := ?_) (a' := ?_) #[true, true, true, true, true, true, true, true, true, true, true, true, true, true] rfl rfl (any_of HT_.out (by kernel_rfl)) (fun _ _ _ h => h) (Or.inl ⟨by rfl, ?_⟩) ?_ ?_
        rotate_left
        ·intro w'
         go_simp
         with_reducible rfl
        rotate_left
        ·simp only [Act.put, List.setIfInBounds_toArray, List.set_cons_zero, List.set_cons_succ, i64_w, i32_w]
         rfl
        refine done_ (done_of HT_.out (by kernel_rfl)) ?_
        try go_wp2
        go_roundg kj4
        case measure => have := HK1.out; have := HJ4.out; omega
        case rel => exact ⟨(y164), (wrap64 (x4_1 + 1)), (by first | rfl | (simp; done) | (simp [*]; done) | (refine congrArg Value.bool ?_; rw [Bool.eq_iff_iff]; simp; done)), H', ⟨by have := HK1.out; have := HJ4.out; omega⟩, ⟨by (with_reducible repeat (first | apply Kd.R_alloc | apply Kd.R_drewN | apply Kd.R_drew)); exact Kd.R_mono HO166.out (fun _ hk => trivial)⟩, ⟨by repeat (first | (with_reducible first | exact HB.out | apply below_alloc | apply pw_below_drewN | apply below_drew1) | exact HB.out)⟩⟩
       ·rw [if_neg c22] at H
        have c22b0 : decide ((bt a0 x4_1) < 32) = false := decide_eq_false c22
        clear c22
        by_cases c36 : x3_1.length < 140737488355328
        rotate_left
        ·rw [if_neg c36] at H; exact absurd H (by simp)
        rw [if_pos c36] at H
        have LMc36 := Aside0.mk c36
        clear c36
        obtain ⟨y167, hy167⟩ : ∃ y_ : List Int, y_ = (x3_1 ++ [bt a0 x4_1]) := ⟨_, rfl⟩
        replace H : (exequaturref01_quote.l0 kj4 a0 y167 (wrap64 (x4_1 + 1))) = some r := by first | (rw [hy167]; with_reducible exact H) | (have H2_ := (Option.bind_some _ _).symm.trans H; rw [hy167]; with_reducible exact H2_) | (have H2_ := (Option.bind_some _ _).symm.trans H; with_reducible exact H2_) | with_reducible exact H | (rw [hy167]; exact H) | exact H
        have Ny167 := Aside0.mk hy167
        clear hy167
        have H' := Aside0.mk H
        clear H
        have p21 : 0 ≤ (x4_1 : Int) := of_decide_eq_true (by first | (with_reducible assumption) | assumption)
        have q21 : x4_1 < (a0.size : Int) := of_decide_eq_true (by first | (with_reducible assumption) | assumption)
        have hx21 := bt_at a0 x4_1
        replace p21 := eq_true p21
        replace q21 := eq_true q21
        have p35 : 0 ≤ (x4_1 : Int) := of_decide_eq_true (by first | (with_reducible assumption) | assumption)
        have q35 : x4_1 < (a0.size : Int) := of_decide_eq_true (by first | (with_reducible assumption) | assumption)
        have hx35 := bt_at a0 x4_1
        replace p35 := eq_true p35
        replace q35 := eq_true q35
        go_wp2_with (first | ((with_reducible refine gate_builtin (b := .append) (xs := #[.tmp 12, .tmp 16]) rfl ?_); at_builtin; refine Kd.R_append (Kd.int .u8) (w0 := w) w.heap.size rfl (.tmp 12) (.tmp 16) 77 5 (.int .u8 0) 1 rfl Tryz.underlying77 info5 rfl (by decide) (by omega) u3 x3_1 (bt a0 x4_1) [.int .u8 (bt a0 x4_1)] (fun _ => True) (fun _ => False) rfl rfl ?aP (fun _ hk => hk.elim) ?aF ?aO ?aB ?aS ?aL ?_; (case aP => exact rfl); (case aB => exact (by repeat (first | (with_reducible first | exact HB.out | apply below_alloc | apply pw_below_drewN | apply below_drew1) | exact HB.out))); (case aF => exact (fun _ _ => trivial)); (case aO => exact (by (with_reducible repeat (first | apply Kd.R_alloc | apply Kd.R_drewN | apply Kd.R_drew)); exact HO_3.out)); (case aS => exact (below_size (by repeat (first | (with_reducible first | exact HB.out | apply below_alloc | apply pw_below_drewN | apply below_drew1) | exact HB.out)))); (case aL => have := LMc36.out; omega); intro v168 w37 ho hb hg hat; rw [← Ny167.out] at ho; have n0_ := Aside0.mk (hb); have n1_ := Aside0.mk (ho); clear HB; clear HO_3; have HB := n0_; have HO169 := n1_; clear n0_ n1_; clear ho hb hg hat))
        go_roundg kj4
        case measure => have := HK1.out; have := HJ4.out; omega
        case rel => exact ⟨(y167), (wrap64 (x4_1 + 1)), (by first | rfl | (simp; done) | (simp [*]; done) | (refine congrArg Value.bool ?_; rw [Bool.eq_iff_iff]; simp; done)), H', ⟨by have := HK1.out; have := HJ4.out; omega⟩, ⟨by (with_reducible repeat (first | apply Kd.R_alloc | apply Kd.R_drewN | apply Kd.R_drew)); exact HO169.out⟩, ⟨by repeat (first | (with_reducible first | exact HB.out | apply below_alloc | apply pw_below_drewN | apply below_drew1) | exact HB.out)⟩⟩
   ·rw [if_neg c4] at H
    have c4b0 : decide (x4_1 < (a0.size : Int)) = false := decide_eq_false c4
    clear c4
    by_cases c38 : x3_1.length < 140737488355328
    rotate_left
    ·rw [if_neg c38] at H; exact absurd H (by simp)
    rw [if_pos c38] at H
    have LMc38 := Aside0.mk c38
    clear c38
    obtain ⟨y152, hy152⟩ : ∃ y_ : List Int, y_ = (x3_1 ++ [34]) := ⟨_, rfl⟩
    replace H : (some (strOfNums y152)) = some r := by first | (rw [hy152]; with_reducible exact H) | (have H2_ := (Option.bind_some _ _).symm.trans H; rw [hy152]; with_reducible exact H2_) | (have H2_ := (Option.bind_some _ _).symm.trans H; with_reducible exact H2_) | with_reducible exact H | (rw [hy152]; exact H) | exact H
    have Ny152 := Aside0.mk hy152
    clear hy152
    obtain rfl := Option.some.inj H
    go_wp2_with (first | ((with_reducible refine gate_builtin (b := .append) (xs := #[.tmp 53, .tmp 54]) rfl ?_); at_builtin; refine Kd.R_append (Kd.int .u8) (w0 := w) w.heap.size rfl (.tmp 53) (.tmp 54) 77 5 (.int .u8 0) 1 rfl Tryz.underlying77 info5 rfl (by decide) (by omega) u3 x3_1 34 [.int .u8 34] (fun _ => True) (fun _ => False) rfl rfl ?aP (fun _ hk => hk.elim) ?aF ?aO ?aB ?aS ?aL ?_; (case aP => exact rfl); (case aB => exact (by repeat (first | (with_reducible first | exact HB.out | apply below_alloc | apply pw_below_drewN | apply below_drew1) | exact HB.out))); (case aF => exact (fun _ _ => trivial)); (case aO => exact (by (with_reducible repeat (first | apply Kd.R_alloc | apply Kd.R_drewN | apply Kd.R_drew)); exact HO_3.out)); (case aS => exact (below_size (by repeat (first | (with_reducible first | exact HB.out | apply below_alloc | apply pw_below_drewN | apply below_drew1) | exact HB.out)))); (case aL => have := LMc38.out; omega); intro v153 w39 ho hb hg hat; rw [← Ny152.out] at ho; have n0_ := Aside0.mk (hb); have n1_ := Aside0.mk (ho); clear HB; clear HO_3; have HB := n0_; have HO154 := n1_; clear n0_ n1_; clear ho hb hg hat; have hcv40 := own_string (P := Tryz.prog) Tryz.underlying77 Tryz.underlying5 Tryz.underlying9 (Kd.own_of_R HO154.out)))
    go_ret
    first | (exact ⟨by first | rfl | (simp [errW_none, errW_some] <;> rfl) | (simp [*, errW_none, errW_some] <;> rfl), by repeat (first | (with_reducible first | exact HB.out | apply below_alloc | apply pw_below_drewN | apply below_drew1) | exact HB.out)⟩) | (focus (exfalso; simp_all; done))
    all_goals (first | (exfalso; simp_all <;> omega) | (go_ret; exact ⟨by first | rfl | (simp [errW_none, errW_some] <;> rfl) | (simp [*, errW_none, errW_some] <;> rfl), by repeat (first | (with_reducible first | exact HB.out | apply below_alloc | apply pw_below_drewN | apply below_drew1) | exact HB.out)⟩))

/-! ### exequaturref01_show: function 27 -/
mutual
def exequaturref01_show.l0 : Nat → ByteArray → Int → Int → Int → ByteArray → List (S25) → List ByteArray → Option (ByteArray)
  | 0, _, _, _, _, _, _, _ => none
  | k + 1, x3, x4, x171000, x171001, x171002, x171003, x171004 => if x4 < (x171003.length : Int) then (if x4 > 0 then (if x3.size + 1 ≤ 9223372036854775807 then (exequaturref01_show.j1 k (x3 ++ (⟨#[44]⟩ : ByteArray)) x4 x171000 x171001 x171002 x171003 x171004) else (none)) else (exequaturref01_show.j1 k x3 x4 x171000 x171001 x171002 x171003 x171004)) else (if x171000 = 5 then (if 1 + x3.size ≤ 9223372036854775807 then (if ((⟨#[91]⟩ : ByteArray) ++ x3).size + 1 ≤ 9223372036854775807 then (some (((⟨#[91]⟩ : ByteArray) ++ x3) ++ (⟨#[93]⟩ : ByteArray))) else (none)) else (none)) else (if 1 + x3.size ≤ 9223372036854775807 then (if ((⟨#[123]⟩ : ByteArray) ++ x3).size + 1 ≤ 9223372036854775807 then (some (((⟨#[123]⟩ : ByteArray) ++ x3) ++ (⟨#[125]⟩ : ByteArray))) else (none)) else (none)))
def exequaturref01_show.j1 : Nat → ByteArray → Int → Int → Int → ByteArray → List (S25) → List ByteArray → Option (ByteArray)
  | 0, _, _, _, _, _, _, _ => none
  | k + 1, x3, x4, x171000, x171001, x171002, x171003, x171004 => if x171000 = 6 then (if 0 ≤ x4 then (if x4 < (x171004.length : Int) then ((exequaturref01_quote.f k (rdOf ByteArray.empty x171004 x4)).bind fun t174 => (if x3.size + t174.size ≤ 9223372036854775807 then (if (x3 ++ t174).size + 1 ≤ 9223372036854775807 then (if x4 < (x171003.length : Int) then ((exequaturref01_show.f k ((rd_T25 x171003 x4).f0) ((rd_T25 x171003 x4).f1) ((rd_T25 x171003 x4).f2) ((rd_T25 x171003 x4).f3) ((rd_T25 x171003 x4).f4)).bind fun t176 => (if ((x3 ++ t174) ++ (⟨#[58]⟩ : ByteArray)).size + t176.size ≤ 9223372036854775807 then (exequaturref01_show.l0 k (((x3 ++ t174) ++ (⟨#[58]⟩ : ByteArray)) ++ t176) (wrap64 (x4 + 1)) x171000 x171001 x171002 x171003 x171004) else (none))) else (none)) else (none)) else (none))) else (none)) else (none)) else (if 0 ≤ x4 then (if x4 < (x171003.length : Int) then ((exequaturref01_show.f k ((rd_T25 x171003 x4).f0) ((rd_T25 x171003 x4).f1) ((rd_T25 x171003 x4).f2) ((rd_T25 x171003 x4).f3) ((rd_T25 x171003 x4).f4)).bind fun t178 => (if x3.size + t178.size ≤ 9223372036854775807 then (exequaturref01_show.l0 k (x3 ++ t178) (wrap64 (x4 + 1)) x171000 x171001 x171002 x171003 x171004) else (none))) else (none)) else (none))
def exequaturref01_show.f : Nat → Int → Int → ByteArray → List (S25) → List ByteArray → Option (ByteArray)
  | 0, _, _, _, _, _ => none
  | k + 1, a0_0, a0_1, a0_2, l0_3, l0_4 => if a0_0 = 1 then (some (⟨#[110, 117, 108, 108]⟩ : ByteArray)) else (if a0_0 = 2 then (if a0_1 = 1 then (some (⟨#[116, 114, 117, 101]⟩ : ByteArray)) else (some (⟨#[102, 97, 108, 115, 101]⟩ : ByteArray))) else (if a0_0 = 3 then ((exequaturref01_Dec.f a0_1).bind fun t171 => (some t171)) else (if a0_0 = 4 then ((exequaturref01_quote.f k a0_2).bind fun t172 => (some t172)) else (exequaturref01_show.l0 k (⟨#[]⟩ : ByteArray) 0 a0_0 a0_1 a0_2 l0_3 l0_4))))
end
theorem exequaturref01_show.mono_l : ∀ k, (∀ y0 y1 y2 y3 y4, LeO (exequaturref01_show.f k y0 y1 y2 y3 y4) (exequaturref01_show.f (k + 1) y0 y1 y2 y3 y4)) ∧ (∀ y0 y1 y2 y3 y4 y5 y6, LeO (exequaturref01_show.l0 k y0 y1 y2 y3 y4 y5 y6) (exequaturref01_show.l0 (k + 1) y0 y1 y2 y3 y4 y5 y6)) ∧ (∀ y0 y1 y2 y3 y4 y5 y6, LeO (exequaturref01_show.j1 k y0 y1 y2 y3 y4 y5 y6) (exequaturref01_show.j1 (k + 1) y0 y1 y2 y3 y4 y5 y6))
  | 0 => ⟨fun _ _ _ _ _ r h => by simp [exequaturref01_show.f] at h, fun _ _ _ _ _ _ _ r h => by simp [exequaturref01_show.l0] at h, fun _ _ _ _ _ _ _ r h => by simp [exequaturref01_show.j1] at h⟩
  | k + 1 => by
    obtain ⟨ih0, ih1, ih2⟩ := exequaturref01_show.mono_l k
    refine ⟨?_, ?_, ?_⟩
    · intro y0 y1 y2 y3 y4
      unfold exequaturref01_show.f
      repeat' first
      | (with_reducible exact ih0 _ _ _ _ _)
      | (with_reducible exact ih1 _ _ _ _ _ _ _)
      | (with_reducible exact ih2 _ _ _ _ _ _ _)
      | (with_reducible exact exequaturref01_quote.mono _ _)
      | (with_reducible exact LeO.refl _)
      | (with_reducible exact LeO.none _)
      | (with_reducible refine LeO.ite ?_ ?_)
      | (with_reducible refine LeO.bind ?_ (fun _ => ?_))
      | exact ih0 _ _ _ _ _
      | exact ih1 _ _ _ _ _ _ _
      | exact ih2 _ _ _ _ _ _ _
      | exact exequaturref01_quote.mono _ _
      | exact LeO.none _
      | refine LeO.ite ?_ ?_
      | refine LeO.bind ?_ (fun _ => ?_)
    · intro y0 y1 y2 y3 y4 y5 y6
      unfold exequaturref01_show.l0
      repeat' first
      | (with_reducible exact ih0 _ _ _ _ _)
      | (with_reducible exact ih1 _ _ _ _ _ _ _)
      | (with_reducible exact ih2 _ _ _ _ _ _ _)
      | (with_reducible exact exequaturref01_quote.mono _ _)
      | (with_reducible exact LeO.refl _)
      | (with_reducible exact LeO.none _)
      | (with_reducible refine LeO.ite ?_ ?_)
      | (with_reducible refine LeO.bind ?_ (fun _ => ?_))
      | exact ih0 _ _ _ _ _
      | exact ih1 _ _ _ _ _ _ _
      | exact ih2 _ _ _ _ _ _ _
      | exact exequaturref01_quote.mono _ _
      | exact LeO.none _
      | refine LeO.ite ?_ ?_
      | refine LeO.bind ?_ (fun _ => ?_)
    · intro y0 y1 y2 y3 y4 y5 y6
      unfold exequaturref01_show.j1
      repeat' first
      | (with_reducible exact ih0 _ _ _ _ _)
      | (with_reducible exact ih1 _ _ _ _ _ _ _)
      | (with_reducible exact ih2 _ _ _ _ _ _ _)
      | (with_reducible exact exequaturref01_quote.mono _ _)
      | (with_reducible exact LeO.refl _)
      | (with_reducible exact LeO.none _)
      | (with_reducible refine LeO.ite ?_ ?_)
      | (with_reducible refine LeO.bind ?_ (fun _ => ?_))
      | exact ih0 _ _ _ _ _
      | exact ih1 _ _ _ _ _ _ _
      | exact ih2 _ _ _ _ _ _ _
      | exact exequaturref01_quote.mono _ _
      | exact LeO.none _
      | refine LeO.ite ?_ ?_
      | refine LeO.bind ?_ (fun _ => ?_)
theorem exequaturref01_show.mono : ∀ a0 a1 a2 a3 a4 k, LeO (exequaturref01_show.f k a0 a1 a2 a3 a4) (exequaturref01_show.f (k + 1) a0 a1 a2 a3 a4) := by
  intro a0 a1 a2 a3 a4 k
  obtain ⟨ih0, ih1, ih2⟩ := exequaturref01_show.mono_l k
  exact ih0 a0 a1 a2 a3 a4
set_option maxHeartbeats 8000000 in
set_option maxRecDepth 100000 in
theorem exequaturref01_show.calls (k : Nat) : ∀ (a0_0 : Int) (a0_1 : Int) (a0_2 : ByteArray) (A0_3 : Option Addr) (c0_3 : Nat) (l0_3 : List (S25)) (A0_4 : Option Addr) (c0_4 : Nat) (l0_4 : List ByteArray) (r : ByteArray) (w : World) (hr0_3 : Kd.C k25 w A0_3 l0_3.length l0_3) (hc0_3 : l0_3.length ≤ c0_3) (hr0_4 : Kd.C Kd.string w A0_4 l0_4.length l0_4) (hc0_4 : l0_4.length ≤ c0_4) (h : exequaturref01_show.f k a0_0 a0_1 a0_2 l0_3 l0_4 = some r),
  Calls Tryz.prog 27 #[.agg #[.int .i64 a0_0, .int .i64 a0_1, .string a0_2, .slice A0_3 l0_3.length c0_3, .slice A0_4 l0_4.length c0_4]] w fun e w' => e = .returned (.string r) ∧ Below w.heap.size w w' := by
 induction k using Nat.strongRecOn with
 | _ k ih =>
 intro a0_0 a0_1 a0_2 A0_3 c0_3 l0_3 A0_4 c0_4 l0_4 r w hr0_3 hc0_3 hr0_4 hc0_4 h
 cases k with
 | zero => exact absurd h (by simp [exequaturref01_show.f])
 | succ k =>
 simp only [exequaturref01_show.f] at h
 have hu25 := Tryz.underlying25
 have HR0_3 := Aside0.mk hr0_3
 have HC0_3 := Aside0.mk hc0_3
 clear hr0_3 hc0_3
 have HR0_4 := Aside0.mk hr0_4
 have HC0_4 := Aside0.mk hc0_4
 clear hr0_4 hc0_4
 have HB := Aside0.mk (Below.refl w.heap.size w)
 have H : (if a0_0 = 1 then (some (⟨#[110, 117, 108, 108]⟩ : ByteArray)) else (if a0_0 = 2 then (if a0_1 = 1 then (some (⟨#[116, 114, 117, 101]⟩ : ByteArray)) else (some (⟨#[102, 97, 108, 115, 101]⟩ : ByteArray))) else (if a0_0 = 3 then ((exequaturref01_Dec.f a0_1).bind fun t171 => (some t171)) else (if a0_0 = 4 then ((exequaturref01_quote.f k a0_2).bind fun t172 => (some t172)) else (exequaturref01_show.l0 k (⟨#[]⟩ : ByteArray) 0 a0_0 a0_1 a0_2 l0_3 l0_4))))) = some r := h
 clear h
 by_cases c2 : a0_0 = 1
 ·rw [if_pos c2] at H
  have c2b0 : (a0_0 == 1) = true := beq_iff_eq.mpr c2
  have c2b1 : (a0_0 != 1) = false := bne_eq_false_iff_eq.mpr c2
  clear c2
  obtain rfl := Option.some.inj H
  go_enter Tryz.func27, Tryz.ntmps27
  go_wp2_with (first | ((with_reducible refine gate_dst (N := 1) rfl ?_); refine box_event ?hg (N := 1) ?hd (cs := #[.int .i64 a0_0, .int .i64 a0_1, .string a0_2, .slice A0_3 l0_3.length c0_3, .slice A0_4 l0_4.length c0_4]) (t := 25) ?hr ?_; (case hd => rfl); (case hg => rfl); (case hr => first | (go_simp; done) | (go_simp; rfl)); intro gb170 hg w3 hbox hb; have n0_ := Aside0.mk (below_step (by repeat (first | (with_reducible first | exact HB.out | apply below_alloc | apply pw_below_drewN | apply below_drew1) | exact HB.out)) hb); have n1_ := Aside0.mk (hbox); have n2_ := Aside0.mk ((by rw [hg]; exact (below_size (by repeat (first | (with_reducible first | exact HB.out | apply below_alloc | apply pw_below_drewN | apply below_drew1) | exact HB.out))) : w.heap.size ≤ gb170)); have n3_ := Aside0.mk ((by rw [hg]; exact (below_size (by repeat (first | (with_reducible first | exact HB.out | apply below_alloc | apply pw_below_drewN | apply below_drew1) | exact HB.out))) : w.heap.size ≤ gb170)); clear HB; have HB := n0_; have BK170 := n1_; have GW170 := n2_; have GE170 := n3_; clear n0_ n1_ n2_ n3_; clear hb hbox hg; obtain ⟨hcz4_0, hcz4_1, hcz4_2, hcz4_3, hcz4_4⟩ := cells5 BK170.out; obtain ⟨hfz4_0, hfz4_1, hfz4_2, hfz4_3, hfz4_4⟩ := froz5 BK170.out))
  go_ret
  first | (exact ⟨by first | rfl | (simp [errW_none, errW_some] <;> rfl) | (simp [*, errW_none, errW_some] <;> rfl), by repeat (first | (with_reducible first | exact HB.out | apply below_alloc | apply pw_below_drewN | apply below_drew1 | refine below_set ?_ GE170.out) | exact HB.out)⟩) | (focus (exfalso; simp_all; done))
  all_goals (first | (exfalso; simp_all <;> omega) | (go_ret; exact ⟨by first | rfl | (simp [errW_none, errW_some] <;> rfl) | (simp [*, errW_none, errW_some] <;> rfl), by repeat (first | (with_reducible first | exact HB.out | apply below_alloc | apply pw_below_drewN | apply below_drew1 | refine below_set ?_ GE170.out) | exact HB.out)⟩))
 ·rw [if_neg c2] at H
  have c2b0 : (a0_0 == 1) = false := beq_eq_false_iff_ne.mpr c2
  have c2b1 : (a0_0 != 1) = true := bne_iff_ne.mpr c2
  by_cases c5 : a0_0 = 2
  ·rw [if_pos c5] at H
   have c5b0 : (a0_0 == 2) = true := beq_iff_eq.mpr c5
   have c5b1 : (a0_0 != 2) = false := bne_eq_false_iff_eq.mpr c5
   clear c5
   by_cases c6 : a0_1 = 1
   ·rw [if_pos c6] at H
    have c6b0 : (a0_1 == 1) = true := beq_iff_eq.mpr c6
    have c6b1 : (a0_1 != 1) = false := bne_eq_false_iff_eq.mpr c6
    clear c6
    obtain rfl := Option.some.inj H
    go_enter Tryz.func27, Tryz.ntmps27
    go_wp2_with (first | ((with_reducible refine gate_dst (N := 1) rfl ?_); refine box_event ?hg (N := 1) ?hd (cs := #[.int .i64 a0_0, .int .i64 a0_1, .string a0_2, .slice A0_3 l0_3.length c0_3, .slice A0_4 l0_4.length c0_4]) (t := 25) ?hr ?_; (case hd => rfl); (case hg => rfl); (case hr => first | (go_simp; done) | (go_simp; rfl)); intro gb170 hg w7 hbox hb; have n0_ := Aside0.mk (below_step (by repeat (first | (with_reducible first | exact HB.out | apply below_alloc | apply pw_below_drewN | apply below_drew1) | exact HB.out)) hb); have n1_ := Aside0.mk (hbox); have n2_ := Aside0.mk ((by rw [hg]; exact (below_size (by repeat (first | (with_reducible first | exact HB.out | apply below_alloc | apply pw_below_drewN | apply below_drew1) | exact HB.out))) : w.heap.size ≤ gb170)); have n3_ := Aside0.mk ((by rw [hg]; exact (below_size (by repeat (first | (with_reducible first | exact HB.out | apply below_alloc | apply pw_below_drewN | apply below_drew1) | exact HB.out))) : w.heap.size ≤ gb170)); clear HB; have HB := n0_; have BK170 := n1_; have GW170 := n2_; have GE170 := n3_; clear n0_ n1_ n2_ n3_; clear hb hbox hg; obtain ⟨hcz8_0, hcz8_1, hcz8_2, hcz8_3, hcz8_4⟩ := cells5 BK170.out; obtain ⟨hfz8_0, hfz8_1, hfz8_2, hfz8_3, hfz8_4⟩ := froz5 BK170.out))
    go_ret
    first | (exact ⟨by first | rfl | (simp [errW_none, errW_some] <;> rfl) | (simp [*, errW_none, errW_some] <;> rfl), by repeat (first | (with_reducible first | exact HB.out | apply below_alloc | apply pw_below_drewN | apply below_drew1 | refine below_set ?_ GE170.out) | exact HB.out)⟩) | (focus (exfalso; simp_all; done))
    all_goals (first | (exfalso; simp_all <;> omega) | (go_ret; exact ⟨by first | rfl | (simp [errW_none, errW_some] <;> rfl) | (simp [*, errW_none, errW_some] <;> rfl), by repeat (first | (with_reducible first | exact HB.out | apply below_alloc | apply pw_below_drewN | apply below_drew1 | refine below_set ?_ GE170.out) | exact HB.out)⟩))
   ·rw [if_neg c6] at H
    have c6b0 : (a0_1 == 1) = false := beq_eq_false_iff_ne.mpr c6
    have c6b1 : (a0_1 != 1) = true := bne_iff_ne.mpr c6
    obtain rfl := Option.some.inj H
    go_enter Tryz.func27, Tryz.ntmps27
    go_wp2_with (first | ((with_reducible refine gate_dst (N := 1) rfl ?_); refine box_event ?hg (N := 1) ?hd (cs := #[.int .i64 a0_0, .int .i64 a0_1, .string a0_2, .slice A0_3 l0_3.length c0_3, .slice A0_4 l0_4.length c0_4]) (t := 25) ?hr ?_; (case hd => rfl); (case hg => rfl); (case hr => first | (go_simp; done) | (go_simp; rfl)); intro gb170 hg w9 hbox hb; have n0_ := Aside0.mk (below_step (by repeat (first | (with_reducible first | exact HB.out | apply below_alloc | apply pw_below_drewN | apply below_drew1) | exact HB.out)) hb); have n1_ := Aside0.mk (hbox); have n2_ := Aside0.mk ((by rw [hg]; exact (below_size (by repeat (first | (with_reducible first | exact HB.out | apply below_alloc | apply pw_below_drewN | apply below_drew1) | exact HB.out))) : w.heap.size ≤ gb170)); have n3_ := Aside0.mk ((by rw [hg]; exact (below_size (by repeat (first | (with_reducible first | exact HB.out | apply below_alloc | apply pw_below_drewN | apply below_drew1) | exact HB.out))) : w.heap.size ≤ gb170)); clear HB; have HB := n0_; have BK170 := n1_; have GW170 := n2_; have GE170 := n3_; clear n0_ n1_ n2_ n3_; clear hb hbox hg; obtain ⟨hcz10_0, hcz10_1, hcz10_2, hcz10_3, hcz10_4⟩ := cells5 BK170.out; obtain ⟨hfz10_0, hfz10_1, hfz10_2, hfz10_3, hfz10_4⟩ := froz5 BK170.out))
    go_ret
    first | (exact ⟨by first | rfl | (simp [errW_none, errW_some] <;> rfl) | (simp [*, errW_none, errW_some] <;> rfl), by repeat (first | (with_reducible first | exact HB.out | apply below_alloc | apply pw_below_drewN | apply below_drew1 | refine below_set ?_ GE170.out) | exact HB.out)⟩) | (focus (exfalso; simp_all; done))
    all_goals (first | (exfalso; simp_all <;> omega) | (go_ret; exact ⟨by first | rfl | (simp [errW_none, errW_some] <;> rfl) | (simp [*, errW_none, errW_some] <;> rfl), by repeat (first | (with_reducible first | exact HB.out | apply below_alloc | apply pw_below_drewN | apply below_drew1 | refine below_set ?_ GE170.out) | exact HB.out)⟩))
  ·rw [if_neg c5] at H
   have c5b0 : (a0_0 == 2) = false := beq_eq_false_iff_ne.mpr c5
   have c5b1 : (a0_0 != 2) = true := bne_iff_ne.mpr c5
   by_cases c11 : a0_0 = 3
   ·rw [if_pos c11] at H
    have c11b0 : (a0_0 == 3) = true := beq_iff_eq.mpr c11
    have c11b1 : (a0_0 != 3) = false := bne_eq_false_iff_eq.mpr c11
    clear c11
    replace H := Option.bind_eq_some_iff.mp H
    obtain ⟨t171, A120, H⟩ := H
    replace H : (some t171) = some r := H
    have A12 := Aside0.mk A120
    clear A120
    obtain rfl := Option.some.inj H
    go_enter Tryz.func27, Tryz.ntmps27
    go_wp2_with (first | ((with_reducible refine gate_dst (N := 1) rfl ?_); refine box_event ?hg (N := 1) ?hd (cs := #[.int .i64 a0_0, .int .i64 a0_1, .string a0_2, .slice A0_3 l0_3.length c0_3, .slice A0_4 l0_4.length c0_4]) (t := 25) ?hr ?_; (case hd => rfl); (case hg => rfl); (case hr => first | (go_simp; done) | (go_simp; rfl)); intro gb170 hg w13 hbox hb; have n0_ := Aside0.mk (below_step (by repeat (first | (with_reducible first | exact HB.out | apply below_alloc | apply pw_below_drewN | apply below_drew1) | exact HB.out)) hb); have n1_ := Aside0.mk (hbox); have n2_ := Aside0.mk ((by rw [hg]; exact (below_size (by repeat (first | (with_reducible first | exact HB.out | apply below_alloc | apply pw_below_drewN | apply below_drew1) | exact HB.out))) : w.heap.size ≤ gb170)); have n3_ := Aside0.mk ((by rw [hg]; exact (below_size (by repeat (first | (with_reducible first | exact HB.out | apply below_alloc | apply pw_below_drewN | apply below_drew1) | exact HB.out))) : w.heap.size ≤ gb170)); clear HB; have HB := n0_; have BK170 := n1_; have GW170 := n2_; have GE170 := n3_; clear n0_ n1_ n2_ n3_; clear hb hbox hg; obtain ⟨hcz14_0, hcz14_1, hcz14_2, hcz14_3, hcz14_4⟩ := cells5 BK170.out; obtain ⟨hfz14_0, hfz14_1, hfz14_2, hfz14_3, hfz14_4⟩ := froz5 BK170.out) | ((with_reducible refine gate_callee (f := 54) rfl ?_); refine goesL_ (some 18) rfl rfl Tryz.func54 (by kernel_rfl) rfl #[.int .i64 a0_1] rfl (by (try simp only [List.map_toArray, List.map_cons, List.map_nil]); first | done | rfl | (simp only [List.length_drop, List.length_take]; rfl)) ?_; (with_reducible refine (exequaturref01_Dec.calls a0_1 t171 _ A12.out).mono ?_); rintro e w15 ⟨rfl, hb⟩; refine ⟨_, rfl, ?_⟩; have n0_ := Aside0.mk (blk_belowB BK170.out (by (with_reducible repeat (first | refine blk_drewN ?_ _ | refine blk_drew ?_ | refine blk_alloc ?_ _)); exact BK170.out) hb); have n1_ := Aside0.mk (below_step (by repeat (first | (with_reducible first | exact HB.out | apply below_alloc | apply pw_below_drewN | apply below_drew1 | refine below_set ?_ GE170.out) | exact HB.out)) hb); clear BK170; clear HB; have BK170 := n0_; have HB := n1_; clear n0_ n1_; (try clear hb); (try clear hb2); (try clear hk); (try clear hi)))
    go_ret
    first | (exact ⟨by first | rfl | (simp [errW_none, errW_some] <;> rfl) | (simp [*, errW_none, errW_some] <;> rfl), by repeat (first | (with_reducible first | exact HB.out | apply below_alloc | apply pw_below_drewN | apply below_drew1 | refine below_set ?_ GE170.out) | exact HB.out)⟩) | (focus (exfalso; simp_all; done))
    all_goals (first | (exfalso; simp_all <;> omega) | (go_ret; exact ⟨by first | rfl | (simp [errW_none, errW_some] <;> rfl) | (simp [*, errW_none, errW_some] <;> rfl), by repeat (first | (with_reducible first | exact HB.out | apply below_alloc | apply pw_below_drewN | apply below_drew1 | refine below_set ?_ GE170.out) | exact HB.out)⟩))
   ·rw [if_neg c11] at H
    have c11b0 : (a0_0 == 3) = false := beq_eq_false_iff_ne.mpr c11
    have c11b1 : (a0_0 != 3) = true := bne_iff_ne.mpr c11
    by_cases c16 : a0_0 = 4
    ·rw [if_pos c16] at H
     have c16b0 : (a0_0 == 4) = true := beq_iff_eq.mpr c16
     have c16b1 : (a0_0 != 4) = false := bne_eq_false_iff_eq.mpr c16
     clear c16
     replace H := Option.bind_eq_some_iff.mp H
     obtain ⟨t172, A170, H⟩ := H
     replace H : (some t172) = some r := H
     have A17 := Aside0.mk A170
     clear A170
     obtain rfl := Option.some.inj H
     go_enter Tryz.func27, Tryz.ntmps27
     go_wp2_with (first | ((with_reducible refine gate_dst (N := 1) rfl ?_); refine box_event ?hg (N := 1) ?hd (cs := #[.int .i64 a0_0, .int .i64 a0_1, .string a0_2, .slice A0_3 l0_3.length c0_3, .slice A0_4 l0_4.length c0_4]) (t := 25) ?hr ?_; (case hd => rfl); (case hg => rfl); (case hr => first | (go_simp; done) | (go_simp; rfl)); intro gb170 hg w18 hbox hb; have n0_ := Aside0.mk (below_step (by repeat (first | (with_reducible first | exact HB.out | apply below_alloc | apply pw_below_drewN | apply below_drew1) | exact HB.out)) hb); have n1_ := Aside0.mk (hbox); have n2_ := Aside0.mk ((by rw [hg]; exact (below_size (by repeat (first | (with_reducible first | exact HB.out | apply below_alloc | apply pw_below_drewN | apply below_drew1) | exact HB.out))) : w.heap.size ≤ gb170)); have n3_ := Aside0.mk ((by rw [hg]; exact (below_size (by repeat (first | (with_reducible first | exact HB.out | apply below_alloc | apply pw_below_drewN | apply below_drew1) | exact HB.out))) : w.heap.size ≤ gb170)); clear HB; have HB := n0_; have BK170 := n1_; have GW170 := n2_; have GE170 := n3_; clear n0_ n1_ n2_ n3_; clear hb hbox hg; obtain ⟨hcz19_0, hcz19_1, hcz19_2, hcz19_3, hcz19_4⟩ := cells5 BK170.out; obtain ⟨hfz19_0, hfz19_1, hfz19_2, hfz19_3, hfz19_4⟩ := froz5 BK170.out) | ((with_reducible refine gate_callee (f := 55) rfl ?_); refine goesL_ (some 23) rfl rfl Tryz.func55 (by kernel_rfl) rfl #[.string a0_2] rfl (by (try simp only [List.map_toArray, List.map_cons, List.map_nil]); first | done | rfl | (simp only [List.length_drop, List.length_take]; rfl)) ?_; (with_reducible refine (exequaturref01_quote.calls k a0_2 t172 _ A17.out).mono ?_); rintro e w20 ⟨rfl, hb⟩; refine ⟨_, rfl, ?_⟩; have n0_ := Aside0.mk (blk_belowB BK170.out (by (with_reducible repeat (first | refine blk_drewN ?_ _ | refine blk_drew ?_ | refine blk_alloc ?_ _)); exact BK170.out) hb); have n1_ := Aside0.mk (below_step (by repeat (first | (with_reducible first | exact HB.out | apply below_alloc | apply pw_below_drewN | apply below_drew1 | refine below_set ?_ GE170.out) | exact HB.out)) hb); clear BK170; clear HB; have BK170 := n0_; have HB := n1_; clear n0_ n1_; (try clear hb); (try clear hb2); (try clear hk); (try clear hi)))
     go_ret
     first | (exact ⟨by first | rfl | (simp [errW_none, errW_some] <;> rfl) | (simp [*, errW_none, errW_some] <;> rfl), by repeat (first | (with_reducible first | exact HB.out | apply below_alloc | apply pw_below_drewN | apply below_drew1 | refine below_set ?_ GE170.out) | exact HB.out)⟩) | (focus (exfalso; simp_all; done))
     all_goals (first | (exfalso; simp_all <;> omega) | (go_ret; exact ⟨by first | rfl | (simp [errW_none, errW_some] <;> rfl) | (simp [*, errW_none, errW_some] <;> rfl), by repeat (first | (with_reducible first | exact HB.out | apply below_alloc | apply pw_below_drewN | apply below_drew1 | refine below_set ?_ GE170.out) | exact HB.out)⟩))
    ·rw [if_neg c16] at H
     have c16b0 : (a0_0 == 4) = false := beq_eq_false_iff_ne.mpr c16
     have c16b1 : (a0_0 != 4) = true := bne_iff_ne.mpr c16
     have H' := Aside0.mk H
     clear H
     go_enter Tryz.func27, Tryz.ntmps27
     go_wp2_with (first | ((with_reducible refine gate_dst (N := 1) rfl ?_); refine box_event ?hg (N := 1) ?hd (cs := #[.int .i64 a0_0, .int .i64 a0_1, .string a0_2, .slice A0_3 l0_3.length c0_3, .slice A0_4 l0_4.length c0_4]) (t := 25) ?hr ?_; (case hd => rfl); (case hg => rfl); (case hr => first | (go_simp; done) | (go_simp; rfl)); intro gb170 hg w21 hbox hb; have n0_ := Aside0.mk (below_step (by repeat (first | (with_reducible first | exact HB.out | apply below_alloc | apply pw_below_drewN | apply below_drew1) | exact HB.out)) hb); have n1_ := Aside0.mk (hbox); have n2_ := Aside0.mk ((by rw [hg]; exact (below_size (by repeat (first | (with_reducible first | exact HB.out | apply below_alloc | apply pw_below_drewN | apply below_drew1) | exact HB.out))) : w.heap.size ≤ gb170)); have n3_ := Aside0.mk ((by rw [hg]; exact (below_size (by repeat (first | (with_reducible first | exact HB.out | apply below_alloc | apply pw_below_drewN | apply below_drew1) | exact HB.out))) : w.heap.size ≤ gb170)); clear HB; have HB := n0_; have BK170 := n1_; have GW170 := n2_; have GE170 := n3_; clear n0_ n1_ n2_ n3_; clear hb hbox hg; obtain ⟨hcz22_0, hcz22_1, hcz22_2, hcz22_3, hcz22_4⟩ := cells5 BK170.out; obtain ⟨hfz22_0, hfz22_1, hfz22_2, hfz22_3, hfz22_4⟩ := froz5 BK170.out))
     go_loopg [3, 4] k (fun kq v3 v4 w' => ∃ (x3_1 : ByteArray) (x4_1 : Int), v3 = .string x3_1 ∧ v4 = .int .i64 x4_1 ∧ Aside0 (exequaturref01_show.l0 kq x3_1 x4_1 a0_0 a0_1 a0_2 l0_3 l0_4 = some r) ∧ Aside0 (kq ≤ k) ∧ Aside0 (w'.heap[gb170]? = some (.cells #[.int .i64 a0_0, .int .i64 a0_1, .string a0_2, (.slice A0_3 l0_3.length c0_3), (.slice A0_4 l0_4.length c0_4)] 25 (0, 0))) ∧ Aside0 (Below w.heap.size w w'))
     case atStart => exact ⟨((⟨#[]⟩ : ByteArray)), (0), (by first | rfl | (simp; done) | (simp [*]; done) | (refine congrArg Value.bool ?_; rw [Bool.eq_iff_iff]; simp; done)), (by first | rfl | (simp; done) | (simp [*]; done) | (refine congrArg Value.bool ?_; rw [Bool.eq_iff_iff]; simp; done)), H', ⟨Nat.le_refl _⟩, ⟨by (with_reducible repeat (first | refine blk_drewN ?_ _ | refine blk_drew ?_ | refine blk_alloc ?_ _)); exact BK170.out⟩, ⟨by repeat (first | (with_reducible first | exact HB.out | apply below_alloc | apply pw_below_drewN | apply below_drew1 | refine below_set ?_ GE170.out) | exact HB.out)⟩⟩
     case round =>
      clear H'
      try clear c1; try clear c2; try clear c2b0; try clear c2b1; try clear p2; try clear c5; try clear c5b0; try clear c5b1; try clear c6; try clear c6b0; try clear c6b1; try clear c11; try clear c11b0; try clear c11b1; try clear c16; try clear c16b0; try clear c16b1; try clear hcz10_0; try clear hcz10_1; try clear hcz10_2; try clear hcz10_3; try clear hcz10_4; try clear hcz14_0; try clear hcz14_1; try clear hcz14_2; try clear hcz14_3; try clear hcz14_4; try clear hcz19_0; try clear hcz19_1; try clear hcz19_2; try clear hcz19_3; try clear hcz19_4; try clear hcz22_0; try clear hcz22_1; try clear hcz22_2; try clear hcz22_3; try clear hcz22_4; try clear hcz4_0; try clear hcz4_1; try clear hcz4_2; try clear hcz4_3; try clear hcz4_4; try clear hcz8_0; try clear hcz8_1; try clear hcz8_2; try clear hcz8_3; try clear hcz8_4; try clear hfz10_0; try clear hfz10_1; try clear hfz10_2; try clear hfz10_3; try clear hfz10_4; try clear hfz14_0; try clear hfz14_1; try clear hfz14_2; try clear hfz14_3; try clear hfz14_4; try clear hfz19_0; try clear hfz19_1; try clear hfz19_2; try clear hfz19_3; try clear hfz19_4; try clear hfz22_0; try clear hfz22_1; try clear hfz22_2; try clear hfz22_3; try clear hfz22_4; try clear hfz4_0; try clear hfz4_1; try clear hfz4_2; try clear hfz4_3; try clear hfz4_4; try clear hfz8_0; try clear hfz8_1; try clear hfz8_2; try clear hfz8_3; try clear hfz8_4
      obtain ⟨x3_1, x4_1, rfl, rfl, HA, HK1, BK170, HB⟩ := hrel
      cases gk with
      | zero => exact absurd HA.out (by simp [exequaturref01_show.l0])
      | succ k1 =>
       have H := HA.out
       clear HA
       simp only [exequaturref01_show.l0] at H
       by_cases c23 : x4_1 < (l0_3.length : Int)
       ·rw [if_pos c23] at H
        have c23b0 : decide (x4_1 < (l0_3.length : Int)) = true := decide_eq_true c23
        clear c23
        have HC24 := Aside0.mk H
        clear H
        obtain ⟨hcz25_0, hcz25_1, hcz25_2, hcz25_3, hcz25_4⟩ := cells5 BK170.out
        obtain ⟨hfz25_0, hfz25_1, hfz25_2, hfz25_3, hfz25_4⟩ := froz5 BK170.out
        go_upto_if 32 with (fail)
        go_cut [3] (fun v3 wc => ∃ (kq : Nat) (x3_23 : ByteArray), v3 = .string x3_23 ∧ Aside0 (exequaturref01_show.j1 kq x3_23 x4_1 a0_0 a0_1 a0_2 l0_3 l0_4 = some r) ∧ Aside0 (kq ≤ k1) ∧ Aside0 (wc.heap[gb170]? = some (.cells #[.int .i64 a0_0, .int .i64 a0_1, .string a0_2, (.slice A0_3 l0_3.length c0_3), (.slice A0_4 l0_4.length c0_4)] 25 (0, 0))) ∧ Aside0 (Below w.heap.size w wc))
        case first =>
         have H := HC24.out
         clear HC24
         by_cases c26 : x4_1 > 0
         ·rw [if_pos c26] at H
          have c26b0 : decide (0 < x4_1) = true := decide_eq_true c26
          clear c26
          (first | rw [c26b0] | (simp only [i64_w, i32_w]; rw [c26b0]) | skip)
          by_cases c27 : x3_1.size + 1 ≤ 9223372036854775807
          rotate_left
          ·rw [if_neg c27] at H; exact absurd H (by simp)
          rw [if_pos c27] at H
          have c27b0 := eq_true c27
          have c27b1 : decide (x3_1.size + 1 ≤ 9223372036854775807) = true := decide_eq_true c27
          try have c27b2 : (9223372036854775807 < x3_1.size + 1) = False := eq_false (Nat.not_lt.2 c27)
          try have c27b3 : (9223372036854775807 < x3_1.size + 1) = False := eq_false (Nat.not_lt.2 (by have h_ := c27; simp only [ByteArray.size_append] at h_; exact h_))
          have H' := Aside0.mk H
          clear H
          go_wp2
          go_meet
          case rel => exact ⟨_, (x3_1 ++ (⟨#[44]⟩ : ByteArray)), (by first | rfl | (simp; done) | (simp [*]; done) | (refine congrArg Value.bool ?_; rw [Bool.eq_iff_iff]; simp; done)), H', ⟨by have := HK1.out; first | omega | exact Nat.le_refl _⟩, ⟨by (with_reducible repeat (first | refine blk_drewN ?_ _ | refine blk_drew ?_ | refine blk_alloc ?_ _)); exact BK170.out⟩, ⟨by repeat (first | (with_reducible first | exact HB.out | apply below_alloc | apply pw_below_drewN | apply below_drew1 | refine below_set ?_ GE170.out) | exact HB.out)⟩⟩
         ·rw [if_neg c26] at H
          have c26b0 : decide (0 < x4_1) = false := decide_eq_false c26
          clear c26
          (first | rw [c26b0] | (simp only [i64_w, i32_w]; rw [c26b0]) | skip)
          have H' := Aside0.mk H
          clear H
          go_wp2
          go_meet
          case rel => exact ⟨_, (x3_1), (by first | rfl | (simp; done) | (simp [*]; done) | (refine congrArg Value.bool ?_; rw [Bool.eq_iff_iff]; simp; done)), H', ⟨by have := HK1.out; first | omega | exact Nat.le_refl _⟩, ⟨by (with_reducible repeat (first | refine blk_drewN ?_ _ | refine blk_drew ?_ | refine blk_alloc ?_ _)); exact BK170.out⟩, ⟨by repeat (first | (with_reducible first | exact HB.out | apply below_alloc | apply pw_below_drewN | apply below_drew1 | refine below_set ?_ GE170.out) | exact HB.out)⟩⟩
        case rest =>
         clear HC24; try clear c1; try clear c2; try clear c2b0; try clear c2b1; try clear p2; try clear c5; try clear c5b0; try clear c5b1; try clear c6; try clear c6b0; try clear c6b1; try clear c11; try clear c11b0; try clear c11b1; try clear c16; try clear c16b0; try clear c16b1; try clear c23; try clear c23b0; try clear c26; try clear c26b0; try clear c27; try clear c27b0; try clear c27b1; try clear c27b2; try clear hcz10_0; try clear hcz10_1; try clear hcz10_2; try clear hcz10_3; try clear hcz10_4; try clear hcz14_0; try clear hcz14_1; try clear hcz14_2; try clear hcz14_3; try clear hcz14_4; try clear hcz19_0; try clear hcz19_1; try clear hcz19_2; try clear hcz19_3; try clear hcz19_4; try clear hcz22_0; try clear hcz22_1; try clear hcz22_2; try clear hcz22_3; try clear hcz22_4; try clear hcz25_0; try clear hcz25_1; try clear hcz25_2; try clear hcz25_3; try clear hcz25_4; try clear hcz4_0; try clear hcz4_1; try clear hcz4_2; try clear hcz4_3; try clear hcz4_4; try clear hcz8_0; try clear hcz8_1; try clear hcz8_2; try clear hcz8_3; try clear hcz8_4; try clear hfz10_0; try clear hfz10_1; try clear hfz10_2; try clear hfz10_3; try clear hfz10_4; try clear hfz14_0; try clear hfz14_1; try clear hfz14_2; try clear hfz14_3; try clear hfz14_4; try clear hfz19_0; try clear hfz19_1; try clear hfz19_2; try clear hfz19_3; try clear hfz19_4; try clear hfz22_0; try clear hfz22_1; try clear hfz22_2; try clear hfz22_3; try clear hfz22_4; try clear hfz25_0; try clear hfz25_1; try clear hfz25_2; try clear hfz25_3; try clear hfz25_4; try clear hfz4_0; try clear hfz4_1; try clear hfz4_2; try clear hfz4_3; try clear hfz4_4; try clear hfz8_0; try clear hfz8_1; try clear hfz8_2; try clear hfz8_3; try clear hfz8_4; try clear p2
         obtain ⟨kq, x3_23, rfl, HA, HJ23, BK170, HB⟩ := hcut
         cases kq with
         | zero => exact absurd HA.out (by simp [exequaturref01_show.j1])
         | succ kj23 =>
          have H := HA.out
          clear HA
          simp only [exequaturref01_show.j1] at H
          by_cases c28 : a0_0 = 6
          ·rw [if_pos c28] at H
           have c28b0 : (a0_0 == 6) = true := beq_iff_eq.mpr c28
           have c28b1 : (a0_0 != 6) = false := bne_eq_false_iff_eq.mpr c28
           clear c28
           by_cases c29 : 0 ≤ x4_1
           rotate_left
           ·rw [if_neg c29] at H; exact absurd H (by simp)
           rw [if_pos c29] at H
           have c29b0 : decide (0 ≤ x4_1) = true := decide_eq_true c29
           clear c29
           by_cases c30 : x4_1 < (l0_4.length : Int)
           rotate_left
           ·rw [if_neg c30] at H; exact absurd H (by simp)
           rw [if_pos c30] at H
           have c30b0 : decide (x4_1 < (l0_4.length : Int)) = true := decide_eq_true c30
           clear c30
           replace H := Option.bind_eq_some_iff.mp H
           obtain ⟨t174, A310, H⟩ := H
           replace H : (if x3_23.size + t174.size ≤ 9223372036854775807 then (if (x3_23 ++ t174).size + 1 ≤ 9223372036854775807 then (if x4_1 < (l0_3.length : Int) then ((exequaturref01_show.f kj23 ((rd_T25 l0_3 x4_1).f0) ((rd_T25 l0_3 x4_1).f1) ((rd_T25 l0_3 x4_1).f2) ((rd_T25 l0_3 x4_1).f3) ((rd_T25 l0_3 x4_1).f4)).bind fun t176 => (if ((x3_23 ++ t174) ++ (⟨#[58]⟩ : ByteArray)).size + t176.size ≤ 9223372036854775807 then (exequaturref01_show.l0 kj23 (((x3_23 ++ t174) ++ (⟨#[58]⟩ : ByteArray)) ++ t176) (wrap64 (x4_1 + 1)) a0_0 a0_1 a0_2 l0_3 l0_4) else (none))) else (none)) else (none)) else (none)) = some r := H
           have A31 := Aside0.mk A310
           clear A310
           by_cases c32 : x3_23.size + t174.size ≤ 9223372036854775807
           rotate_left
           ·rw [if_neg c32] at H; exact absurd H (by simp)
           rw [if_pos c32] at H
           have c32b0 := eq_true c32
           have c32b1 : decide (x3_23.size + t174.size ≤ 9223372036854775807) = true := decide_eq_true c32
           try have c32b2 : (9223372036854775807 < x3_23.size + t174.size) = False := eq_false (Nat.not_lt.2 c32)
           try have c32b3 : (9223372036854775807 < x3_23.size + t174.size) = False := eq_false (Nat.not_lt.2 (by have h_ := c32; simp only [ByteArray.size_append] at h_; exact h_))
           by_cases c33 : (x3_23 ++ t174).size + 1 ≤ 9223372036854775807
           rotate_left
           ·rw [if_neg c33] at H; exact absurd H (by simp)
           rw [if_pos c33] at H
           have c33b0 := eq_true c33
           have c33b1 : decide ((x3_23 ++ t174).size + 1 ≤ 9223372036854775807) = true := decide_eq_true c33
           try have c33b2 : (9223372036854775807 < (x3_23 ++ t174).size + 1) = False := eq_false (Nat.not_lt.2 c33)
           try have c33b3 : (9223372036854775807 < x3_23.size + t174.size + 1) = False := eq_false (Nat.not_lt.2 (by have h_ := c33; simp only [ByteArray.size_append] at h_; exact h_))
           by_cases c34 : x4_1 < (l0_3.length : Int)
           rotate_left
           ·rw [if_neg c34] at H; exact absurd H (by simp)
           rw [if_pos c34] at H
           have c34b0 : decide (x4_1 < (l0_3.length : Int)) = true := decide_eq_true c34
           clear c34
           replace H := Option.bind_eq_some_iff.mp H
           obtain ⟨t176, A350, H⟩ := H
           replace H : (if ((x3_23 ++ t174) ++ (⟨#[58]⟩ : ByteArray)).size + t176.size ≤ 9223372036854775807 then (exequaturref01_show.l0 kj23 (((x3_23 ++ t174) ++ (⟨#[58]⟩ : ByteArray)) ++ t176) (wrap64 (x4_1 + 1)) a0_0 a0_1 a0_2 l0_3 l0_4) else (none)) = some r := H
           have A35 := Aside0.mk A350
           clear A350
           by_cases c36 : ((x3_23 ++ t174) ++ (⟨#[58]⟩ : ByteArray)).size + t176.size ≤ 9223372036854775807
           rotate_left
           ·rw [if_neg c36] at H; exact absurd H (by simp)
           rw [if_pos c36] at H
           have c36b0 := eq_true c36
           have c36b1 : decide (((x3_23 ++ t174) ++ (⟨#[58]⟩ : ByteArray)).size + t176.size ≤ 9223372036854775807) = true := decide_eq_true c36
           try have c36b2 : (9223372036854775807 < ((x3_23 ++ t174) ++ (⟨#[58]⟩ : ByteArray)).size + t176.size) = False := eq_false (Nat.not_lt.2 c36)
           try have c36b3 : (9223372036854775807 < x3_23.size + t174.size + 1 + t176.size) = False := eq_false (Nat.not_lt.2 (by have h_ := c36; simp only [ByteArray.size_append] at h_; exact h_))
           have H' := Aside0.mk H
           clear H
           obtain ⟨hcz37_0, hcz37_1, hcz37_2, hcz37_3, hcz37_4⟩ := cells5 BK170.out
           obtain ⟨hfz37_0, hfz37_1, hfz37_2, hfz37_3, hfz37_4⟩ := froz5 BK170.out
           have p173 : 0 ≤ (x4_1 : Int) := of_decide_eq_true (by first | (with_reducible assumption) | assumption)
           have q173 : x4_1 < (l0_4.length : Int) := of_decide_eq_true (by first | (with_reducible assumption) | assumption)
           obtain ⟨ad173, e173, hx173_0⟩ := Kd.at_string HR0_4.out x4_1 p173 q173
           cases e173
           replace hx173_0 := (HB.out.cell (World.block_lt_of_cell? w _ hx173_0)).trans hx173_0
           replace p173 := eq_true p173
           replace q173 := eq_true q173
           go_wp2_with (first | ((with_reducible refine gate_callee (f := 55) rfl ?_); refine goesL_ (some 44) rfl rfl Tryz.func55 (by kernel_rfl) rfl #[.string (rdOf ByteArray.empty l0_4 x4_1)] rfl (by (try simp only [List.map_toArray, List.map_cons, List.map_nil]); first | done | rfl | (simp only [List.length_drop, List.length_take]; rfl)) ?_; (with_reducible refine (exequaturref01_quote.calls kj23 (rdOf ByteArray.empty l0_4 x4_1) t174 _ A31.out).mono ?_); rintro e w38 ⟨rfl, hb⟩; refine ⟨_, rfl, ?_⟩; have n0_ := Aside0.mk (blk_belowB BK170.out (by (with_reducible repeat (first | refine blk_drewN ?_ _ | refine blk_drew ?_ | refine blk_alloc ?_ _)); exact BK170.out) hb); have n1_ := Aside0.mk (below_step (by repeat (first | (with_reducible first | exact HB.out | apply below_alloc | apply pw_below_drewN | apply below_drew1 | refine below_set ?_ GE170.out) | exact HB.out)) hb); clear BK170; clear HB; have BK170 := n0_; have HB := n1_; clear n0_ n1_; (try clear hb); (try clear hb2); (try clear hk); (try clear hi); obtain ⟨hcz39_0, hcz39_1, hcz39_2, hcz39_3, hcz39_4⟩ := cells5 BK170.out; obtain ⟨hfz39_0, hfz39_1, hfz39_2, hfz39_3, hfz39_4⟩ := froz5 BK170.out; have p175 : 0 ≤ (x4_1 : Int) := of_decide_eq_true (by first | (with_reducible assumption) | assumption); have q175 : x4_1 < (l0_3.length : Int) := of_decide_eq_true (by first | (with_reducible assumption) | assumption); obtain ⟨ad175, A175_3, c175_3, A175_4, c175_4, e175, hx175_0, hx175_1, hx175_2, hx175_3, hx175_4, hl175_3, hi175_3, hl175_4, hi175_4⟩ := at_T25 HR0_3.out x4_1 p175 q175; cases e175; replace hx175_0 := (HB.out.cell (World.block_lt_of_cell? w _ hx175_0)).trans hx175_0; replace hx175_1 := (HB.out.cell (World.block_lt_of_cell? w _ hx175_1)).trans hx175_1; replace hx175_2 := (HB.out.cell (World.block_lt_of_cell? w _ hx175_2)).trans hx175_2; replace hx175_3 := (HB.out.cell (World.block_lt_of_cell? w _ hx175_3)).trans hx175_3; replace hx175_4 := (HB.out.cell (World.block_lt_of_cell? w _ hx175_4)).trans hx175_4; have HR175_3 := Aside0.mk hi175_3; have HC175_3 := Aside0.mk hl175_3; clear hi175_3 hl175_3; have HR175_4 := Aside0.mk hi175_4; have HC175_4 := Aside0.mk hl175_4; clear hi175_4 hl175_4; replace p175 := eq_true p175; replace q175 := eq_true q175) | ((with_reducible refine gate_callee (f := 27) rfl ?_); refine goesL_ (some 53) rfl rfl Tryz.func27 (by kernel_rfl) rfl #[.agg #[.int .i64 ((rd_T25 l0_3 x4_1).f0), .int .i64 ((rd_T25 l0_3 x4_1).f1), .string ((rd_T25 l0_3 x4_1).f2), .slice A175_3 ((rd_T25 l0_3 x4_1).f3).length c175_3, .slice A175_4 ((rd_T25 l0_3 x4_1).f4).length c175_4]] rfl (by (try simp only [List.map_toArray, List.map_cons, List.map_nil]); first | done | rfl | (simp only [List.length_drop, List.length_take]; rfl)) ?_; (with_reducible refine (ih kj23 (by have := HK1.out; have := HJ23.out; omega) ((rd_T25 l0_3 x4_1).f0) ((rd_T25 l0_3 x4_1).f1) ((rd_T25 l0_3 x4_1).f2) _ _ ((rd_T25 l0_3 x4_1).f3) _ _ ((rd_T25 l0_3 x4_1).f4) t176 _ ?side1 ?side2 ?side3 ?side4 A35.out).mono ?_); (case side1 => repeat (first | exact (Kd.C_below HR175_3.out HB.out) | (with_reducible refine Kd.C_alloc ?_ _) | (with_reducible refine Kd.C_drewN ?_ _) | (with_reducible refine Kd.C_drew ?_))); (case side2 => exact HC175_3.out); (case side3 => repeat (first | exact (Kd.C_below HR175_4.out HB.out) | (with_reducible refine Kd.C_alloc ?_ _) | (with_reducible refine Kd.C_drewN ?_ _) | (with_reducible refine Kd.C_drew ?_))); (case side4 => exact HC175_4.out); rintro e w40 ⟨rfl, hb⟩; refine ⟨_, rfl, ?_⟩; have n0_ := Aside0.mk (blk_belowB BK170.out (by (with_reducible repeat (first | refine blk_drewN ?_ _ | refine blk_drew ?_ | refine blk_alloc ?_ _)); exact BK170.out) hb); have n1_ := Aside0.mk (below_step (by repeat (first | (with_reducible first | exact HB.out | apply below_alloc | apply pw_below_drewN | apply below_drew1 | refine below_set ?_ GE170.out) | exact HB.out)) hb); clear BK170; clear HB; have BK170 := n0_; have HB := n1_; clear n0_ n1_; (try clear hb); (try clear hb2); (try clear hk); (try clear hi)))
           go_roundg kj23
           case measure => have := HK1.out; have := HJ23.out; omega
           case rel => exact ⟨(((x3_23 ++ t174) ++ (⟨#[58]⟩ : ByteArray)) ++ t176), (wrap64 (x4_1 + 1)), (by first | rfl | (simp; done) | (simp [*]; done) | (refine congrArg Value.bool ?_; rw [Bool.eq_iff_iff]; simp; done)), (by first | rfl | (simp; done) | (simp [*]; done) | (refine congrArg Value.bool ?_; rw [Bool.eq_iff_iff]; simp; done)), H', ⟨by have := HK1.out; have := HJ23.out; omega⟩, ⟨by (with_reducible repeat (first | refine blk_drewN ?_ _ | refine blk_drew ?_ | refine blk_alloc ?_ _)); exact BK170.out⟩, ⟨by repeat (first | (with_reducible first | exact HB.out | apply below_alloc | apply pw_below_drewN | apply below_drew1 | refine below_set ?_ GE170.out) | exact HB.out)⟩⟩
          ·rw [if_neg c28] at H
           have c28b0 : (a0_0 == 6) = false := beq_eq_false_iff_ne.mpr c28
           have c28b1 : (a0_0 != 6) = true := bne_iff_ne.mpr c28
           by_cases c41 : 0 ≤ x4_1
           rotate_left
           ·rw [if_neg c41] at H; exact absurd H (by simp)
           rw [if_pos c41] at H
           have c41b0 : decide (0 ≤ x4_1) = true := decide_eq_true c41
           clear c41
           by_cases c42 : x4_1 < (l0_3.length : Int)
           rotate_left
           ·rw [if_neg c42] at H; exact absurd H (by simp)
           rw [if_pos c42] at H
           have c42b0 : decide (x4_1 < (l0_3.length : Int)) = true := decide_eq_true c42
           clear c42
           replace H := Option.bind_eq_some_iff.mp H
           obtain ⟨t178, A430, H⟩ := H
           replace H : (if x3_23.size + t178.size ≤ 9223372036854775807 then (exequaturref01_show.l0 kj23 (x3_23 ++ t178) (wrap64 (x4_1 + 1)) a0_0 a0_1 a0_2 l0_3 l0_4) else (none)) = some r := H
           have A43 := Aside0.mk A430
           clear A430
           by_cases c44 : x3_23.size + t178.size ≤ 9223372036854775807
           rotate_left
           ·rw [if_neg c44] at H; exact absurd H (by simp)
           rw [if_pos c44] at H
           have c44b0 := eq_true c44
           have c44b1 : decide (x3_23.size + t178.size ≤ 9223372036854775807) = true := decide_eq_true c44
           try have c44b2 : (9223372036854775807 < x3_23.size + t178.size) = False := eq_false (Nat.not_lt.2 c44)
           try have c44b3 : (9223372036854775807 < x3_23.size + t178.size) = False := eq_false (Nat.not_lt.2 (by have h_ := c44; simp only [ByteArray.size_append] at h_; exact h_))
           have H' := Aside0.mk H
           clear H
           obtain ⟨hcz45_0, hcz45_1, hcz45_2, hcz45_3, hcz45_4⟩ := cells5 BK170.out
           obtain ⟨hfz45_0, hfz45_1, hfz45_2, hfz45_3, hfz45_4⟩ := froz5 BK170.out
           have p177 : 0 ≤ (x4_1 : Int) := of_decide_eq_true (by first | (with_reducible assumption) | assumption)
           have q177 : x4_1 < (l0_3.length : Int) := of_decide_eq_true (by first | (with_reducible assumption) | assumption)
           obtain ⟨ad177, A177_3, c177_3, A177_4, c177_4, e177, hx177_0, hx177_1, hx177_2, hx177_3, hx177_4, hl177_3, hi177_3, hl177_4, hi177_4⟩ := at_T25 HR0_3.out x4_1 p177 q177
           cases e177
           replace hx177_0 := (HB.out.cell (World.block_lt_of_cell? w _ hx177_0)).trans hx177_0
           replace hx177_1 := (HB.out.cell (World.block_lt_of_cell? w _ hx177_1)).trans hx177_1
           replace hx177_2 := (HB.out.cell (World.block_lt_of_cell? w _ hx177_2)).trans hx177_2
           replace hx177_3 := (HB.out.cell (World.block_lt_of_cell? w _ hx177_3)).trans hx177_3
           replace hx177_4 := (HB.out.cell (World.block_lt_of_cell? w _ hx177_4)).trans hx177_4
           have HR177_3 := Aside0.mk hi177_3
           have HC177_3 := Aside0.mk hl177_3
           clear hi177_3 hl177_3
           have HR177_4 := Aside0.mk hi177_4
           have HC177_4 := Aside0.mk hl177_4
           clear hi177_4 hl177_4
           replace p177 := eq_true p177
           replace q177 := eq_true q177
           go_wp2_with (first | ((with_reducible refine gate_callee (f := 27) rfl ?_); refine goesL_ (some 53) rfl rfl Tryz.func27 (by kernel_rfl) rfl #[.agg #[.int .i64 ((rd_T25 l0_3 x4_1).f0), .int .i64 ((rd_T25 l0_3 x4_1).f1), .string ((rd_T25 l0_3 x4_1).f2), .slice A177_3 ((rd_T25 l0_3 x4_1).f3).length c177_3, .slice A177_4 ((rd_T25 l0_3 x4_1).f4).length c177_4]] rfl (by (try simp only [List.map_toArray, List.map_cons, List.map_nil]); first | done | rfl | (simp only [List.length_drop, List.length_take]; rfl)) ?_; (with_reducible refine (ih kj23 (by have := HK1.out; have := HJ23.out; omega) ((rd_T25 l0_3 x4_1).f0) ((rd_T25 l0_3 x4_1).f1) ((rd_T25 l0_3 x4_1).f2) _ _ ((rd_T25 l0_3 x4_1).f3) _ _ ((rd_T25 l0_3 x4_1).f4) t178 _ ?side1 ?side2 ?side3 ?side4 A43.out).mono ?_); (case side1 => repeat (first | exact (Kd.C_below HR177_3.out HB.out) | (with_reducible refine Kd.C_alloc ?_ _) | (with_reducible refine Kd.C_drewN ?_ _) | (with_reducible refine Kd.C_drew ?_))); (case side2 => exact HC177_3.out); (case side3 => repeat (first | exact (Kd.C_below HR177_4.out HB.out) | (with_reducible refine Kd.C_alloc ?_ _) | (with_reducible refine Kd.C_drewN ?_ _) | (with_reducible refine Kd.C_drew ?_))); (case side4 => exact HC177_4.out); rintro e w46 ⟨rfl, hb⟩; refine ⟨_, rfl, ?_⟩; have n0_ := Aside0.mk (blk_belowB BK170.out (by (with_reducible repeat (first | refine blk_drewN ?_ _ | refine blk_drew ?_ | refine blk_alloc ?_ _)); exact BK170.out) hb); have n1_ := Aside0.mk (below_step (by repeat (first | (with_reducible first | exact HB.out | apply below_alloc | apply pw_below_drewN | apply below_drew1 | refine below_set ?_ GE170.out) | exact HB.out)) hb); clear BK170; clear HB; have BK170 := n0_; have HB := n1_; clear n0_ n1_; (try clear hb); (try clear hb2); (try clear hk); (try clear hi)))
           go_roundg kj23
           case measure => have := HK1.out; have := HJ23.out; omega
           case rel => exact ⟨(x3_23 ++ t178), (wrap64 (x4_1 + 1)), (by first | rfl | (simp; done) | (simp [*]; done) | (refine congrArg Value.bool ?_; rw [Bool.eq_iff_iff]; simp; done)), (by first | rfl | (simp; done) | (simp [*]; done) | (refine congrArg Value.bool ?_; rw [Bool.eq_iff_iff]; simp; done)), H', ⟨by have := HK1.out; have := HJ23.out; omega⟩, ⟨by (with_reducible repeat (first | refine blk_drewN ?_ _ | refine blk_drew ?_ | refine blk_alloc ?_ _)); exact BK170.out⟩, ⟨by repeat (first | (with_reducible first | exact HB.out | apply below_alloc | apply pw_below_drewN | apply below_drew1 | refine below_set ?_ GE170.out) | exact HB.out)⟩⟩
       ·rw [if_neg c23] at H
        have c23b0 : decide (x4_1 < (l0_3.length : Int)) = false := decide_eq_false c23
        clear c23
        by_cases c47 : a0_0 = 5
        ·rw [if_pos c47] at H
         have c47b0 : (a0_0 == 5) = true := beq_iff_eq.mpr c47
         have c47b1 : (a0_0 != 5) = false := bne_eq_false_iff_eq.mpr c47
         clear c47
         by_cases c48 : 1 + x3_1.size ≤ 9223372036854775807
         rotate_left
         ·rw [if_neg c48] at H; exact absurd H (by simp)
         rw [if_pos c48] at H
         have c48b0 := eq_true c48
         have c48b1 : decide (1 + x3_1.size ≤ 9223372036854775807) = true := decide_eq_true c48
         try have c48b2 : (9223372036854775807 < 1 + x3_1.size) = False := eq_false (Nat.not_lt.2 c48)
         try have c48b3 : (9223372036854775807 < 1 + x3_1.size) = False := eq_false (Nat.not_lt.2 (by have h_ := c48; simp only [ByteArray.size_append] at h_; exact h_))
         by_cases c49 : ((⟨#[91]⟩ : ByteArray) ++ x3_1).size + 1 ≤ 9223372036854775807
         rotate_left
         ·rw [if_neg c49] at H; exact absurd H (by simp)
         rw [if_pos c49] at H
         have c49b0 := eq_true c49
         have c49b1 : decide (((⟨#[91]⟩ : ByteArray) ++ x3_1).size + 1 ≤ 9223372036854775807) = true := decide_eq_true c49
         try have c49b2 : (9223372036854775807 < ((⟨#[91]⟩ : ByteArray) ++ x3_1).size + 1) = False := eq_false (Nat.not_lt.2 c49)
         try have c49b3 : (9223372036854775807 < 1 + x3_1.size + 1) = False := eq_false (Nat.not_lt.2 (by have h_ := c49; simp only [ByteArray.size_append] at h_; exact h_))
         obtain rfl := Option.some.inj H
         obtain ⟨hcz50_0, hcz50_1, hcz50_2, hcz50_3, hcz50_4⟩ := cells5 BK170.out
         obtain ⟨hfz50_0, hfz50_1, hfz50_2, hfz50_3, hfz50_4⟩ := froz5 BK170.out
         go_wp2
         go_ret
         first | (exact ⟨by first | rfl | (simp [errW_none, errW_some] <;> rfl) | (simp [*, errW_none, errW_some] <;> rfl), by repeat (first | (with_reducible first | exact HB.out | apply below_alloc | apply pw_below_drewN | apply below_drew1 | refine below_set ?_ GE170.out) | exact HB.out)⟩) | (focus (exfalso; simp_all; done))
         all_goals (first | (exfalso; simp_all <;> omega) | (go_ret; exact ⟨by first | rfl | (simp [errW_none, errW_some] <;> rfl) | (simp [*, errW_none, errW_some] <;> rfl), by repeat (first | (with_reducible first | exact HB.out | apply below_alloc | apply pw_below_drewN | apply below_drew1 | refine below_set ?_ GE170.out) | exact HB.out)⟩))
        ·rw [if_neg c47] at H
         have c47b0 : (a0_0 == 5) = false := beq_eq_false_iff_ne.mpr c47
         have c47b1 : (a0_0 != 5) = true := bne_iff_ne.mpr c47
         by_cases c51 : 1 + x3_1.size ≤ 9223372036854775807
         rotate_left
         ·rw [if_neg c51] at H; exact absurd H (by simp)
         rw [if_pos c51] at H
         have c51b0 := eq_true c51
         have c51b1 : decide (1 + x3_1.size ≤ 9223372036854775807) = true := decide_eq_true c51
         try have c51b2 : (9223372036854775807 < 1 + x3_1.size) = False := eq_false (Nat.not_lt.2 c51)
         try have c51b3 : (9223372036854775807 < 1 + x3_1.size) = False := eq_false (Nat.not_lt.2 (by have h_ := c51; simp only [ByteArray.size_append] at h_; exact h_))
         by_cases c52 : ((⟨#[123]⟩ : ByteArray) ++ x3_1).size + 1 ≤ 9223372036854775807
         rotate_left
         ·rw [if_neg c52] at H; exact absurd H (by simp)
         rw [if_pos c52] at H
         have c52b0 := eq_true c52
         have c52b1 : decide (((⟨#[123]⟩ : ByteArray) ++ x3_1).size + 1 ≤ 9223372036854775807) = true := decide_eq_true c52
         try have c52b2 : (9223372036854775807 < ((⟨#[123]⟩ : ByteArray) ++ x3_1).size + 1) = False := eq_false (Nat.not_lt.2 c52)
         try have c52b3 : (9223372036854775807 < 1 + x3_1.size + 1) = False := eq_false (Nat.not_lt.2 (by have h_ := c52; simp only [ByteArray.size_append] at h_; exact h_))
         obtain rfl := Option.some.inj H
         obtain ⟨hcz53_0, hcz53_1, hcz53_2, hcz53_3, hcz53_4⟩ := cells5 BK170.out
         obtain ⟨hfz53_0, hfz53_1, hfz53_2, hfz53_3, hfz53_4⟩ := froz5 BK170.out
         go_wp2
         go_ret
         first | (exact ⟨by first | rfl | (simp [errW_none, errW_some] <;> rfl) | (simp [*, errW_none, errW_some] <;> rfl), by repeat (first | (with_reducible first | exact HB.out | apply below_alloc | apply pw_below_drewN | apply below_drew1 | refine below_set ?_ GE170.out) | exact HB.out)⟩) | (focus (exfalso; simp_all; done))
         all_goals (first | (exfalso; simp_all <;> omega) | (go_ret; exact ⟨by first | rfl | (simp [errW_none, errW_some] <;> rfl) | (simp [*, errW_none, errW_some] <;> rfl), by repeat (first | (with_reducible first | exact HB.out | apply below_alloc | apply pw_below_drewN | apply below_drew1 | refine below_set ?_ GE170.out) | exact HB.out)⟩))

-- NOT PRINTED: function 10 (exequaturref01_Parse)

end Go.Proofs.YtifejhbochkifaaGreatDoor.X
