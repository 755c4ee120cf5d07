-- Lean text made by xprint.py (ours) out of the seat's translation. Lean checks it.
import Derived.Test.YtjfajkdamechiaaDoorX0
import Derived.Test.YtjfajkdamechiaaDoorX3
import Derived.Test.YtjfajkdamechiaaDoorHLib
import Derived.Test.YtjfajkdamechiaaDoorHTx
namespace Go.Proofs.YtjfajkdamechiaaDoor.X
open Go.RowKit Go.Proofs.YtjfajkdamechiaaDoorW.PrintWords Go.Proofs.YtjfajkdamechiaaDoorW.PrintLast Go.Proofs.YtjfajkdamechiaaDoorW.PrintMore
attribute [local go_sem] max2_int min2_int max_two min_two max_three min_three max_four min_four   -- for this text's walks alone
set_option linter.unusedVariables false
set_option linter.unusedSimpArgs false

/-! ### script_line: function 15 -/
def script_line.l0 : Nat → List ByteArray → List ByteArray → Int → Int → Option (ByteArray)
  | 0, _, _, _, _ => none
  | k + 1, x3, x39, x40, x41 => if x41 < x40 then (if 0 ≤ x41 then (if x41 < (x39.length : Int) then ((script_word.f (rdOf ByteArray.empty x39 x41)).bind fun t116 => (if x3.length < 8796093022208 then (script_line.l0 k (x3 ++ [t116]) x39 x40 (wrap64 (x41 + 1))) else (none))) else (none)) else (none)) else ((strings_Join.f x3 (⟨#[32]⟩ : ByteArray)).bind fun t120 => (if t120.size + 1 ≤ 9223372036854775807 then (some (t120 ++ (⟨#[10]⟩ : ByteArray))) else (none)))
def script_line.f (k : Nat) (a0_0 : Int) (a0_1 : Int) (a0_2 : ByteArray) (a0_3 : ByteArray) (a0_4 : ByteArray) (a0_5 : ByteArray) (a0_6 : ByteArray) (a0_7 : ByteArray) (a0_8 : ByteArray) (a0_9 : ByteArray) (a0_10 : ByteArray) (a0_11 : ByteArray) (l0_12 : List ByteArray) : Option (ByteArray) := (strconv_Itoa_22.f a0_0).bind fun t103 => ((strconv_Itoa_22.f a0_1).bind fun t104 => ((some (([a0_2, a0_3, a0_4, a0_5, a0_6, a0_7, a0_8, a0_9, a0_10, a0_11] : List ByteArray) : List ByteArray)).bind fun y109 => (if y109.length + l0_12.length < 8796093022208 then ((some (y109 ++ l0_12 : List ByteArray)).bind fun y112 => (script_line.l0 k (([t103, t104] : List ByteArray)) y112 (y112.length : Int) 0)) else (none))))
theorem script_line.mono_l : ∀ k, (∀ y0 y1 y2 y3, LeO (script_line.l0 k y0 y1 y2 y3) (script_line.l0 (k + 1) y0 y1 y2 y3))
  | 0 => fun _ _ _ _ r h => by simp [script_line.l0] at h
  | k + 1 => by
    have ih0 := script_line.mono_l k
    · intro y0 y1 y2 y3
      unfold script_line.l0
      repeat' first
      | (with_reducible exact ih0 _ _ _ _)
      | (with_reducible exact LeO.refl _)
      | (with_reducible exact LeO.none _)
      | (with_reducible refine LeO.ite ?_ ?_)
      | (with_reducible refine LeO.bind ?_ (fun _ => ?_))
      | exact ih0 _ _ _ _
      | exact LeO.none _
      | refine LeO.ite ?_ ?_
      | refine LeO.bind ?_ (fun _ => ?_)
theorem script_line.mono : ∀ a0 a1 a2 a3 a4 a5 a6 a7 a8 a9 a10 a11 a12 k, LeO (script_line.f k a0 a1 a2 a3 a4 a5 a6 a7 a8 a9 a10 a11 a12) (script_line.f (k + 1) a0 a1 a2 a3 a4 a5 a6 a7 a8 a9 a10 a11 a12) := by
  intro a0 a1 a2 a3 a4 a5 a6 a7 a8 a9 a10 a11 a12 k
  have ih0 := script_line.mono_l k
  unfold script_line.f
  repeat' first
      | (with_reducible exact ih0 _ _ _ _)
      | (with_reducible exact LeO.refl _)
      | (with_reducible exact LeO.none _)
      | (with_reducible refine LeO.ite ?_ ?_)
      | (with_reducible refine LeO.bind ?_ (fun _ => ?_))
      | exact ih0 _ _ _ _
      | exact LeO.none _
      | refine LeO.ite ?_ ?_
      | refine LeO.bind ?_ (fun _ => ?_)
def script_line.T1 : Bool × List (List Nat × List Nat) := (true, [([], []), ([0], [0]), ([1], [1]), ([], []), ([3], [3]), ([4, 2], [4]), ([2, 5], [2, 5]), ([6, 5, 0, 1, 2, 3, 4, 5, 6], [6])])
def script_line.B1 : List Nat := [0, 1, 3, 0, 8, 31, 63, 127]
theorem script_line.tab1 : rtab .any (opsOf Tryd.f15 1) = script_line.T1 := by kernel_rfl
theorem script_line.bits1 : waitsOk script_line.T1.2 script_line.B1 = true := by kernel_rfl
set_option maxHeartbeats 8000000 in
set_option maxRecDepth 100000 in
theorem script_line.calls (k : Nat) (a0_0 : Int) (a0_1 : Int) (a0_2 : ByteArray) (a0_3 : ByteArray) (a0_4 : ByteArray) (a0_5 : ByteArray) (a0_6 : ByteArray) (a0_7 : ByteArray) (a0_8 : ByteArray) (a0_9 : ByteArray) (a0_10 : ByteArray) (a0_11 : ByteArray) (A0_12 : Option Addr) (c0_12 : Nat) (l0_12 : List ByteArray) (r : ByteArray) (w : World) (hr0_12 : Kd.C Kd.string w A0_12 l0_12.length l0_12) (hc0_12 : l0_12.length ≤ c0_12) (h : script_line.f k a0_0 a0_1 a0_2 a0_3 a0_4 a0_5 a0_6 a0_7 a0_8 a0_9 a0_10 a0_11 l0_12 = some r) (hG : GOK w := by first | assumption | exact hG | exact GOK.drewN _ hG | exact GOK.below hG (by repeat (first | (with_reducible first | exact HB.out | apply below_alloc | apply pw_below_drewN | apply below_drew1 | refine below_set ?_ (Aside0.out (by assumption))) | exact HB.out))) :
  Calls Tryd.prog 15 #[.agg #[.int .i64 a0_0, .int .i64 a0_1, .string a0_2, .string a0_3, .string a0_4, .string a0_5, .string a0_6, .string a0_7, .string a0_8, .string a0_9, .string a0_10, .string a0_11, .slice A0_12 l0_12.length c0_12]] w fun e w' => e = .returned (.string r) ∧ Below w.heap.size w w' := by
 have hu36 := Tryd.underlying36
 have hu34 := Tryd.underlying34
 have HR0_12 := Aside0.mk hr0_12
 have HC0_12 := Aside0.mk hc0_12
 clear hr0_12 hc0_12
 have HB := Aside0.mk (Below.refl w.heap.size w)
 have H : ((strconv_Itoa_22.f a0_0).bind fun t103 => ((strconv_Itoa_22.f a0_1).bind fun t104 => ((some (([a0_2, a0_3, a0_4, a0_5, a0_6, a0_7, a0_8, a0_9, a0_10, a0_11] : List ByteArray) : List ByteArray)).bind fun y109 => (if y109.length + l0_12.length < 8796093022208 then ((some (y109 ++ l0_12 : List ByteArray)).bind fun y112 => (script_line.l0 k (([t103, t104] : List ByteArray)) y112 (y112.length : Int) 0)) else (none))))) = some r := h
 clear h
 replace H := Option.bind_eq_some_iff.mp H
 obtain ⟨t103, A20, H⟩ := H
 replace H : ((strconv_Itoa_22.f a0_1).bind fun t104 => ((some (([a0_2, a0_3, a0_4, a0_5, a0_6, a0_7, a0_8, a0_9, a0_10, a0_11] : List ByteArray) : List ByteArray)).bind fun y109 => (if y109.length + l0_12.length < 8796093022208 then ((some (y109 ++ l0_12 : List ByteArray)).bind fun y112 => (script_line.l0 k (([t103, t104] : List ByteArray)) y112 (y112.length : Int) 0)) else (none)))) = some r := H
 have A2 := Aside0.mk A20
 clear A20
 replace H := Option.bind_eq_some_iff.mp H
 obtain ⟨t104, A30, H⟩ := H
 replace H : ((some (([a0_2, a0_3, a0_4, a0_5, a0_6, a0_7, a0_8, a0_9, a0_10, a0_11] : List ByteArray) : List ByteArray)).bind fun y109 => (if y109.length + l0_12.length < 8796093022208 then ((some (y109 ++ l0_12 : List ByteArray)).bind fun y112 => (script_line.l0 k (([t103, t104] : List ByteArray)) y112 (y112.length : Int) 0)) else (none))) = some r := H
 have A3 := Aside0.mk A30
 clear A30
 obtain ⟨y105, hy105⟩ : ∃ y_ : List ByteArray, y_ = (([t103, t104] : List ByteArray)) := ⟨_, rfl⟩
 replace H : ((some (([a0_2, a0_3, a0_4, a0_5, a0_6, a0_7, a0_8, a0_9, a0_10, a0_11] : List ByteArray) : List ByteArray)).bind fun y109 => (if y109.length + l0_12.length < 8796093022208 then ((some (y109 ++ l0_12 : List ByteArray)).bind fun y112 => (script_line.l0 k y105 y112 (y112.length : Int) 0)) else (none))) = some r := by first | (rw [hy105]; with_reducible exact H) | (have H2_ := (Option.bind_some _ _).symm.trans H; rw [hy105]; with_reducible exact H2_) | (have H2_ := (Option.bind_some _ _).symm.trans H; with_reducible exact H2_) | with_reducible exact H | (rw [hy105]; exact H) | exact H
 have Ny105 := Aside0.mk hy105
 clear hy105
 obtain ⟨y109, hy109⟩ : ∃ y_ : List ByteArray, y_ = (([a0_2, a0_3, a0_4, a0_5, a0_6, a0_7, a0_8, a0_9, a0_10, a0_11] : List ByteArray)) := ⟨_, rfl⟩
 replace H : (if y109.length + l0_12.length < 8796093022208 then ((some (y109 ++ l0_12 : List ByteArray)).bind fun y112 => (script_line.l0 k y105 y112 (y112.length : Int) 0)) else (none)) = some r := by first | (rw [hy109]; with_reducible exact H) | (have H2_ := (Option.bind_some _ _).symm.trans H; rw [hy109]; with_reducible exact H2_) | (have H2_ := (Option.bind_some _ _).symm.trans H; with_reducible exact H2_) | with_reducible exact H | (rw [hy109]; exact H) | exact H
 have Ny109 := Aside0.mk hy109
 clear hy109
 by_cases c4 : y109.length + l0_12.length < 8796093022208
 rotate_left
 ·rw [if_neg c4] at H; exact absurd H (by simp)
 rw [if_pos c4] at H
 have LMc4 := Aside0.mk c4
 clear c4
 obtain ⟨y112, hy112⟩ : ∃ y_ : List ByteArray, y_ = (y109 ++ l0_12) := ⟨_, rfl⟩
 replace H : (script_line.l0 k y105 y112 (y112.length : Int) 0) = some r := by first | (rw [hy112]; with_reducible exact H) | (have H2_ := (Option.bind_some _ _).symm.trans H; rw [hy112]; with_reducible exact H2_) | (have H2_ := (Option.bind_some _ _).symm.trans H; with_reducible exact H2_) | with_reducible exact H | (rw [hy112]; exact H) | exact H
 have Ny112 := Aside0.mk hy112
 clear hy112
 have H' := Aside0.mk H
 clear H
 go_enter Tryd.func15, Tryd.ntmps15
 try go_wp2_with (first | ((with_reducible refine gate_dst (N := 1) rfl ?_); refine box_event ?hg (N := 1) ?hd (cs := #[.int .i64 a0_0, .int .i64 a0_1, .string a0_2, .string a0_3, .string a0_4, .string a0_5, .string a0_6, .string a0_7, .string a0_8, .string a0_9, .string a0_10, .string a0_11, .slice A0_12 l0_12.length c0_12]) (t := 36) ?hr ?_; (case hd => rfl); (case hg => rfl); (case hr => first | (go_simp; done) | (go_simp; rfl)); intro gb102 hg w5 hbox hb; have n0_ := Aside0.mk (below_step (by repeat (first | (with_reducible first | exact HB.out | apply below_alloc | apply pw_below_drewN | apply below_drew1) | exact HB.out)) hb); have n1_ := Aside0.mk (hbox); have n2_ := Aside0.mk ((by rw [hg]; exact (below_size (by repeat (first | (with_reducible first | exact HB.out | apply below_alloc | apply pw_below_drewN | apply below_drew1) | exact HB.out))) : w.heap.size ≤ gb102)); have n3_ := Aside0.mk ((by rw [hg]; exact (below_size (by repeat (first | (with_reducible first | exact HB.out | apply below_alloc | apply pw_below_drewN | apply below_drew1) | exact HB.out))) : w.heap.size ≤ gb102)); clear HB; have HB := n0_; have BK102 := n1_; have GW102 := n2_; have GE102 := n3_; clear n0_ n1_ n2_ n3_; clear hb hbox hg))
 have n0_ := Aside0.mk (blk_drew BK102.out)
 have n1_ := Aside0.mk (below_drew1 HB.out)
 clear BK102; clear HB
 have BK102 := n0_
 have HB := n1_
 clear n0_ n1_
 refine start_ (n := 8) (S := fun w' => w'.cell? ⟨gb102, 0, none⟩ = some (.int .i64 a0_0) ∧ w'.cell? ⟨gb102, 1, none⟩ = some (.int .i64 a0_1) ∧ w'.cell? ⟨gb102, 2, none⟩ = some (.string a0_2) ∧ w'.cell? ⟨gb102, 3, none⟩ = some (.string a0_3) ∧ w'.cell? ⟨gb102, 4, none⟩ = some (.string a0_4) ∧ w'.cell? ⟨gb102, 5, none⟩ = some (.string a0_5) ∧ w'.cell? ⟨gb102, 6, none⟩ = some (.string a0_6) ∧ w'.cell? ⟨gb102, 7, none⟩ = some (.string a0_7) ∧ w'.cell? ⟨gb102, 8, none⟩ = some (.string a0_8) ∧ w'.cell? ⟨gb102, 9, none⟩ = some (.string a0_9) ∧ w'.cell? ⟨gb102, 10, none⟩ = some (.string a0_10) ∧ w'.cell? ⟨gb102, 11, none⟩ = some (.string a0_11) ∧ w'.cell? ⟨gb102, 12, none⟩ = some (.slice A0_12 l0_12.length c0_12)) (ds := []) #[false, false, false, false, false, false, false, false] (by kernel_rfl) rfl rfl ⟨(blk_cell BK102.out 0).trans rfl, (blk_cell BK102.out 1).trans rfl, (blk_cell BK102.out 2).trans rfl, (blk_cell BK102.out 3).trans rfl, (blk_cell BK102.out 4).trans rfl, (blk_cell BK102.out 5).trans rfl, (blk_cell BK102.out 6).trans rfl, (blk_cell BK102.out 7).trans rfl, (blk_cell BK102.out 8).trans rfl, (blk_cell BK102.out 9).trans rfl, (blk_cell BK102.out 10).trans rfl, (blk_cell BK102.out 11).trans rfl, (blk_cell BK102.out 12).trans rfl⟩ (fun hHeld => ?_); refine with_tabW script_line.tab1 script_line.bits1 (fun HT_ HW_ => ?_)
 generalize w5.drew = w6 at BK102 HB hHeld ⊢
 refine pure_ (i := 0) (N := some 7) (v := ?_) (a' := ?_) #[true, false, false, false, false, false, false, false] rfl rfl (any_of HT_.out (by kernel_rfl)) (fun _ _ _ h => h) (Or.inl ⟨by rfl, ?_⟩) ?_ ?_
 rotate_left
 ·intro w'
  go_simp
  with_reducible rfl
 rotate_left
 ·simp only [Act.put, List.setIfInBounds_toArray, List.set_cons_zero, List.set_cons_succ, i64_w, i32_w]
  rfl
 refine pure_ (i := 3) (N := some 10) (v := ?_) (a' := ?_) #[true, false, false, true, false, false, false, false] rfl rfl (any_of HT_.out (by kernel_rfl)) (fun _ _ _ h => h) (Or.inl ⟨by rfl, ?_⟩) ?_ ?_
 rotate_left
 ·intro w'
  go_simp
  with_reducible rfl
 rotate_left
 ·simp only [Act.put, List.setIfInBounds_toArray, List.set_cons_zero, List.set_cons_succ, i64_w, i32_w]
  rfl
 refine take_ (i := 1) (N := some 8) (v := ?_) (a' := ?_) #[true, true, false, true, false, false, false, false] rfl rfl (take_ofW HT_.out HW_.out (by kernel_rfl)) (fun _ _ _ h => h) (Or.inl ⟨by rfl, ?_⟩) hHeld ?_ ?_
 rotate_left
 ·rintro w' ⟨s0, s1, s2, s3, s4, s5, s6, s7, s8, s9, s10, s11, s12⟩
  go_simp
  with_reducible rfl
 rotate_left
 ·simp only [Act.put, List.setIfInBounds_toArray, List.set_cons_zero, List.set_cons_succ, i64_w, i32_w]
  rfl
 refine take_ (i := 4) (N := some 11) (v := ?_) (a' := ?_) #[true, true, false, true, true, false, false, false] rfl rfl (take_ofW HT_.out HW_.out (by kernel_rfl)) (fun _ _ _ h => h) (Or.inl ⟨by rfl, ?_⟩) hHeld ?_ ?_
 rotate_left
 ·rintro w' ⟨s0, s1, s2, s3, s4, s5, s6, s7, s8, s9, s10, s11, s12⟩
  go_simp
  with_reducible rfl
 rotate_left
 ·simp only [Act.put, List.setIfInBounds_toArray, List.set_cons_zero, List.set_cons_succ, i64_w, i32_w]
  rfl
 refine one_ (i := 2) (N := some 9) #[true, true, true, true, true, false, false, false] rfl rfl (one_of HT_.out (by kernel_rfl)) (by decide) (fun K hK => ?_)
 refine goes_ Tryd.func22 (by kernel_rfl) rfl #[.int .i64 a0_0] (by rfl) rfl rfl (by (try simp only [List.map_toArray, List.map_cons, List.map_nil]); first | done | rfl | (simp only [List.length_drop, List.length_take]; rfl)) ?_
 with_reducible refine (strconv_Itoa_22.calls a0_0 t103 _ A2.out (hG := GOK.below hG (by repeat (first | (with_reducible first | exact HB.out | apply below_alloc | apply pw_below_drewN | apply below_drew1 | refine below_set ?_ GE102.out | refine below_set ?_ GE108.out) | exact HB.out)))).mono ?_
 rintro e w7 ⟨rfl, hb⟩
 refine ⟨_, rfl, ?_⟩
 have n0_ := Aside0.mk (blk_belowB BK102.out (by (with_reducible repeat (first | refine blk_drewN ?_ _ | refine blk_drew ?_ | refine blk_alloc ?_ _)); exact BK102.out) hb)
 have n1_ := Aside0.mk (below_step (by repeat (first | (with_reducible first | exact HB.out | apply below_alloc | apply pw_below_drewN | apply below_drew1 | refine below_set ?_ GE102.out) | exact HB.out)) hb)
 clear BK102; clear HB
 have BK102 := n0_
 have HB := n1_
 clear n0_ n1_; (try clear hb); (try clear hb2); (try clear hk); (try clear hi)
 refine hK.out _ _ ⟨(blk_cell BK102.out 0).trans rfl, (blk_cell BK102.out 1).trans rfl, (blk_cell BK102.out 2).trans rfl, (blk_cell BK102.out 3).trans rfl, (blk_cell BK102.out 4).trans rfl, (blk_cell BK102.out 5).trans rfl, (blk_cell BK102.out 6).trans rfl, (blk_cell BK102.out 7).trans rfl, (blk_cell BK102.out 8).trans rfl, (blk_cell BK102.out 9).trans rfl, (blk_cell BK102.out 10).trans rfl, (blk_cell BK102.out 11).trans rfl, (blk_cell BK102.out 12).trans rfl⟩ (fun hHeld => ?_)
 clear hK K
 refine norm_ (a' := ?_) ?_ ?_
 rotate_left
 ·show Act.put _ (some 9) _ = _
  simp only [Act.put, List.setIfInBounds_toArray, List.set_cons_zero, List.set_cons_succ, i64_w, i32_w]
  rfl
 refine one_ (i := 5) (N := some 12) #[true, true, true, true, true, true, false, false] rfl rfl (one_of HT_.out (by kernel_rfl)) (by decide) (fun K hK => ?_)
 refine goes_ Tryd.func22 (by kernel_rfl) rfl #[.int .i64 a0_1] (by rfl) rfl rfl (by (try simp only [List.map_toArray, List.map_cons, List.map_nil]); first | done | rfl | (simp only [List.length_drop, List.length_take]; rfl)) ?_
 with_reducible refine (strconv_Itoa_22.calls a0_1 t104 _ A3.out (hG := GOK.below hG (by repeat (first | (with_reducible first | exact HB.out | apply below_alloc | apply pw_below_drewN | apply below_drew1 | refine below_set ?_ GE102.out | refine below_set ?_ GE108.out) | exact HB.out)))).mono ?_
 rintro e w8 ⟨rfl, hb⟩
 refine ⟨_, rfl, ?_⟩
 have n0_ := Aside0.mk (blk_belowB BK102.out (by (with_reducible repeat (first | refine blk_drewN ?_ _ | refine blk_drew ?_ | refine blk_alloc ?_ _)); exact BK102.out) hb)
 have n1_ := Aside0.mk (below_step (by repeat (first | (with_reducible first | exact HB.out | apply below_alloc | apply pw_below_drewN | apply below_drew1 | refine below_set ?_ GE102.out) | exact HB.out)) hb)
 clear BK102; clear HB
 have BK102 := n0_
 have HB := n1_
 clear n0_ n1_; (try clear hb); (try clear hb2); (try clear hk); (try clear hi)
 refine hK.out _ _ ⟨(blk_cell BK102.out 0).trans rfl, (blk_cell BK102.out 1).trans rfl, (blk_cell BK102.out 2).trans rfl, (blk_cell BK102.out 3).trans rfl, (blk_cell BK102.out 4).trans rfl, (blk_cell BK102.out 5).trans rfl, (blk_cell BK102.out 6).trans rfl, (blk_cell BK102.out 7).trans rfl, (blk_cell BK102.out 8).trans rfl, (blk_cell BK102.out 9).trans rfl, (blk_cell BK102.out 10).trans rfl, (blk_cell BK102.out 11).trans rfl, (blk_cell BK102.out 12).trans rfl⟩ (fun hHeld => ?_)
 clear hK K
 refine norm_ (a' := ?_) ?_ ?_
 rotate_left
 ·show Act.put _ (some 12) _ = _
  simp only [Act.put, List.setIfInBounds_toArray, List.set_cons_zero, List.set_cons_succ, i64_w, i32_w]
  rfl
 refine one_ (i := 6) (N := some 13) #[true, true, true, true, true, true, true, false] rfl rfl (one_of HT_.out (by kernel_rfl)) (by decide) (fun K hK => ?_)
 refine Kd.R_lit_step Kd.string _ 9 ?hg (N := 13) ?hd (xs := ([t103, t104] : List ByteArray)) (inner := [.string t103, .string t104]) (ok := fun _ => True) (okp := fun _ => True) ?hr ?hp (fun _ hk => hk) trivial (Below.refl _ _) (Nat.le_refl _) (by simp) ?_; (case hd => rfl); (case hg => rfl); (case hr => first | (go_simp; done) | (go_simp; rfl)); (case hp => exact (Reps.one (show Kd.M Kd.string _ _ _ t103 [.string t103] from rfl) (Reps.one (show Kd.M Kd.string _ _ _ t104 [.string t104] from rfl) (Reps.none _ _))))
 intro v106 w9 ho10 hb hg_ hnew_
 clear hg_ hnew_
 (first | rw [← Ny105.out] at ho10 | (simp only [Int.reduceToNat] at ho10; rw [← Ny105.out] at ho10))
 have n0_ := Aside0.mk (Kd.R_lower ho10 (below_size (by repeat (first | (with_reducible first | exact HB.out | apply below_alloc | apply pw_below_drewN | apply below_drew1 | refine below_set ?_ GE102.out) | exact HB.out))))
 have n1_ := Aside0.mk (blk_belowB BK102.out (by (with_reducible repeat (first | refine blk_drewN ?_ _ | refine blk_drew ?_ | refine blk_alloc ?_ _)); exact BK102.out) hb)
 have n2_ := Aside0.mk (below_step (by repeat (first | (with_reducible first | exact HB.out | apply below_alloc | apply pw_below_drewN | apply below_drew1 | refine below_set ?_ GE102.out) | exact HB.out)) hb)
 clear BK102; clear HB
 have HO107 := n0_
 have BK102 := n1_
 have HB := n2_
 clear n0_ n1_ n2_; clear hb ho10
 refine hK.out _ _ ⟨(blk_cell BK102.out 0).trans rfl, (blk_cell BK102.out 1).trans rfl, (blk_cell BK102.out 2).trans rfl, (blk_cell BK102.out 3).trans rfl, (blk_cell BK102.out 4).trans rfl, (blk_cell BK102.out 5).trans rfl, (blk_cell BK102.out 6).trans rfl, (blk_cell BK102.out 7).trans rfl, (blk_cell BK102.out 8).trans rfl, (blk_cell BK102.out 9).trans rfl, (blk_cell BK102.out 10).trans rfl, (blk_cell BK102.out 11).trans rfl, (blk_cell BK102.out 12).trans rfl⟩ (fun hHeld => ?_)
 clear hK K
 refine norm_ (a' := ?_) ?_ ?_
 rotate_left
 ·show Act.put _ (some 13) _ = _
  simp only [Act.put, List.setIfInBounds_toArray, List.set_cons_zero, List.set_cons_succ, i64_w, i32_w]
  rfl
 refine pure_ (i := 7) (N := some 3) (v := ?_) (a' := ?_) #[true, true, true, true, true, true, true, true] rfl rfl (any_of HT_.out (by kernel_rfl)) (fun _ _ _ h => h) (Or.inl ⟨by rfl, ?_⟩) ?_ ?_
 rotate_left
 ·intro w'
  go_simp
  with_reducible rfl
 rotate_left
 ·simp only [Act.put, List.setIfInBounds_toArray, List.set_cons_zero, List.set_cons_succ, i64_w, i32_w]
  rfl
 refine done_ (done_of HT_.out (by kernel_rfl)) ?_
 obtain ⟨hcz11_0, hcz11_1, hcz11_2, hcz11_3, hcz11_4, hcz11_5, hcz11_6, hcz11_7, hcz11_8, hcz11_9, hcz11_10, hcz11_11, hcz11_12⟩ := cells13 BK102.out
 obtain ⟨hfz11_0, hfz11_1, hfz11_2, hfz11_3, hfz11_4, hfz11_5, hfz11_6, hfz11_7, hfz11_8, hfz11_9, hfz11_10, hfz11_11, hfz11_12⟩ := froz13 BK102.out
 try go_wp2_with (first | ((with_reducible refine gate_dst (N := 4) rfl ?_); refine box_event ?hg (N := 4) ?hd (cs := #[.string (⟨#[]⟩ : ByteArray), .string (⟨#[]⟩ : ByteArray), .string (⟨#[]⟩ : ByteArray), .string (⟨#[]⟩ : ByteArray), .string (⟨#[]⟩ : ByteArray), .string (⟨#[]⟩ : ByteArray)]) (t := 34) ?hr ?_; (case hd => rfl); (case hg => rfl); (case hr => first | (go_simp; done) | (go_simp; rfl)); intro gb108 hg w12 hbox hb; have n0_ := Aside0.mk (Kd.R_below (by (with_reducible repeat (first | apply Kd.R_alloc | apply Kd.R_drewN | apply Kd.R_drew)); exact HO107.out) hb); have n1_ := Aside0.mk (blk_belowB BK102.out (by (with_reducible repeat (first | refine blk_drewN ?_ _ | refine blk_drew ?_ | refine blk_alloc ?_ _)); exact BK102.out) hb); have n2_ := Aside0.mk (below_step (by repeat (first | (with_reducible first | exact HB.out | apply below_alloc | apply pw_below_drewN | apply below_drew1 | refine below_set ?_ GE102.out) | exact HB.out)) hb); have n3_ := Aside0.mk (hbox); have n4_ := Aside0.mk ((by rw [hg]; exact (below_size (by repeat (first | (with_reducible first | exact HB.out | apply below_alloc | apply pw_below_drewN | apply below_drew1 | refine below_set ?_ GE102.out) | exact HB.out))) : w.heap.size ≤ gb108)); have n5_ := Aside0.mk ((by rw [hg]; exact (below_size (by repeat (first | (with_reducible first | exact HB.out | apply below_alloc | apply pw_below_drewN | apply below_drew1 | refine below_set ?_ GE102.out) | exact HB.out))) : w.heap.size ≤ gb108)); have n6_ := Aside0.mk ((by rw [hg]; exact Nat.ne_of_lt (blk_lt (g := gb102) (o := .cells #[.int .i64 a0_0, .int .i64 a0_1, .string a0_2, .string a0_3, .string a0_4, .string a0_5, .string a0_6, .string a0_7, .string a0_8, .string a0_9, .string a0_10, .string a0_11, .slice A0_12 l0_12.length c0_12] 36 (0, 0)) (by (with_reducible repeat (first | refine blk_drewN ?_ _ | refine blk_drew ?_ | refine blk_alloc ?_ _)); exact BK102.out)) : gb102 ≠ gb108)); have n7_ := Aside0.mk ((by rw [hg]; exact Nat.ne_of_gt (blk_lt (g := gb102) (o := .cells #[.int .i64 a0_0, .int .i64 a0_1, .string a0_2, .string a0_3, .string a0_4, .string a0_5, .string a0_6, .string a0_7, .string a0_8, .string a0_9, .string a0_10, .string a0_11, .slice A0_12 l0_12.length c0_12] 36 (0, 0)) (by (with_reducible repeat (first | refine blk_drewN ?_ _ | refine blk_drew ?_ | refine blk_alloc ?_ _)); exact BK102.out)) : gb108 ≠ gb102)); clear HO107; clear BK102; clear HB; have HO107 := n0_; have BK102 := n1_; have HB := n2_; have BK108 := n3_; have GW108 := n4_; have GE108 := n5_; have NB102_108 := n6_; have NB108_102 := n7_; clear n0_ n1_ n2_ n3_ n4_ n5_ n6_ n7_; clear hb hbox hg; have hnb13 := NB108_102.out; have hnc13 := NB102_108.out; obtain ⟨hcz14_0, hcz14_1, hcz14_2, hcz14_3, hcz14_4, hcz14_5⟩ := cells6 BK108.out; obtain ⟨hfz14_0, hfz14_1, hfz14_2, hfz14_3, hfz14_4, hfz14_5⟩ := froz6 BK108.out; obtain ⟨hcz15_0, hcz15_1, hcz15_2, hcz15_3, hcz15_4, hcz15_5, hcz15_6, hcz15_7, hcz15_8, hcz15_9, hcz15_10, hcz15_11, hcz15_12⟩ := cells13 BK102.out; obtain ⟨hfz15_0, hfz15_1, hfz15_2, hfz15_3, hfz15_4, hfz15_5, hfz15_6, hfz15_7, hfz15_8, hfz15_9, hfz15_10, hfz15_11, hfz15_12⟩ := froz13 BK102.out) | ((with_reducible refine gate_dst (N := 36) rfl ?_); refine Kd.R_lit Kd.string _ 9 ?hg (N := 36) ?hd (xs := ([a0_2, a0_3, a0_4, a0_5, a0_6, a0_7, a0_8, a0_9, a0_10, a0_11] : List ByteArray)) (inner := [.string a0_2, .string a0_3, .string a0_4, .string a0_5, .string a0_6, .string a0_7, .string a0_8, .string a0_9, .string a0_10, .string a0_11]) (ok := fun _ => True) (okp := fun _ => True) ?hr ?hp (fun _ hk => hk) trivial (Below.refl _ _) (Nat.le_refl _) (by simp) ?_; (case hd => rfl); (case hg => rfl); (case hr => first | (go_simp; done) | (go_simp; rfl)); (case hp => exact (Reps.one (show Kd.M Kd.string _ _ _ a0_2 [.string a0_2] from rfl) (Reps.one (show Kd.M Kd.string _ _ _ a0_3 [.string a0_3] from rfl) (Reps.one (show Kd.M Kd.string _ _ _ a0_4 [.string a0_4] from rfl) (Reps.one (show Kd.M Kd.string _ _ _ a0_5 [.string a0_5] from rfl) (Reps.one (show Kd.M Kd.string _ _ _ a0_6 [.string a0_6] from rfl) (Reps.one (show Kd.M Kd.string _ _ _ a0_7 [.string a0_7] from rfl) (Reps.one (show Kd.M Kd.string _ _ _ a0_8 [.string a0_8] from rfl) (Reps.one (show Kd.M Kd.string _ _ _ a0_9 [.string a0_9] from rfl) (Reps.one (show Kd.M Kd.string _ _ _ a0_10 [.string a0_10] from rfl) (Reps.one (show Kd.M Kd.string _ _ _ a0_11 [.string a0_11] from rfl) (Reps.none _ _)))))))))))); intro v110 w16 ho17 hb hg_ hnew_; clear hg_ hnew_; (first | rw [← Ny109.out] at ho17 | (simp only [Int.reduceToNat] at ho17; rw [← Ny109.out] at ho17)); have n0_ := Aside0.mk (Kd.R_elder' (by (with_reducible repeat (first | apply Kd.R_alloc | apply Kd.R_drewN | apply Kd.R_drew)); exact (Kd.R_mono (Kd.R_far (p := ⟨gb108, 5, none⟩) (Kd.R_far (p := ⟨gb108, 4, none⟩) (Kd.R_far (p := ⟨gb108, 3, none⟩) (Kd.R_far (p := ⟨gb108, 2, none⟩) (Kd.R_far (p := ⟨gb108, 1, none⟩) (Kd.R_far (p := ⟨gb108, 0, none⟩) (Kd.R_types HO107.out BK108.out (by decide)) (fun _ hk => hk.2) (.string a0_2)) (fun _ hk => hk.2) (.string a0_3)) (fun _ hk => hk.2) (.string a0_4)) (fun _ hk => hk.2) (.string a0_5)) (fun _ hk => hk.2) (.string a0_6)) (fun _ hk => hk.2) (.string a0_7)) (fun _ h_ => h_.1))) (Kd.R_base ho17) hb); have n1_ := Aside0.mk (Kd.R_lower (Kd.R_new' ho17 (Kd.R_lt (by (with_reducible repeat (first | apply Kd.R_alloc | apply Kd.R_drewN | apply Kd.R_drew)); exact (Kd.R_mono (Kd.R_far (p := ⟨gb108, 5, none⟩) (Kd.R_far (p := ⟨gb108, 4, none⟩) (Kd.R_far (p := ⟨gb108, 3, none⟩) (Kd.R_far (p := ⟨gb108, 2, none⟩) (Kd.R_far (p := ⟨gb108, 1, none⟩) (Kd.R_far (p := ⟨gb108, 0, none⟩) (Kd.R_types HO107.out BK108.out (by decide)) (fun _ hk => hk.2) (.string a0_2)) (fun _ hk => hk.2) (.string a0_3)) (fun _ hk => hk.2) (.string a0_4)) (fun _ hk => hk.2) (.string a0_5)) (fun _ hk => hk.2) (.string a0_6)) (fun _ hk => hk.2) (.string a0_7)) (fun _ h_ => h_.1))))) (below_size (by repeat (first | (with_reducible first | exact HB.out | apply below_alloc | apply pw_below_drewN | apply below_drew1 | refine below_set ?_ GE102.out | refine below_set ?_ GE108.out) | exact HB.out)))); have n2_ := Aside0.mk (blk_belowB BK102.out (by (with_reducible repeat (first | refine blk_drewN ?_ _ | refine blk_drew ?_ | refine blk_alloc ?_ _)); refine blk_far (blk_far (blk_far (blk_far (blk_far (blk_far ?_ NB102_108.out _) NB102_108.out _) NB102_108.out _) NB102_108.out _) NB102_108.out _) NB102_108.out _; (with_reducible repeat (first | refine blk_drewN ?_ _ | refine blk_drew ?_ | refine blk_alloc ?_ _)); exact BK102.out) hb); have n3_ := Aside0.mk (blk_below (g := gb108) (o := .cells #[.string a0_2, .string a0_3, .string a0_4, .string a0_5, .string a0_6, .string a0_7] 34 (0, 0)) (by (with_reducible repeat (first | refine blk_drewN ?_ _ | refine blk_drew ?_ | refine blk_alloc ?_ _)); refine fillR (cs := ?cs_) rfl rfl ?h_ ?l_; (case h_ => (with_reducible repeat (first | refine blk_drewN ?_ _ | refine blk_drew ?_ | refine blk_alloc ?_ _)); exact BK108.out); (case l_ => rfl)) hb); have n4_ := Aside0.mk (below_step (by repeat (first | (with_reducible first | exact HB.out | apply below_alloc | apply pw_below_drewN | apply below_drew1 | refine below_set ?_ GE102.out | refine below_set ?_ GE108.out) | exact HB.out)) hb); clear HO107; clear BK102; clear BK108; clear HB; have HO107 := n0_; have HO111 := n1_; have BK102 := n2_; have BK108 := n3_; have HB := n4_; clear n0_ n1_ n2_ n3_ n4_; clear hb ho17; obtain ⟨hcz18_0, hcz18_1, hcz18_2, hcz18_3, hcz18_4, hcz18_5, hcz18_6, hcz18_7, hcz18_8, hcz18_9, hcz18_10, hcz18_11, hcz18_12⟩ := cells13 BK102.out; obtain ⟨hfz18_0, hfz18_1, hfz18_2, hfz18_3, hfz18_4, hfz18_5, hfz18_6, hfz18_7, hfz18_8, hfz18_9, hfz18_10, hfz18_11, hfz18_12⟩ := froz13 BK102.out) | ((with_reducible refine gate_builtin (b := .append) (xs := #[.tmp 36, .tmp 38]) rfl ?_); at_builtin; refine Kd.R_append_rows Kd.string (w0 := w) w.heap.size rfl (.tmp 36) (.tmp 38) 31 9 (.string ⟨#[]⟩) 16 rfl Tryd.underlying31 info9 rfl (by decide) (by omega) v110 y109 l0_12 _ _ _ (fun k_ => some k_ ≠ (v106 : Value).ownBlock) (fun _ => False) rfl rfl ?aO ?aR (fun _ _ h => h) (fun _ h => h.elim) ?aF ?aB ?aS ?aL ?_; (case aR => repeat (first | exact (Kd.C_below HR0_12.out HB.out) | (with_reducible refine Kd.C_alloc ?_ _) | (with_reducible refine Kd.C_drewN ?_ _) | (with_reducible refine Kd.C_drew ?_))); (case aB => exact (by repeat (first | (with_reducible first | exact HB.out | apply below_alloc | apply pw_below_drewN | apply below_drew1 | refine below_set ?_ GE102.out | refine below_set ?_ GE108.out) | exact HB.out))); (case aF => exact (fun k_ hk => Kd.fresh' (Kd.R_lt (by (with_reducible repeat (first | apply Kd.R_alloc | apply Kd.R_drewN | apply Kd.R_drew)); exact HO107.out)) k_ hk)); (case aO => exact (by (with_reducible repeat (first | apply Kd.R_alloc | apply Kd.R_drewN | apply Kd.R_drew)); exact Kd.R_mono HO111.out (fun _ hk => hk.2))); (case aS => exact (below_size (by repeat (first | (with_reducible first | exact HB.out | apply below_alloc | apply pw_below_drewN | apply below_drew1 | refine below_set ?_ GE102.out | refine below_set ?_ GE108.out) | exact HB.out)))); (case aL => have := LMc4.out; omega); intro v113 w19 ho hb hg hat; rw [← Ny112.out] at ho; have n0_ := Aside0.mk (blk_grown (g := gb102) (o := .cells #[.int .i64 a0_0, .int .i64 a0_1, .string a0_2, .string a0_3, .string a0_4, .string a0_5, .string a0_6, .string a0_7, .string a0_8, .string a0_9, .string a0_10, .string a0_11, .slice A0_12 l0_12.length c0_12] 36 (0, 0)) (by (with_reducible repeat (first | refine blk_drewN ?_ _ | refine blk_drew ?_ | refine blk_alloc ?_ _)); exact BK102.out) hg (Kd.R_ne HO111.out BK102.out (by decide))); have n1_ := Aside0.mk (Kd.R_after (ok := (fun _ => True)) (by (with_reducible repeat (first | apply Kd.R_alloc | apply Kd.R_drewN | apply Kd.R_drew)); exact HO107.out) hg hat); have n2_ := Aside0.mk (blk_grown (g := gb108) (o := .cells #[.string a0_2, .string a0_3, .string a0_4, .string a0_5, .string a0_6, .string a0_7] 34 (0, 0)) (by (with_reducible repeat (first | refine blk_drewN ?_ _ | refine blk_drew ?_ | refine blk_alloc ?_ _)); exact BK108.out) hg (Kd.R_ne HO111.out BK108.out (by decide))); have n3_ := Aside0.mk (hb); have n4_ := Aside0.mk (ho); clear BK102; clear HO107; clear BK108; clear HB; clear HO111; have BK102 := n0_; have HO107 := n1_; have BK108 := n2_; have HB := n3_; have HO114 := n4_; clear n0_ n1_ n2_ n3_ n4_; clear ho hb hg hat; obtain ⟨Ao20, co20, eo20⟩ := Kd.R_slice HO114.out; subst eo20))
 go_loopg [3, 41] k (fun kq v3 v41 w' => ∃ (x3_1 : List ByteArray) (x41_1 : Int), v41 = .int .i64 x41_1 ∧ Aside0 (script_line.l0 kq x3_1 y112 (y112.length : Int) x41_1 = some r) ∧ Aside0 (kq ≤ k) ∧ Aside0 (Kd.R Kd.string 9 w' w.heap.size (fun k_ => some k_ ≠ ((.slice Ao20 y112.length co20) : Value).ownBlock) v3 x3_1) ∧ Aside0 (Kd.R Kd.string 9 w' w.heap.size (fun k_ => some k_ ≠ (v3 : Value).ownBlock) (.slice Ao20 y112.length co20) y112) ∧ Aside0 (w'.heap[gb102]? = some (.cells #[.int .i64 a0_0, .int .i64 a0_1, .string a0_2, .string a0_3, .string a0_4, .string a0_5, .string a0_6, .string a0_7, .string a0_8, .string a0_9, .string a0_10, .string a0_11, (.slice A0_12 l0_12.length c0_12)] 36 (0, 0))) ∧ Aside0 (w'.heap[gb108]? = some (.cells #[.string a0_2, .string a0_3, .string a0_4, .string a0_5, .string a0_6, .string a0_7] 34 (0, 0))) ∧ Aside0 (Below w.heap.size w w'))
 case atStart => exact ⟨(y105), (0), (by first | rfl | (simp; done) | (simp [*]; done) | (refine congrArg Value.bool ?_; rw [Bool.eq_iff_iff]; simp; done)), H', ⟨Nat.le_refl _⟩, ⟨by (with_reducible repeat (first | apply Kd.R_alloc | apply Kd.R_drewN | apply Kd.R_drew)); exact Kd.R_mono HO107.out (fun _ hk => hk.2)⟩, ⟨by (with_reducible repeat (first | apply Kd.R_alloc | apply Kd.R_drewN | apply Kd.R_drew)); exact HO114.out⟩, ⟨by (with_reducible repeat (first | refine blk_drewN ?_ _ | refine blk_drew ?_ | refine blk_alloc ?_ _)); exact BK102.out⟩, ⟨by (with_reducible repeat (first | refine blk_drewN ?_ _ | refine blk_drew ?_ | refine blk_alloc ?_ _)); exact BK108.out⟩, ⟨by repeat (first | (with_reducible first | exact HB.out | apply below_alloc | apply pw_below_drewN | apply below_drew1 | refine below_set ?_ GE102.out | refine below_set ?_ GE108.out) | exact HB.out)⟩⟩
 case round =>
  clear H'
  try clear c1; try clear c2; try clear p2; try clear c4; try clear c13; try clear c15; try clear hcz11_0; try clear hcz11_1; try clear hcz11_10; try clear hcz11_11; try clear hcz11_12; try clear hcz11_2; try clear hcz11_3; try clear hcz11_4; try clear hcz11_5; try clear hcz11_6; try clear hcz11_7; try clear hcz11_8; try clear hcz11_9; try clear hcz14_0; try clear hcz14_1; try clear hcz14_2; try clear hcz14_3; try clear hcz14_4; try clear hcz14_5; try clear hcz15_0; try clear hcz15_1; try clear hcz15_10; try clear hcz15_11; try clear hcz15_12; try clear hcz15_2; try clear hcz15_3; try clear hcz15_4; try clear hcz15_5; try clear hcz15_6; try clear hcz15_7; try clear hcz15_8; try clear hcz15_9; try clear hcz18_0; try clear hcz18_1; try clear hcz18_10; try clear hcz18_11; try clear hcz18_12; try clear hcz18_2; try clear hcz18_3; try clear hcz18_4; try clear hcz18_5; try clear hcz18_6; try clear hcz18_7; try clear hcz18_8; try clear hcz18_9; try clear hfz11_0; try clear hfz11_1; try clear hfz11_10; try clear hfz11_11; try clear hfz11_12; try clear hfz11_2; try clear hfz11_3; try clear hfz11_4; try clear hfz11_5; try clear hfz11_6; try clear hfz11_7; try clear hfz11_8; try clear hfz11_9; try clear hfz14_0; try clear hfz14_1; try clear hfz14_2; try clear hfz14_3; try clear hfz14_4; try clear hfz14_5; try clear hfz15_0; try clear hfz15_1; try clear hfz15_10; try clear hfz15_11; try clear hfz15_12; try clear hfz15_2; try clear hfz15_3; try clear hfz15_4; try clear hfz15_5; try clear hfz15_6; try clear hfz15_7; try clear hfz15_8; try clear hfz15_9; try clear hfz18_0; try clear hfz18_1; try clear hfz18_10; try clear hfz18_11; try clear hfz18_12; try clear hfz18_2; try clear hfz18_3; try clear hfz18_4; try clear hfz18_5; try clear hfz18_6; try clear hfz18_7; try clear hfz18_8; try clear hfz18_9
  obtain ⟨x3_1, x41_1, rfl, HA, HK1, HO_3, HO_39, BK102, BK108, HB⟩ := hrel
  cases gk with
  | zero => exact absurd HA.out (by simp [script_line.l0])
  | succ k1 =>
   have H := HA.out
   clear HA
   simp only [script_line.l0] at H
   by_cases c21 : x41_1 < (y112.length : Int)
   ·rw [if_pos c21] at H
    have c21b0 : decide (x41_1 < (y112.length : Int)) = true := decide_eq_true c21
    clear c21
    by_cases c22 : 0 ≤ x41_1
    rotate_left
    ·rw [if_neg c22] at H; exact absurd H (by simp)
    rw [if_pos c22] at H
    have c22b0 : decide (0 ≤ x41_1) = true := decide_eq_true c22
    clear c22
    by_cases c23 : x41_1 < (y112.length : Int)
    rotate_left
    ·rw [if_neg c23] at H; exact absurd H (by simp)
    rw [if_pos c23] at H
    have c23b0 : decide (x41_1 < (y112.length : Int)) = true := decide_eq_true c23
    clear c23
    replace H := Option.bind_eq_some_iff.mp H
    obtain ⟨t116, A240, H⟩ := H
    replace H : (if x3_1.length < 8796093022208 then (script_line.l0 k1 (x3_1 ++ [t116]) y112 (y112.length : Int) (wrap64 (x41_1 + 1))) else (none)) = some r := H
    have A24 := Aside0.mk A240
    clear A240
    by_cases c25 : x3_1.length < 8796093022208
    rotate_left
    ·rw [if_neg c25] at H; exact absurd H (by simp)
    rw [if_pos c25] at H
    have LMc25 := Aside0.mk c25
    clear c25
    obtain ⟨y117, hy117⟩ : ∃ y_ : List ByteArray, y_ = (x3_1 ++ [t116]) := ⟨_, rfl⟩
    replace H : (script_line.l0 k1 y117 y112 (y112.length : Int) (wrap64 (x41_1 + 1))) = some r := by first | (rw [hy117]; with_reducible exact H) | (have H2_ := (Option.bind_some _ _).symm.trans H; rw [hy117]; with_reducible exact H2_) | (have H2_ := (Option.bind_some _ _).symm.trans H; with_reducible exact H2_) | with_reducible exact H | (rw [hy117]; exact H) | exact H
    have Ny117 := Aside0.mk hy117
    clear hy117
    have H' := Aside0.mk H
    clear H
    have p115 : 0 ≤ (x41_1 : Int) := of_decide_eq_true (by first | (with_reducible assumption) | assumption)
    have q115 : x41_1 < (y112.length : Int) := of_decide_eq_true (by first | (with_reducible assumption) | assumption)
    obtain ⟨ad115, e115, hx115_0⟩ := Kd.at_string (Kd.R_reads' HO_39.out).2.2 x41_1 p115 q115
    cases e115
    replace p115 := eq_true p115
    replace q115 := eq_true q115
    go_wp2_with (first | ((with_reducible refine gate_callee (f := 23) rfl ?_); refine goesL_ (some 47) rfl rfl Tryd.func23 (by kernel_rfl) rfl #[.string (rdOf ByteArray.empty y112 x41_1)] rfl (by (try simp only [List.map_toArray, List.map_cons, List.map_nil]); first | done | rfl | (simp only [List.length_drop, List.length_take]; rfl)) ?_; (with_reducible refine (script_word.calls (rdOf ByteArray.empty y112 x41_1) t116 _ A24.out).mono ?_); rintro e w26 ⟨rfl, hb⟩; refine ⟨_, rfl, ?_⟩; have n0_ := Aside0.mk (Kd.R_below (by (with_reducible repeat (first | apply Kd.R_alloc | apply Kd.R_drewN | apply Kd.R_drew)); exact HO_3.out) hb); have n1_ := Aside0.mk (Kd.R_below (by (with_reducible repeat (first | apply Kd.R_alloc | apply Kd.R_drewN | apply Kd.R_drew)); exact HO_39.out) hb); have n2_ := Aside0.mk (blk_belowB BK102.out (by (with_reducible repeat (first | refine blk_drewN ?_ _ | refine blk_drew ?_ | refine blk_alloc ?_ _)); exact BK102.out) hb); have n3_ := Aside0.mk (blk_belowB BK108.out (by (with_reducible repeat (first | refine blk_drewN ?_ _ | refine blk_drew ?_ | refine blk_alloc ?_ _)); exact BK108.out) hb); have n4_ := Aside0.mk (below_step (by repeat (first | (with_reducible first | exact HB.out | apply below_alloc | apply pw_below_drewN | apply below_drew1 | refine below_set ?_ GE102.out | refine below_set ?_ GE108.out) | exact HB.out)) hb); clear HO_3; clear HO_39; clear BK102; clear BK108; clear HB; have HO_3 := n0_; have HO_39 := n1_; have BK102 := n2_; have BK108 := n3_; have HB := n4_; clear n0_ n1_ n2_ n3_ n4_; (try clear hb); (try clear hb2); (try clear hk); (try clear hi)) | ((with_reducible refine gate_builtin (b := .append) (xs := #[.tmp 45, .tmp 48]) rfl ?_); at_builtin; refine Kd.R_append Kd.string (w0 := w) w.heap.size rfl (.tmp 45) (.tmp 48) 31 9 (.string ⟨#[]⟩) 16 rfl Tryd.underlying31 info9 rfl (by decide) (by omega) u3 x3_1 t116 [.string t116] (fun k_ => some k_ ≠ (.slice (some ad115) y112.length co20 : Value).ownBlock) (fun _ => False) rfl rfl ?aP (fun _ hk => hk.elim) ?aF ?aO ?aB ?aS ?aL ?_; (case aP => exact rfl); (case aB => exact (by repeat (first | (with_reducible first | exact HB.out | apply below_alloc | apply pw_below_drewN | apply below_drew1 | refine below_set ?_ GE102.out | refine below_set ?_ GE108.out) | exact HB.out))); (case aF => exact (fun k_ hk => Kd.fresh' (Kd.R_lt (by (with_reducible repeat (first | apply Kd.R_alloc | apply Kd.R_drewN | apply Kd.R_drew)); exact HO_39.out)) k_ hk)); (case aO => exact (by (with_reducible repeat (first | apply Kd.R_alloc | apply Kd.R_drewN | apply Kd.R_drew)); exact HO_3.out)); (case aS => exact (below_size (by repeat (first | (with_reducible first | exact HB.out | apply below_alloc | apply pw_below_drewN | apply below_drew1 | refine below_set ?_ GE102.out | refine below_set ?_ GE108.out) | exact HB.out)))); (case aL => have := LMc25.out; omega); intro v118 w27 ho hb hg hat; rw [← Ny117.out] at ho; have n0_ := Aside0.mk (Kd.R_after (ok := (fun _ => True)) (by (with_reducible repeat (first | apply Kd.R_alloc | apply Kd.R_drewN | apply Kd.R_drew)); exact Kd.R_mono HO_39.out (fun _ hk => ⟨trivial, hk⟩)) hg hat); have n1_ := Aside0.mk (blk_grown (g := gb102) (o := .cells #[.int .i64 a0_0, .int .i64 a0_1, .string a0_2, .string a0_3, .string a0_4, .string a0_5, .string a0_6, .string a0_7, .string a0_8, .string a0_9, .string a0_10, .string a0_11, .slice A0_12 l0_12.length c0_12] 36 (0, 0)) (by (with_reducible repeat (first | refine blk_drewN ?_ _ | refine blk_drew ?_ | refine blk_alloc ?_ _)); exact BK102.out) hg (Kd.R_ne HO_3.out BK102.out (by decide))); have n2_ := Aside0.mk (blk_grown (g := gb108) (o := .cells #[.string a0_2, .string a0_3, .string a0_4, .string a0_5, .string a0_6, .string a0_7] 34 (0, 0)) (by (with_reducible repeat (first | refine blk_drewN ?_ _ | refine blk_drew ?_ | refine blk_alloc ?_ _)); exact BK108.out) hg (Kd.R_ne HO_3.out BK108.out (by decide))); have n3_ := Aside0.mk (hb); have n4_ := Aside0.mk (ho); clear HO_39; clear BK102; clear BK108; clear HB; clear HO_3; have HO_39 := n0_; have BK102 := n1_; have BK108 := n2_; have HB := n3_; have HO119 := n4_; clear n0_ n1_ n2_ n3_ n4_; clear ho hb hg hat))
    go_roundg k1
    case measure => have := HK1.out; omega
    case rel => exact ⟨(y117), (wrap64 (x41_1 + 1)), (by first | rfl | (simp; done) | (simp [*]; done) | (refine congrArg Value.bool ?_; rw [Bool.eq_iff_iff]; simp; done)), H', ⟨by have := HK1.out; omega⟩, ⟨by (with_reducible repeat (first | apply Kd.R_alloc | apply Kd.R_drewN | apply Kd.R_drew)); exact HO119.out⟩, ⟨by (with_reducible repeat (first | apply Kd.R_alloc | apply Kd.R_drewN | apply Kd.R_drew)); exact Kd.R_mono HO_39.out (fun _ hk => hk.2)⟩, ⟨by (with_reducible repeat (first | refine blk_drewN ?_ _ | refine blk_drew ?_ | refine blk_alloc ?_ _)); exact BK102.out⟩, ⟨by (with_reducible repeat (first | refine blk_drewN ?_ _ | refine blk_drew ?_ | refine blk_alloc ?_ _)); exact BK108.out⟩, ⟨by repeat (first | (with_reducible first | exact HB.out | apply below_alloc | apply pw_below_drewN | apply below_drew1 | refine below_set ?_ GE102.out | refine below_set ?_ GE108.out) | exact HB.out)⟩⟩
   ·rw [if_neg c21] at H
    have c21b0 : decide (x41_1 < (y112.length : Int)) = false := decide_eq_false c21
    clear c21
    replace H := Option.bind_eq_some_iff.mp H
    obtain ⟨t120, A280, H⟩ := H
    replace H : (if t120.size + 1 ≤ 9223372036854775807 then (some (t120 ++ (⟨#[10]⟩ : ByteArray))) else (none)) = some r := H
    have A28 := Aside0.mk A280
    clear A280
    by_cases c29 : t120.size + 1 ≤ 9223372036854775807
    rotate_left
    ·rw [if_neg c29] at H; exact absurd H (by simp)
    rw [if_pos c29] at H
    have c29b0 := eq_true c29
    have c29b1 : decide (t120.size + 1 ≤ 9223372036854775807) = true := decide_eq_true c29
    try have c29b2 : (9223372036854775807 < t120.size + 1) = False := eq_false (Nat.not_lt.2 c29)
    try have c29b3 : (9223372036854775807 < t120.size + 1) = False := eq_false (Nat.not_lt.2 (by have h_ := c29; simp only [ByteArray.size_append] at h_; exact h_))
    obtain rfl := Option.some.inj H
    obtain ⟨Ao30, co30, eo30⟩ := Kd.R_slice HO_3.out
    subst eo30
    go_wp2_with (first | ((with_reducible refine gate_callee (f := 24) rfl ?_); refine goesL_ (some 52) rfl rfl Tryd.func24 (by kernel_rfl) rfl #[.slice Ao30 x3_1.length co30, .string (⟨#[32]⟩ : ByteArray)] rfl (by (try simp only [List.map_toArray, List.map_cons, List.map_nil]); first | done | rfl | (simp only [List.length_drop, List.length_take]; rfl)) ?_; (with_reducible refine (strings_Join.calls _ _ x3_1 (⟨#[32]⟩ : ByteArray) t120 _ ?side1 ?side2 A28.out).mono ?_); (case side1 => repeat (first | exact (Kd.R_reads' HO_3.out).2.2 | (with_reducible refine Kd.C_alloc ?_ _) | (with_reducible refine Kd.C_drewN ?_ _) | (with_reducible refine Kd.C_drew ?_))); (case side2 => exact (Kd.R_reads' HO_3.out).2.1); rintro e w31 ⟨rfl, hb⟩; refine ⟨_, rfl, ?_⟩; have n0_ := Aside0.mk (Kd.R_below (by (with_reducible repeat (first | apply Kd.R_alloc | apply Kd.R_drewN | apply Kd.R_drew)); exact HO_3.out) hb); have n1_ := Aside0.mk (Kd.R_below (by (with_reducible repeat (first | apply Kd.R_alloc | apply Kd.R_drewN | apply Kd.R_drew)); exact HO_39.out) hb); have n2_ := Aside0.mk (blk_belowB BK102.out (by (with_reducible repeat (first | refine blk_drewN ?_ _ | refine blk_drew ?_ | refine blk_alloc ?_ _)); exact BK102.out) hb); have n3_ := Aside0.mk (blk_belowB BK108.out (by (with_reducible repeat (first | refine blk_drewN ?_ _ | refine blk_drew ?_ | refine blk_alloc ?_ _)); exact BK108.out) hb); have n4_ := Aside0.mk (below_step (by repeat (first | (with_reducible first | exact HB.out | apply below_alloc | apply pw_below_drewN | apply below_drew1 | refine below_set ?_ GE102.out | refine below_set ?_ GE108.out) | exact HB.out)) hb); clear HO_3; clear HO_39; clear BK102; clear BK108; clear HB; have HO_3 := n0_; have HO_39 := n1_; have BK102 := n2_; have BK108 := n3_; have HB := n4_; clear n0_ n1_ n2_ n3_ n4_; (try clear hb); (try clear hb2); (try clear hk); (try clear hi)))
    go_ret
    first | (exact ⟨by first | rfl | (simp [errW_none, errW_some] <;> rfl) | (simp [*, errW_none, errW_some] <;> rfl), by repeat (first | (with_reducible first | exact HB.out | apply below_alloc | apply pw_below_drewN | apply below_drew1 | refine below_set ?_ GE102.out | refine below_set ?_ GE108.out) | exact HB.out)⟩) | (focus (exfalso; simp_all; done))
    all_goals (first | (exfalso; simp_all <;> omega) | (go_ret; exact ⟨by first | rfl | (simp [errW_none, errW_some] <;> rfl) | (simp [*, errW_none, errW_some] <;> rfl), by repeat (first | (with_reducible first | exact HB.out | apply below_alloc | apply pw_below_drewN | apply below_drew1 | refine below_set ?_ GE102.out | refine below_set ?_ GE108.out) | exact HB.out)⟩))

end Go.Proofs.YtjfajkdamechiaaDoor.X
