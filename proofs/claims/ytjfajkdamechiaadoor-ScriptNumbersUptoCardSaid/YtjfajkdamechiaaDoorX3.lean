-- Lean text made by xprint.py (ours) out of the seat's translation. Lean checks it.
import Derived.Test.YtjfajkdamechiaaDoorX0
import Derived.Test.YtjfajkdamechiaaDoorHB64
namespace Go.Proofs.YtjfajkdamechiaaDoor.X
open Go.RowKit Go.Proofs.YtjfajkdamechiaaDoorW.PrintWords Go.Proofs.YtjfajkdamechiaaDoorW.PrintLast Go.Proofs.YtjfajkdamechiaaDoorW.PrintMore
attribute [local go_sem] max2_int min2_int max_two min_two max_three min_three max_four min_four   -- for this text's walks alone
set_option linter.unusedVariables false
set_option linter.unusedSimpArgs false

/-! ### script_word: function 23 -/
def script_word.f (a0 : ByteArray) : Option (ByteArray) := (text_Encode.f a0).bind fun t101 => (if 1 + t101.size ≤ 9223372036854775807 then (some ((⟨#[120]⟩ : ByteArray) ++ t101)) else (none))
set_option maxHeartbeats 8000000 in
set_option maxRecDepth 100000 in
theorem script_word.calls (a0 : ByteArray) (r : ByteArray) (w : World) (h : script_word.f a0 = some r) :
  Calls Tryd.prog 23 #[.string a0] w fun e w' => e = .returned (.string r) ∧ Below w.heap.size w w' := by
 have HB := Aside0.mk (Below.refl w.heap.size w)
 have H : ((text_Encode.f a0).bind fun t101 => (if 1 + t101.size ≤ 9223372036854775807 then (some ((⟨#[120]⟩ : ByteArray) ++ t101)) else (none))) = some r := h
 clear h
 replace H := Option.bind_eq_some_iff.mp H
 obtain ⟨t101, A20, H⟩ := H
 replace H : (if 1 + t101.size ≤ 9223372036854775807 then (some ((⟨#[120]⟩ : ByteArray) ++ t101)) else (none)) = some r := H
 have A2 := Aside0.mk A20
 clear A20
 by_cases c3 : 1 + t101.size ≤ 9223372036854775807
 rotate_left
 ·rw [if_neg c3] at H; exact absurd H (by simp)
 rw [if_pos c3] at H
 have c3b0 := eq_true c3
 have c3b1 : decide (1 + t101.size ≤ 9223372036854775807) = true := decide_eq_true c3
 try have c3b2 : (9223372036854775807 < 1 + t101.size) = False := eq_false (Nat.not_lt.2 c3)
 try have c3b3 : (9223372036854775807 < 1 + t101.size) = False := eq_false (Nat.not_lt.2 (by have h_ := c3; simp only [ByteArray.size_append] at h_; exact h_))
 obtain rfl := Option.some.inj H
 go_enter Tryd.func23, Tryd.ntmps23
 go_wp2_with (first | ((with_reducible refine gate_callee (f := 34) rfl ?_); refine goesL_ (some 4) rfl rfl Tryd.func34 (by kernel_rfl) rfl #[.string a0] rfl (by (try simp only [List.map_toArray, List.map_cons, List.map_nil]); first | done | rfl | (simp only [List.length_drop, List.length_take]; rfl)) ?_; (with_reducible refine (text_Encode.calls a0 t101 _ A2.out).mono ?_); rintro e w4 ⟨rfl, hb⟩; refine ⟨_, rfl, ?_⟩; have n0_ := Aside0.mk (below_step (by repeat (first | (with_reducible first | exact HB.out | apply below_alloc | apply pw_below_drewN | apply below_drew1) | exact HB.out)) hb); clear HB; have HB := n0_; clear n0_; (try clear hb); (try clear hb2); (try clear hk); (try clear hi)))
 go_ret
 first | (exact ⟨by first | rfl | (simp [errW_none, errW_some] <;> rfl) | (simp [*, errW_none, errW_some] <;> rfl), by repeat (first | (with_reducible first | exact HB.out | apply below_alloc | apply pw_below_drewN | apply below_drew1) | exact HB.out)⟩) | (focus (exfalso; simp_all; done))
 all_goals (first | (exfalso; simp_all <;> omega) | (go_ret; exact ⟨by first | rfl | (simp [errW_none, errW_some] <;> rfl) | (simp [*, errW_none, errW_some] <;> rfl), by repeat (first | (with_reducible first | exact HB.out | apply below_alloc | apply pw_below_drewN | apply below_drew1) | exact HB.out)⟩))

-- NOT PRINTED: function 14 (strings_Builder_WriteString)

-- NOT PRINTED: function 62 (bytealg_MakeNoZero)

-- NOT PRINTED: function 44 (strings_Builder_grow)

-- NOT PRINTED: function 35 (strings_Builder_Grow)

end Go.Proofs.YtjfajkdamechiaaDoor.X
