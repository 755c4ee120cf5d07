-- Lean text made by xprint.py (ours) out of the seat's translation. Lean checks it.
import Derived.Test.YtkcgalpagpgfhaaDoorX0
import Derived.Test.YtkcgalpagpgfhaaDoorHLib
namespace Go.Proofs.YtkcgalpagpgfhaaDoor.X
open Go.RowKit Go.Proofs.YtkcgalpagpgfhaaDoorW.PrintWords Go.Proofs.YtkcgalpagpgfhaaDoorW.PrintLast Go.Proofs.YtkcgalpagpgfhaaDoorW.PrintMore
attribute [local go_sem] max2_int min2_int max_two min_two max_three min_three max_four min_four   -- for this text's walks alone
set_option linter.unusedVariables false
set_option linter.unusedSimpArgs false

/-! ### uri_clean: function 41 -/
def uri_clean.l0 : Nat → ByteArray → Int → Int → Option (Bool)
  | 0, _, _, _ => none
  | k + 1, x0, x5, x6 => if x6 < x5 then (if 0 ≤ x6 then (if x6 < (x0.size : Int) then (if (bt x0 x6) < 33 then (some false) else (if (bt x0 x6) > 126 then (some false) else ((strings_IndexByte.f (⟨#[34, 35, 60, 62, 92, 94, 96, 123, 124, 125]⟩ : ByteArray) (bt x0 x6)).bind fun t110 => (if t110 ≥ 0 then (some false) else (uri_clean.l0 k x0 x5 (wrap64 (x6 + 1))))))) else (none)) else (none)) else (some true)
def uri_clean.f (k : Nat) (a0 : ByteArray) : Option (Bool) := uri_clean.l0 k a0 (a0.size : Int) 0
theorem uri_clean.mono_l : ∀ k, (∀ y0 y1 y2, LeO (uri_clean.l0 k y0 y1 y2) (uri_clean.l0 (k + 1) y0 y1 y2))
  | 0 => fun _ _ _ r h => by simp [uri_clean.l0] at h
  | k + 1 => by
    have ih0 := uri_clean.mono_l k
    · intro y0 y1 y2
      unfold uri_clean.l0
      repeat' first
      | (with_reducible exact ih0 _ _ _)
      | (with_reducible exact LeO.refl _)
      | (with_reducible exact LeO.none _)
      | (with_reducible refine LeO.ite ?_ ?_)
      | (with_reducible refine LeO.bind ?_ (fun _ => ?_))
      | exact ih0 _ _ _
      | exact LeO.none _
      | refine LeO.ite ?_ ?_
      | refine LeO.bind ?_ (fun _ => ?_)
theorem uri_clean.mono : ∀ a0 k, LeO (uri_clean.f k a0) (uri_clean.f (k + 1) a0) := by
  intro a0 k
  have ih0 := uri_clean.mono_l k
  unfold uri_clean.f
  repeat' first
      | (with_reducible exact ih0 _ _ _)
      | (with_reducible exact LeO.refl _)
      | (with_reducible exact LeO.none _)
      | (with_reducible refine LeO.ite ?_ ?_)
      | (with_reducible refine LeO.bind ?_ (fun _ => ?_))
      | exact ih0 _ _ _
      | exact LeO.none _
      | refine LeO.ite ?_ ?_
      | refine LeO.bind ?_ (fun _ => ?_)
set_option maxHeartbeats 8000000 in
set_option maxRecDepth 100000 in
theorem uri_clean.calls (k : Nat) (a0 : ByteArray) (r : Bool) (w : World) (h : uri_clean.f k a0 = some r) :
  Calls Tryd.prog 41 #[.string a0] w fun e w' => e = .returned (.bool r) ∧ Drawn0 w w' := by
 have H : (uri_clean.l0 k a0 (a0.size : Int) 0) = some r := h
 clear h
 have H' := Aside0.mk H
 clear H
 go_enter Tryd.func41, Tryd.ntmps41
 go_wp2
 go_loopg [6] k (fun kq v6 w' => ∃ (x6_1 : Int), v6 = .int .i64 x6_1 ∧ Aside0 (uri_clean.l0 kq a0 (a0.size : Int) x6_1 = some r) ∧ Aside0 (kq ≤ k) ∧ Drawn0 w w')
 case atStart => exact ⟨(0), (by first | rfl | (simp; done) | (simp [*]; done) | (refine congrArg Value.bool ?_; rw [Bool.eq_iff_iff]; simp; done)), H', ⟨Nat.le_refl _⟩, by repeat (first | exact Drawn0.refl _ | apply Drawn0.step)⟩
 case round =>
  clear H'
  obtain ⟨x6_1, rfl, HA, HK1, ⟨m1, rfl⟩⟩ := hrel
  cases gk with
  | zero => exact absurd HA.out (by simp [uri_clean.l0])
  | succ k1 =>
   have H := HA.out
   clear HA
   simp only [uri_clean.l0] at H
   by_cases c2 : x6_1 < (a0.size : Int)
   ·rw [if_pos c2] at H
    have c2b0 : decide (x6_1 < (a0.size : Int)) = true := decide_eq_true c2
    clear c2
    by_cases c3 : 0 ≤ x6_1
    rotate_left
    ·rw [if_neg c3] at H; exact absurd H (by simp)
    rw [if_pos c3] at H
    have c3b0 : decide (0 ≤ x6_1) = true := decide_eq_true c3
    clear c3
    by_cases c4 : x6_1 < (a0.size : Int)
    rotate_left
    ·rw [if_neg c4] at H; exact absurd H (by simp)
    rw [if_pos c4] at H
    have c4b0 : decide (x6_1 < (a0.size : Int)) = true := decide_eq_true c4
    clear c4
    by_cases c6 : (bt a0 x6_1) < 33
    ·rw [if_pos c6] at H
     have c6b0 : decide ((bt a0 x6_1) < 33) = true := decide_eq_true c6
     clear c6
     obtain rfl := Option.some.inj H
     have p5 : 0 ≤ (x6_1 : Int) := of_decide_eq_true (by first | (with_reducible assumption) | assumption)
     have q5 : x6_1 < (a0.size : Int) := of_decide_eq_true (by first | (with_reducible assumption) | assumption)
     have hx5 := bt_at a0 x6_1
     replace p5 := eq_true p5
     replace q5 := eq_true q5
     go_wp2
     go_ret
     exact ⟨by first | rfl | (simp; done) | (simp [*]; done) | (refine congrArg Value.bool ?_; rw [Bool.eq_iff_iff]; simp; done), by repeat (first | exact Drawn0.refl _ | apply Drawn0.step)⟩
    ·rw [if_neg c6] at H
     have c6b0 : decide ((bt a0 x6_1) < 33) = false := decide_eq_false c6
     clear c6
     by_cases c8 : (bt a0 x6_1) > 126
     ·rw [if_pos c8] at H
      have c8b0 : decide (126 < (bt a0 x6_1)) = true := decide_eq_true c8
      clear c8
      obtain rfl := Option.some.inj H
      have p5 : 0 ≤ (x6_1 : Int) := of_decide_eq_true (by first | (with_reducible assumption) | assumption)
      have q5 : x6_1 < (a0.size : Int) := of_decide_eq_true (by first | (with_reducible assumption) | assumption)
      have hx5 := bt_at a0 x6_1
      replace p5 := eq_true p5
      replace q5 := eq_true q5
      have p7 : 0 ≤ (x6_1 : Int) := of_decide_eq_true (by first | (with_reducible assumption) | assumption)
      have q7 : x6_1 < (a0.size : Int) := of_decide_eq_true (by first | (with_reducible assumption) | assumption)
      have hx7 := bt_at a0 x6_1
      replace p7 := eq_true p7
      replace q7 := eq_true q7
      go_wp2
      go_ret
      exact ⟨by first | rfl | (simp; done) | (simp [*]; done) | (refine congrArg Value.bool ?_; rw [Bool.eq_iff_iff]; simp; done), by repeat (first | exact Drawn0.refl _ | apply Drawn0.step)⟩
     ·rw [if_neg c8] at H
      have c8b0 : decide (126 < (bt a0 x6_1)) = false := decide_eq_false c8
      clear c8
      replace H := Option.bind_eq_some_iff.mp H
      obtain ⟨t110, A100, H⟩ := H
      replace H : (if t110 ≥ 0 then (some false) else (uri_clean.l0 k1 a0 (a0.size : Int) (wrap64 (x6_1 + 1)))) = some r := H
      have A10 := Aside0.mk A100
      clear A100
      by_cases c11 : t110 ≥ 0
      ·rw [if_pos c11] at H
       have c11b0 : decide (0 ≤ t110) = true := decide_eq_true c11
       clear c11
       obtain rfl := Option.some.inj H
       have p5 : 0 ≤ (x6_1 : Int) := of_decide_eq_true (by first | (with_reducible assumption) | assumption)
       have q5 : x6_1 < (a0.size : Int) := of_decide_eq_true (by first | (with_reducible assumption) | assumption)
       have hx5 := bt_at a0 x6_1
       replace p5 := eq_true p5
       replace q5 := eq_true q5
       have p7 : 0 ≤ (x6_1 : Int) := of_decide_eq_true (by first | (with_reducible assumption) | assumption)
       have q7 : x6_1 < (a0.size : Int) := of_decide_eq_true (by first | (with_reducible assumption) | assumption)
       have hx7 := bt_at a0 x6_1
       replace p7 := eq_true p7
       replace q7 := eq_true q7
       have p9 : 0 ≤ (x6_1 : Int) := of_decide_eq_true (by first | (with_reducible assumption) | assumption)
       have q9 : x6_1 < (a0.size : Int) := of_decide_eq_true (by first | (with_reducible assumption) | assumption)
       have hx9 := bt_at a0 x6_1
       replace p9 := eq_true p9
       replace q9 := eq_true q9
       go_wp2_with (first | (go_at_call 49; (with_reducible refine (strings_IndexByte.calls (⟨#[34, 35, 60, 62, 92, 94, 96, 123, 124, 125]⟩ : ByteArray) (bt a0 x6_1) t110 _ A10.out).mono ?_); rintro e w' ⟨rfl, ⟨nd, rfl⟩⟩))
       go_ret
       exact ⟨by first | rfl | (simp; done) | (simp [*]; done) | (refine congrArg Value.bool ?_; rw [Bool.eq_iff_iff]; simp; done), by repeat (first | exact Drawn0.refl _ | apply Drawn0.step)⟩
      ·rw [if_neg c11] at H
       have c11b0 : decide (0 ≤ t110) = false := decide_eq_false c11
       clear c11
       have H' := Aside0.mk H
       clear H
       have p5 : 0 ≤ (x6_1 : Int) := of_decide_eq_true (by first | (with_reducible assumption) | assumption)
       have q5 : x6_1 < (a0.size : Int) := of_decide_eq_true (by first | (with_reducible assumption) | assumption)
       have hx5 := bt_at a0 x6_1
       replace p5 := eq_true p5
       replace q5 := eq_true q5
       have p7 : 0 ≤ (x6_1 : Int) := of_decide_eq_true (by first | (with_reducible assumption) | assumption)
       have q7 : x6_1 < (a0.size : Int) := of_decide_eq_true (by first | (with_reducible assumption) | assumption)
       have hx7 := bt_at a0 x6_1
       replace p7 := eq_true p7
       replace q7 := eq_true q7
       have p9 : 0 ≤ (x6_1 : Int) := of_decide_eq_true (by first | (with_reducible assumption) | assumption)
       have q9 : x6_1 < (a0.size : Int) := of_decide_eq_true (by first | (with_reducible assumption) | assumption)
       have hx9 := bt_at a0 x6_1
       replace p9 := eq_true p9
       replace q9 := eq_true q9
       go_wp2_with (first | (go_at_call 49; (with_reducible refine (strings_IndexByte.calls (⟨#[34, 35, 60, 62, 92, 94, 96, 123, 124, 125]⟩ : ByteArray) (bt a0 x6_1) t110 _ A10.out).mono ?_); rintro e w' ⟨rfl, ⟨nd, rfl⟩⟩))
       go_roundg k1
       case measure => have := HK1.out; omega
       case rel => exact ⟨(wrap64 (x6_1 + 1)), (by first | rfl | (simp; done) | (simp [*]; done) | (refine congrArg Value.bool ?_; rw [Bool.eq_iff_iff]; simp; done)), H', ⟨by have := HK1.out; omega⟩, by repeat (first | exact Drawn0.refl _ | apply Drawn0.step)⟩
   ·rw [if_neg c2] at H
    have c2b0 : decide (x6_1 < (a0.size : Int)) = false := decide_eq_false c2
    clear c2
    obtain rfl := Option.some.inj H
    go_wp2
    go_ret
    exact ⟨by first | rfl | (simp; done) | (simp [*]; done) | (refine congrArg Value.bool ?_; rw [Bool.eq_iff_iff]; simp; done), by repeat (first | exact Drawn0.refl _ | apply Drawn0.step)⟩

-- NOT PRINTED: function 50 (strings_trimLeftByte)

-- NOT PRINTED: function 51 (strings_trimRightByte)

-- NOT PRINTED: function 52 (strings_makeASCIISet)

-- NOT PRINTED: function 62 (strings_asciiSet_contains)

-- NOT PRINTED: function 53 (strings_trimLeftASCII)

-- NOT PRINTED: function 54 (strings_trimRightASCII)

-- NOT PRINTED: function 75 (utf8_decodeRuneInStringSlow)

-- NOT PRINTED: function 63 (utf8_DecodeRuneInString)

-- NOT PRINTED: function 90 (utf8_ValidRune)

-- NOT PRINTED: function 76 (strings_IndexRune)

-- NOT PRINTED: function 64 (strings_ContainsRune)

-- NOT PRINTED: function 55 (strings_trimLeftUnicode)

-- NOT PRINTED: function 77 (utf8_RuneStart)

-- NOT PRINTED: function 65 (utf8_DecodeLastRuneInString)

-- NOT PRINTED: function 56 (strings_trimRightUnicode)

end Go.Proofs.YtkcgalpagpgfhaaDoor.X
