import Derived.Test.YtmhaaggmfgojbaaDoorX0
import Derived.Test.YtmhaaggmfgojbaaDoorBC
import Derived.Test.YtmhaaggmfgojbaaDoorBA
import Derived.WalkKit
import Derived.Deep.LoopGhost
import Derived.StillTailTactics
import Derived.IntWalk
import Derived.RangeFuncNested
import Derived.RangeFuncBound
import Derived.RangeFuncCalls
import Derived.RangeFuncLeaves
import Derived.RangeFuncFrom
import Derived.RangeFuncBox
import Derived.OwnWalkIn
import Derived.TacticsInMore
import Derived.LoopNIn
import Derived.LoopIn
import Derived.Test.YtmhaaggmfgojbaaDoorBB
/-! X4 -/
-- Lean text made by xprint.py (ours) out of the seat's translation. Lean checks it.
namespace Go.Proofs.YtmhaaggmfgojbaaDoor.X
open Go.RowKit Go.Proofs.YtmhaaggmfgojbaaDoorW.PrintWords Go.Proofs.YtmhaaggmfgojbaaDoorW.PrintLast Go.Proofs.YtmhaaggmfgojbaaDoorW.PrintMore
attribute [local go_sem] max2_int min2_int max_two min_two max_three min_three max_four min_four   -- for this text's walks alone
set_option linter.unusedVariables false
set_option linter.unusedSimpArgs false

/-! ### text_digit: function 58 -/
def text_digit.f (a0 : Int) : Option (Int) := if a0 ≥ 97 then (if a0 ≤ 102 then ((strings_IndexByte.f (⟨#[48, 49, 50, 51, 52, 53, 54, 55, 56, 57, 65, 66, 67, 68, 69, 70]⟩ : ByteArray) ((a0 - 32) % 256)).bind fun t101 => (some t101)) else ((strings_IndexByte.f (⟨#[48, 49, 50, 51, 52, 53, 54, 55, 56, 57, 65, 66, 67, 68, 69, 70]⟩ : ByteArray) a0).bind fun t102 => (some t102))) else ((strings_IndexByte.f (⟨#[48, 49, 50, 51, 52, 53, 54, 55, 56, 57, 65, 66, 67, 68, 69, 70]⟩ : ByteArray) a0).bind fun t103 => (some t103))
set_option maxHeartbeats 8000000 in
set_option maxRecDepth 100000 in
theorem text_digit.calls (a0 : Int) (r : Int) (w : World) (h : text_digit.f a0 = some r) :
  Calls Tryd.prog 58 #[.int .u8 a0] w fun e w' => e = .returned (.int .i64 r) ∧ Drawn0 w w' := by
 have H : (if a0 ≥ 97 then (if a0 ≤ 102 then ((strings_IndexByte.f (⟨#[48, 49, 50, 51, 52, 53, 54, 55, 56, 57, 65, 66, 67, 68, 69, 70]⟩ : ByteArray) ((a0 - 32) % 256)).bind fun t101 => (some t101)) else ((strings_IndexByte.f (⟨#[48, 49, 50, 51, 52, 53, 54, 55, 56, 57, 65, 66, 67, 68, 69, 70]⟩ : ByteArray) a0).bind fun t102 => (some t102))) else ((strings_IndexByte.f (⟨#[48, 49, 50, 51, 52, 53, 54, 55, 56, 57, 65, 66, 67, 68, 69, 70]⟩ : ByteArray) a0).bind fun t103 => (some t103))) = some r := h
 clear h
 by_cases c2 : a0 ≥ 97
 ·rw [if_pos c2] at H
  have c2b0 : decide (97 ≤ a0) = true := decide_eq_true c2
  clear c2
  by_cases c3 : a0 ≤ 102
  ·rw [if_pos c3] at H
   have c3b0 : decide (a0 ≤ 102) = true := decide_eq_true c3
   clear c3
   replace H := Option.bind_eq_some_iff.mp H
   obtain ⟨t101, A40, H⟩ := H
   replace H : (some t101) = some r := H
   have A4 := Aside0.mk A40
   clear A40
   obtain rfl := Option.some.inj H
   go_enter Tryd.func58, Tryd.ntmps58
   go_wp2_with (first | ((with_reducible refine gate_callee (f := 62) rfl ?_); refine goesL_ (some 12) rfl rfl Tryd.func62 (by kernel_rfl) rfl #[.string (⟨#[48, 49, 50, 51, 52, 53, 54, 55, 56, 57, 65, 66, 67, 68, 69, 70]⟩ : ByteArray), .int .u8 ((a0 - 32) % 256)] rfl (by (try simp only [List.map_toArray, List.map_cons, List.map_nil]); first | done | rfl | (simp only [List.length_drop, List.length_take]; rfl)) ?_; (with_reducible refine (strings_IndexByte.calls (⟨#[48, 49, 50, 51, 52, 53, 54, 55, 56, 57, 65, 66, 67, 68, 69, 70]⟩ : ByteArray) ((a0 - 32) % 256) t101 _ A4.out).mono ?_); rintro e w' ⟨rfl, ⟨nd, rfl⟩⟩; refine ⟨_, rfl, ?_⟩))
   go_ret
   exact ⟨by first | rfl | (simp; done) | (simp [*]; done) | (refine congrArg Value.bool ?_; rw [Bool.eq_iff_iff]; simp; done), by repeat (first | exact Drawn0.refl _ | apply Drawn0.step)⟩
  ·rw [if_neg c3] at H
   have c3b0 : decide (a0 ≤ 102) = false := decide_eq_false c3
   clear c3
   replace H := Option.bind_eq_some_iff.mp H
   obtain ⟨t102, A50, H⟩ := H
   replace H : (some t102) = some r := H
   have A5 := Aside0.mk A50
   clear A50
   obtain rfl := Option.some.inj H
   go_enter Tryd.func58, Tryd.ntmps58
   go_wp2_with (first | ((with_reducible refine gate_callee (f := 62) rfl ?_); refine goesL_ (some 12) rfl rfl Tryd.func62 (by kernel_rfl) rfl #[.string (⟨#[48, 49, 50, 51, 52, 53, 54, 55, 56, 57, 65, 66, 67, 68, 69, 70]⟩ : ByteArray), .int .u8 a0] rfl (by (try simp only [List.map_toArray, List.map_cons, List.map_nil]); first | done | rfl | (simp only [List.length_drop, List.length_take]; rfl)) ?_; (with_reducible refine (strings_IndexByte.calls (⟨#[48, 49, 50, 51, 52, 53, 54, 55, 56, 57, 65, 66, 67, 68, 69, 70]⟩ : ByteArray) a0 t102 _ A5.out).mono ?_); rintro e w' ⟨rfl, ⟨nd, rfl⟩⟩; refine ⟨_, rfl, ?_⟩))
   go_ret
   exact ⟨by first | rfl | (simp; done) | (simp [*]; done) | (refine congrArg Value.bool ?_; rw [Bool.eq_iff_iff]; simp; done), by repeat (first | exact Drawn0.refl _ | apply Drawn0.step)⟩
 ·rw [if_neg c2] at H
  have c2b0 : decide (97 ≤ a0) = false := decide_eq_false c2
  clear c2
  replace H := Option.bind_eq_some_iff.mp H
  obtain ⟨t103, A60, H⟩ := H
  replace H : (some t103) = some r := H
  have A6 := Aside0.mk A60
  clear A60
  obtain rfl := Option.some.inj H
  go_enter Tryd.func58, Tryd.ntmps58
  go_wp2_with (first | ((with_reducible refine gate_callee (f := 62) rfl ?_); refine goesL_ (some 12) rfl rfl Tryd.func62 (by kernel_rfl) rfl #[.string (⟨#[48, 49, 50, 51, 52, 53, 54, 55, 56, 57, 65, 66, 67, 68, 69, 70]⟩ : ByteArray), .int .u8 a0] rfl (by (try simp only [List.map_toArray, List.map_cons, List.map_nil]); first | done | rfl | (simp only [List.length_drop, List.length_take]; rfl)) ?_; (with_reducible refine (strings_IndexByte.calls (⟨#[48, 49, 50, 51, 52, 53, 54, 55, 56, 57, 65, 66, 67, 68, 69, 70]⟩ : ByteArray) a0 t103 _ A6.out).mono ?_); rintro e w' ⟨rfl, ⟨nd, rfl⟩⟩; refine ⟨_, rfl, ?_⟩))
  go_ret
  exact ⟨by first | rfl | (simp; done) | (simp [*]; done) | (refine congrArg Value.bool ?_; rw [Bool.eq_iff_iff]; simp; done), by repeat (first | exact Drawn0.refl _ | apply Drawn0.step)⟩

-- NOT PRINTED: function 59 (strings_Builder_String)

end Go.Proofs.YtmhaaggmfgojbaaDoor.X

/-! HText -/
namespace Go.Proofs.YtmhaaggmfgojbaaDoor.X
open Go.RowKit Go.Proofs.YtmhaaggmfgojbaaDoorW.PrintWords Go.Proofs.YtmhaaggmfgojbaaDoorW.PrintLast Go.Proofs.YtmhaaggmfgojbaaDoorW.PrintMore Go.Proofs.YtmhaaggmfgojbaaDoor.Spec
set_option linter.unusedVariables false
set_option linter.unusedSimpArgs false

theorem digit_fin : ∀ n : Fin 256, text_digit.f (n.val : Int) = some (digv (UInt8.ofNat n.val)) := by decide +kernel
set_option maxHeartbeats 1000000 in
theorem digit_same (c : UInt8) (w : World) : Calls Tryd.prog 58 #[.int .u8 (c.toNat : Int)] w fun e w' => e = .returned (.int .i64 (digv c)) ∧ w' = w := by
 have hd := digit_fin ⟨c.toNat, c.toNat_lt⟩
 have hlt := c.toNat_lt
 simp only [UInt8.ofNat_toNat] at hd
 unfold text_digit.f strings_IndexByte.f at hd
 have fin : ∀ x : Int, (x % 256 = if 97 ≤ (c.toNat : Int) ∧ (c.toNat : Int) ≤ 102 then (c.toNat : Int) - 32 else (c.toNat : Int)) → 0 ≤ x → x < 256 → Lib.indexByte (⟨#[48, 49, 50, 51, 52, 53, 54, 55, 56, 57, 65, 66, 67, 68, 69, 70]⟩ : ByteArray).data.toList x.toNat.toUInt8 = digv c := by
  intro x hx h0 h1
  have hx' : x = if 97 ≤ (c.toNat : Int) ∧ (c.toNat : Int) ≤ 102 then (c.toNat : Int) - 32 else (c.toNat : Int) := by omega
  by_cases h1 : (97 : Int) ≤ (c.toNat : Int)
  ·by_cases h2 : (c.toNat : Int) ≤ 102
   ·rw [if_pos h1, if_pos h2] at hd
    rw [if_pos ⟨h1, h2⟩] at hx'
    subst hx'
    rw [show ((c.toNat : Int) - 32) % 256 = (c.toNat : Int) - 32 from by omega] at hd
    exact Option.some.inj hd
   ·rw [if_pos h1, if_neg h2] at hd
    rw [if_neg (fun h => h2 h.2)] at hx'
    subst hx'
    exact Option.some.inj hd
  ·rw [if_neg h1] at hd
   rw [if_neg (fun h => h1 h.1)] at hx'
   subst hx'
   exact Option.some.inj hd
 clear hd
 by_cases h1 : (97 : Int) ≤ (c.toNat : Int)
 ·by_cases h2 : (c.toNat : Int) ≤ 102
  ·have HD := Aside0.mk (fin ((c.toNat : Int) - 32) (by rw [if_pos ⟨h1, h2⟩]; omega) (by omega) (by omega))
   clear fin
   go_enter Tryd.func58, Tryd.ntmps58
   go_wp2_with fail
   refine (Tryd.strings_IndexByte _ _ _).mono ?_
   rw [HD.out]
   rintro e w' ⟨rfl, rfl⟩
   go_wp2
   go_ret
   exact ⟨rfl, rfl⟩
  ·have HD := Aside0.mk (fin (c.toNat : Int) (by rw [if_neg (fun h => h2 h.2)]; omega) (by omega) (by omega))
   clear fin
   have h2' : decide ((c.toNat : Int) ≤ 102) = false := decide_eq_false h2
   go_enter Tryd.func58, Tryd.ntmps58
   go_wp2_with fail
   refine (Tryd.strings_IndexByte _ _ _).mono ?_
   rw [HD.out]
   rintro e w' ⟨rfl, rfl⟩
   go_wp2
   go_ret
   exact ⟨rfl, rfl⟩
 ·have HD := Aside0.mk (fin (c.toNat : Int) (by rw [if_neg (fun h => h1 h.1)]; omega) (by omega) (by omega))
  clear fin
  have h1' : decide ((97 : Int) ≤ (c.toNat : Int)) = false := decide_eq_false h1
  go_enter Tryd.func58, Tryd.ntmps58
  go_wp2_with fail
  refine (Tryd.strings_IndexByte _ _ _).mono ?_
  rw [HD.out]
  rintro e w' ⟨rfl, rfl⟩
  go_wp2
  go_ret
  exact ⟨rfl, rfl⟩
theorem digit_call (c : UInt8) (w : World) : Calls Tryd.prog 58 #[.int .u8 (c.toNat : Int)] w fun e w' => e = .returned (.int .i64 (digv c)) ∧ Drawn0 w w' := by
 refine text_digit.calls _ _ w ?_
 have := digit_fin ⟨c.toNat, c.toNat_lt⟩
 simpa using this

theorem or_fin : ∀ a b : Fin 16, bits BinOp.or IntKind.i64 ((a.val : Int) * 16) (b.val : Int) % 256 = ((16 * a.val + b.val).toUInt8.toNat : Int) := by decide +kernel
theorem or_hex (x y : Int) (h0 : 0 ≤ x) (h1 : x < 16) (g0 : 0 ≤ y) (g1 : y < 16) : bits BinOp.or IntKind.i64 (x * 16) y % 256 = ((16 * x.toNat + y.toNat).toUInt8.toNat : Int) := by
 have := or_fin ⟨x.toNat, by omega⟩ ⟨y.toNat, by omega⟩
 simp only [Int.toNat_of_nonneg h0, Int.toNat_of_nonneg g0] at this
 exact this
def text_Unquote.f (a0 : ByteArray) : Option (ByteArray × Int) :=
  if a0.size ≤ 140737488355328 then some (match unquoteL (bl a0) with | some l => (ba l, 0) | none => (ba [], 2)) else none

set_option maxHeartbeats 4000000 in
set_option maxRecDepth 100000 in
theorem text_Unquote.calls (a0 : ByteArray) (r1 : ByteArray) (r2 : Int) (w : World) (h : text_Unquote.f a0 = some (r1, r2)) :
  Calls Tryd.prog 47 #[.string a0] w fun e w' => e = .returned (.tuple #[.string r1, .int .i64 r2]) ∧ Below w.heap.size w w' := by
 unfold text_Unquote.f at h
 split at h
 case isFalse => cases h
 rename_i hs
 have H := Aside0.mk (Option.some.inj h)
 clear h
 go_enter Tryd.func47, Tryd.ntmps47
 go_wp2
 go_loopw [5] (fun i wr => ∃ (k : Nat) (acc : List UInt8), k ≤ a0.size ∧ i = .int .i64 k ∧ acc.length ≤ k ∧ Aside0 (unquoteL (bl a0) = (unquoteL ((bl a0).drop k)).map (acc ++ ·)) ∧ Aside0 (Lib.IsBuilder 98 5 w.heap.size w.heap.size (Lib.byteCells acc) wr) ∧ Aside0 (Below w.heap.size w wr)) (fun i _ => a0.size - (intOf i).toNat)
 case atStart =>
  exact ⟨0, [], Nat.zero_le _, rfl, Nat.le_refl _, ⟨by simp⟩, ⟨Lib.fresh_isBuilder 98 5 w⟩, ⟨(Below.refl _ w).alloc (Nat.le_refl _) _⟩⟩
 case round =>
  obtain ⟨k, acc, hk, rfl, hal, HU, HI, HB⟩ := hrel
  have hl3 : (Lib.byteCells acc).length ≤ k := by rw [Lib.byteCells_length]; exact hal
  have hBw : w.heap.size ≤ wr.heap.size := HB.out.size
  by_cases hlt : k < a0.size
  ·have hbk : k < (bl a0).length := by rw [bl_length]; exact hlt
   have hdr : (bl a0).drop k = (a0[k]'hlt) :: (bl a0).drop (k + 1) := by
    rw [List.drop_eq_getElem_cons hbk]; rfl
   have HD := Aside0.mk hdr
   clear hdr
   by_cases h37 : (a0[k]'hlt).toNat = 37
   ·have e37 : a0[k]'hlt = 37 := UInt8.toNat_inj.1 h37
    have H37 := Aside0.mk e37
    have t43 : (((a0[k]'hlt).toNat : Int) == 43) = false := by rw [beq_eq_false_iff_ne]; omega
    have t37 : (((a0[k]'hlt).toNat : Int) != 37) = false := by rw [bne_eq_false_iff_eq]; omega
    clear e37
    by_cases hroom : k + 2 < a0.size
    ·have tge : decide ((a0.size : Int) ≤ (k : Int) + 2) = false := decide_eq_false (by omega)
     have hdr2 : (bl a0).drop (k + 1) = (a0[k + 1]'(by omega)) :: (a0[k + 2]'hroom) :: (bl a0).drop (k + 3) := by
      rw [List.drop_eq_getElem_cons (by rw [bl_length]; omega), List.drop_eq_getElem_cons (i := k + 2) (by rw [bl_length]; omega)]; rfl
     have HD2 := Aside0.mk hdr2
     clear hdr2
     have i1 : (0 : Int) ≤ (k : Int) + 1 := by omega
     have i2 : (k : Int) + 1 < (a0.size : Int) := by omega
     have i3 : (0 : Int) ≤ (k : Int) + 2 := by omega
     have i4 : (k : Int) + 2 < (a0.size : Int) := by omega
     have n1 : ((k : Int) + 1).toNat = k + 1 := by omega
     have n2 : ((k : Int) + 2).toNat = k + 2 := by omega
     by_cases hd1 : digv (a0[k + 1]'(by omega)) < 0
     ·have hnone : unquoteL (bl a0) = none := by
       rw [HU.out, HD.out, H37.out, HD2.out, unq_bad _ _ _ (Or.inl hd1)]; rfl
      have HN := Aside0.mk hnone
      clear hnone
      go_wp2_with (go_at_call 58; refine (digit_same _ _).mono ?_; rintro e w' ⟨rfl, rfl⟩)
      go_ret2
      exact ⟨by have := H.out; rw [HN.out] at this; simp only [Prod.mk.injEq] at this; obtain ⟨rfl, rfl⟩ := this; rfl, HB.out⟩
     ·by_cases hd2 : digv (a0[k + 2]'hroom) < 0
      ·have hnone : unquoteL (bl a0) = none := by
        rw [HU.out, HD.out, H37.out, HD2.out, unq_bad _ _ _ (Or.inr hd2)]; rfl
       have HN := Aside0.mk hnone
       clear hnone
       go_wp2_with fail
       refine (digit_same _ _).mono ?_
       rintro e w' ⟨rfl, rfl⟩
       go_wp2_with fail
       refine (digit_same _ _).mono ?_
       rintro e w' ⟨rfl, rfl⟩
       go_wp2
       go_ret2
       exact ⟨by have := H.out; rw [HN.out] at this; simp only [Prod.mk.injEq] at this; obtain ⟨rfl, rfl⟩ := this; rfl, HB.out⟩
      ·have hun : unquoteL (bl a0) = (unquoteL ((bl a0).drop (k + 3))).map ((acc ++ [(16 * (digv (a0[k + 1]'(by omega))).toNat + (digv (a0[k + 2]'hroom)).toNat).toUInt8]) ++ ·) := by
        rw [HU.out, HD.out, H37.out, HD2.out, unq_ok _ _ _ (by omega) (by omega), Option.map_map]
        congr 1
        funext x
        simp
       have HN := Aside0.mk hun
       clear hun
       have m1 := @digv_lt (a0[k + 1]'(by omega))
       have m2 := @digv_lt (a0[k + 2]'hroom)
       go_wp2_with fail
       refine (digit_same _ _).mono ?_
       rintro e w' ⟨rfl, rfl⟩
       go_wp2_with fail
       refine (digit_same _ _).mono ?_
       rintro e w' ⟨rfl, rfl⟩
       go_wp2_with fail
       have s1 : IntKind.i64.wrap ((k : Int) + 1) = (k : Int) + 1 := IntWalk.i64_in _ (by omega)
       have s2 : IntKind.i64.wrap ((k : Int) + 2) = (k : Int) + 2 := IntWalk.i64_in _ (by omega)
       refine wp_region_still_tail 13 (by kernel_rfl) (by kernel_rfl) ?_
       simp only [List.take_succ_cons, List.take_zero, List.drop_succ_cons, List.drop_zero]
       repeat (first | still_call (digit_same _ _) | still_step)
       refine wpStill_nil ?_
       clear s1 s2
       go_wp2_with fail
       refine (Sh.Builder_WriteByte w.heap.size w.heap.size (Lib.byteCells acc) _ w'.drew HI.out (by omega) hBw).mono ?_
       rintro e w2 ⟨rfl, h2, hb2⟩
       have h3 : Lib.byteCells acc ++ [Value.int .u8 (bits BinOp.or IntKind.i64 (digv (a0[k + 1]'(by omega)) * 16) (digv (a0[k + 2]'hroom)) % 256)] = Lib.byteCells (acc ++ [(16 * (digv (a0[k + 1]'(by omega))).toNat + (digv (a0[k + 2]'hroom)).toNat).toUInt8]) := by
        rw [or_hex _ _ (by omega) m1.1 (by omega) m2.1, Lib.byteCells_append]
        rfl
       rw [h3] at h2
       have H2 := Aside0.mk h2
       have HB2 := Aside0.mk ((below_drew HB.out).trans hb2)
       clear h2 hb2 h3
       have hbig : ((k : Int) + 3) ≤ (a0.size : Int) := by omega
       go_wp2
       go_roundw
       case rel => exact ⟨k + 3, acc ++ [(16 * (digv (a0[k + 1]'(by omega))).toNat + (digv (a0[k + 2]'hroom)).toNat).toUInt8], by omega, by go_num, by simp; omega, HN, ⟨Or.inr H2.out⟩, HB2⟩
       case measure => simp [intOf]; omega
    ·have tge : decide ((a0.size : Int) ≤ (k : Int) + 2) = true := decide_eq_true (by omega)
     have hnone : unquoteL (bl a0) = none := by
      rw [HU.out, HD.out, H37.out, unq_short _ (by rw [List.length_drop, bl_length]; omega)]; rfl
     have HN := Aside0.mk hnone
     clear hnone
     go_wp2
     go_ret2
     exact ⟨by have := H.out; rw [HN.out] at this; simp only [Prod.mk.injEq] at this; obtain ⟨rfl, rfl⟩ := this; rfl, HB.out⟩
   ·have hne : (a0[k]'hlt) ≠ 37 := fun e => h37 (by rw [e]; rfl)
    have hun : unquoteL (bl a0) = (unquoteL ((bl a0).drop (k + 1))).map ((acc ++ [if (a0[k]'hlt) = 43 then 32 else (a0[k]'hlt)]) ++ ·) := by
     rw [HU.out, HD.out, unq_plain _ _ hne, Option.map_map]
     congr 1
     funext x
     simp
    have HN := Aside0.mk hun
    clear hun
    have t37 : (((a0[k]'hlt).toNat : Int) != 37) = true := by rw [bne_iff_ne]; omega
    by_cases h43 : (a0[k]'hlt).toNat = 43
    ·have H43 := Aside0.mk (UInt8.toNat_inj.1 h43 : a0[k]'hlt = 43)
     have t43 : (((a0[k]'hlt).toNat : Int) == 43) = true := by rw [beq_iff_eq]; omega
     go_wp2_with fail
     refine (Sh.Builder_WriteByte w.heap.size w.heap.size (Lib.byteCells acc) _ wr HI.out (by omega) hBw).mono ?_
     rintro e w2 ⟨rfl, h2, hb2⟩
     have H2 := Aside0.mk h2
     have HB2 := Aside0.mk (HB.out.trans hb2)
     clear h2 hb2
     go_wp2
     go_roundw
     case rel => exact ⟨k + 1, acc ++ [32], by omega, by go_num, by simp; omega, ⟨by rw [HN.out, H43.out]; rfl⟩, ⟨by rw [Lib.byteCells_append]; exact Or.inr H2.out⟩, HB2⟩
     case measure => simp [intOf]; omega
    ·have H43 := Aside0.mk (fun e => h43 (by rw [e]; rfl) : a0[k]'hlt ≠ 43)
     have t43 : (((a0[k]'hlt).toNat : Int) == 43) = false := by rw [beq_eq_false_iff_ne]; omega
     go_wp2_with fail
     refine (Sh.Builder_WriteByte w.heap.size w.heap.size (Lib.byteCells acc) _ wr HI.out (by omega) hBw).mono ?_
     rintro e w2 ⟨rfl, h2, hb2⟩
     have H2 := Aside0.mk h2
     have HB2 := Aside0.mk (HB.out.trans hb2)
     clear h2 hb2
     go_wp2
     go_roundw
     case rel => exact ⟨k + 1, acc ++ [a0[k]'hlt], by omega, by go_num, by simp; omega, ⟨by rw [HN.out, if_neg H43.out]⟩, ⟨by rw [Lib.byteCells_append]; exact Or.inr H2.out⟩, HB2⟩
     case measure => simp [intOf]; omega
  ·go_wp2_with fail
   refine (Sh.Builder_String_any w.heap.size w.heap.size acc wr HI.out hBw).mono ?_
   rintro e w1 ⟨rfl, hb1⟩
   have HB1 := Aside0.mk (HB.out.trans hb1)
   clear hb1
   have hsome : unquoteL (bl a0) = some acc := by
    rw [HU.out, List.drop_of_length_le (by rw [bl_length]; omega)]; simp [unquoteL]
   have HS := Aside0.mk hsome
   clear hsome
   go_wp2
   go_ret2
   exact ⟨by have := H.out; rw [HS.out] at this; simp only [Prod.mk.injEq] at this; obtain ⟨rfl, rfl⟩ := this; rfl, HB1.out⟩

end Go.Proofs.YtmhaaggmfgojbaaDoor.X

/-! X5 -/
-- Lean text made by xprint.py (ours) out of the seat's translation. Lean checks it.
namespace Go.Proofs.YtmhaaggmfgojbaaDoor.X
open Go.RowKit Go.Proofs.YtmhaaggmfgojbaaDoorW.PrintWords Go.Proofs.YtmhaaggmfgojbaaDoorW.PrintLast Go.Proofs.YtmhaaggmfgojbaaDoorW.PrintMore
attribute [local go_sem] max2_int min2_int max_two min_two max_three min_three max_four min_four   -- for this text's walks alone
set_option linter.unusedVariables false
set_option linter.unusedSimpArgs false

/-! ### pairs_pair: function 31 -/
def pairs_pair.f (a0 : ByteArray) : Option (ByteArray × ByteArray × Int) := (strings_Cut.f a0 (⟨#[61]⟩ : ByteArray)).bind fun bt105 => ((text_Unquote.f bt105.1).bind fun bt108 => (if bt108.2 = 0 then ((text_Unquote.f bt105.2.1).bind fun bt110 => (if bt110.2 = 0 then (some (bt108.1, bt110.1, 0)) else (some ((⟨#[]⟩ : ByteArray), (⟨#[]⟩ : ByteArray), bt110.2)))) else (some ((⟨#[]⟩ : ByteArray), (⟨#[]⟩ : ByteArray), bt108.2))))
set_option maxHeartbeats 8000000 in
set_option maxRecDepth 100000 in
theorem pairs_pair.calls (a0 : ByteArray) (r1 : ByteArray) (r2 : ByteArray) (r3 : Int) (w : World) (h : pairs_pair.f a0 = some (r1, r2, r3)) :
  Calls Tryd.prog 31 #[.string a0] w fun e w' => e = .returned (.tuple #[.agg #[.string r1, .string r2], .int .i64 r3]) ∧ Below w.heap.size w w' := by
 have hu39 := Tryd.underlying39
 have HB := Aside0.mk (Below.refl w.heap.size w)
 have H : ((strings_Cut.f a0 (⟨#[61]⟩ : ByteArray)).bind fun bt105 => ((text_Unquote.f bt105.1).bind fun bt108 => (if bt108.2 = 0 then ((text_Unquote.f bt105.2.1).bind fun bt110 => (if bt110.2 = 0 then (some (bt108.1, bt110.1, 0)) else (some ((⟨#[]⟩ : ByteArray), (⟨#[]⟩ : ByteArray), bt110.2)))) else (some ((⟨#[]⟩ : ByteArray), (⟨#[]⟩ : ByteArray), bt108.2))))) = some (r1, r2, r3) := h
 clear h
 replace H := Option.bind_eq_some_iff.mp H
 obtain ⟨⟨t105, t106, t107⟩, A20, H⟩ := H
 replace H : ((text_Unquote.f t105).bind fun bt108 => (if bt108.2 = 0 then ((text_Unquote.f t106).bind fun bt110 => (if bt110.2 = 0 then (some (bt108.1, bt110.1, 0)) else (some ((⟨#[]⟩ : ByteArray), (⟨#[]⟩ : ByteArray), bt110.2)))) else (some ((⟨#[]⟩ : ByteArray), (⟨#[]⟩ : ByteArray), bt108.2)))) = some (r1, r2, r3) := H
 have A2 := Aside0.mk A20
 clear A20
 replace H := Option.bind_eq_some_iff.mp H
 obtain ⟨⟨t108, t109⟩, A30, H⟩ := H
 replace H : (if t109 = 0 then ((text_Unquote.f t106).bind fun bt110 => (if bt110.2 = 0 then (some (t108, bt110.1, 0)) else (some ((⟨#[]⟩ : ByteArray), (⟨#[]⟩ : ByteArray), bt110.2)))) else (some ((⟨#[]⟩ : ByteArray), (⟨#[]⟩ : ByteArray), t109))) = some (r1, r2, r3) := H
 have A3 := Aside0.mk A30
 clear A30
 by_cases c4 : t109 = 0
 ·rw [if_pos c4] at H
  have c4b0 : (t109 == 0) = true := beq_iff_eq.mpr c4
  have c4b1 : (t109 != 0) = false := bne_eq_false_iff_eq.mpr c4
  clear c4
  replace H := Option.bind_eq_some_iff.mp H
  obtain ⟨⟨t110, t111⟩, A50, H⟩ := H
  replace H : (if t111 = 0 then (some (t108, t110, 0)) else (some ((⟨#[]⟩ : ByteArray), (⟨#[]⟩ : ByteArray), t111))) = some (r1, r2, r3) := H
  have A5 := Aside0.mk A50
  clear A50
  by_cases c6 : t111 = 0
  ·rw [if_pos c6] at H
   have c6b0 : (t111 == 0) = true := beq_iff_eq.mpr c6
   have c6b1 : (t111 != 0) = false := bne_eq_false_iff_eq.mpr c6
   clear c6
   simp only [Option.some.injEq, Prod.mk.injEq] at H
   obtain ⟨rfl, rfl, rfl⟩ := H
   go_enter Tryd.func31, Tryd.ntmps31
   go_wp2_with (first | ((with_reducible refine gate_dst (N := 2) rfl ?_); refine box_event ?hg (N := 2) ?hd (cs := #[.string (⟨#[]⟩ : ByteArray), .string (⟨#[]⟩ : ByteArray)]) (t := 39) ?hr ?_; (case hd => rfl); (case hg => rfl); (case hr => first | (go_simp; done) | (go_simp; rfl)); intro gb104 hg w7 hbox hb; have n0_ := Aside0.mk (below_step (by repeat (first | (with_reducible first | exact HB.out | apply below_alloc | apply pw_below_drewN | apply below_drew1) | exact HB.out)) hb); have n1_ := Aside0.mk (hbox); have n2_ := Aside0.mk ((by rw [hg]; exact (below_size (by repeat (first | (with_reducible first | exact HB.out | apply below_alloc | apply pw_below_drewN | apply below_drew1) | exact HB.out))) : w.heap.size ≤ gb104)); have n3_ := Aside0.mk ((by rw [hg]; exact (below_size (by repeat (first | (with_reducible first | exact HB.out | apply below_alloc | apply pw_below_drewN | apply below_drew1) | exact HB.out))) : w.heap.size ≤ gb104)); clear HB; have HB := n0_; have BK104 := n1_; have GW104 := n2_; have GE104 := n3_; clear n0_ n1_ n2_ n3_; clear hb hbox hg) | ((with_reducible refine gate_callee (f := 46) rfl ?_); refine goesL_ (some 12) rfl rfl Tryd.func46 (by kernel_rfl) rfl #[.string a0, .string (⟨#[61]⟩ : ByteArray)] rfl (by (try simp only [List.map_toArray, List.map_cons, List.map_nil]); first | done | rfl | (simp only [List.length_drop, List.length_take]; rfl)) ?_; (with_reducible refine (strings_Cut.calls a0 (⟨#[61]⟩ : ByteArray) t105 t106 t107 _ A2.out).mono ?_); rintro e w' ⟨rfl, ⟨nd, rfl⟩⟩; refine ⟨_, rfl, ?_⟩; (try (rw [drewN_self w7]; generalize hq_ : World.drewN w7 _ = w7; have n0_ : Aside0 (w7.heap[gb104]? = some (.cells #[.string (⟨#[]⟩ : ByteArray), .string (⟨#[]⟩ : ByteArray)] 39 (0, 0))) := ⟨by rw [← hq_]; exact (by (with_reducible repeat (first | refine blk_drewN ?_ _ | refine blk_drew ?_ | refine blk_alloc ?_ _)); exact BK104.out)⟩; have n1_ : Aside0 (Below w.heap.size w w7) := ⟨by rw [← hq_]; exact (by repeat (first | (with_reducible first | exact HB.out | apply below_alloc | apply pw_below_drewN | apply below_drew1 | refine below_set ?_ GE104.out) | exact HB.out))⟩; clear BK104 HB hq_; have BK104 := n0_; have HB := n1_; clear n0_ n1_))) | ((with_reducible refine gate_callee (f := 47) rfl ?_); refine goesL_ (some 18) rfl rfl Tryd.func47 (by kernel_rfl) rfl #[.string t105] rfl (by (try simp only [List.map_toArray, List.map_cons, List.map_nil]); first | done | rfl | (simp only [List.length_drop, List.length_take]; rfl)) ?_; (with_reducible refine (text_Unquote.calls t105 t108 t109 _ A3.out).mono ?_); rintro e w8 ⟨rfl, hb⟩; refine ⟨_, rfl, ?_⟩; have n0_ := Aside0.mk (blk_belowB BK104.out (by (with_reducible repeat (first | refine blk_drewN ?_ _ | refine blk_drew ?_ | refine blk_alloc ?_ _)); exact BK104.out) hb); have n1_ := Aside0.mk (below_step (by repeat (first | (with_reducible first | exact HB.out | apply below_alloc | apply pw_below_drewN | apply below_drew1 | refine below_set ?_ GE104.out) | exact HB.out)) hb); clear BK104; clear HB; have BK104 := n0_; have HB := n1_; clear n0_ n1_; (try clear hb); (try clear hb2); (try clear hk); (try clear hi)) | ((with_reducible refine gate_callee (f := 47) rfl ?_); refine goesL_ (some 27) rfl rfl Tryd.func47 (by kernel_rfl) rfl #[.string t106] rfl (by (try simp only [List.map_toArray, List.map_cons, List.map_nil]); first | done | rfl | (simp only [List.length_drop, List.length_take]; rfl)) ?_; (with_reducible refine (text_Unquote.calls t106 t110 t111 _ A5.out).mono ?_); rintro e w9 ⟨rfl, hb⟩; refine ⟨_, rfl, ?_⟩; have n0_ := Aside0.mk (blk_belowB BK104.out (by (with_reducible repeat (first | refine blk_drewN ?_ _ | refine blk_drew ?_ | refine blk_alloc ?_ _)); exact BK104.out) hb); have n1_ := Aside0.mk (below_step (by repeat (first | (with_reducible first | exact HB.out | apply below_alloc | apply pw_below_drewN | apply below_drew1 | refine below_set ?_ GE104.out) | exact HB.out)) hb); clear BK104; clear HB; have BK104 := n0_; have HB := n1_; clear n0_ n1_; (try clear hb); (try clear hb2); (try clear hk); (try clear hi); have hcz10_0 : w9.cell? ⟨gb104, 0, none⟩ = some (.string (⟨#[]⟩ : ByteArray)) := (blk_cell BK104.out 0).trans rfl; have hcz10_1 : w9.cell? ⟨gb104, 1, none⟩ = some (.string (⟨#[]⟩ : ByteArray)) := (blk_cell BK104.out 1).trans rfl; have hfz10_0 := blk_frozen BK104.out 0; have hfz10_1 := blk_frozen BK104.out 1))
   refine bodyPost_ret (results_ct rfl _ _ gb104 39 #[.string t108, .string t110] (0, 0) _ rfl (by (with_reducible repeat (first | refine blk_drewN ?_ _ | refine blk_drew ?_ | refine blk_alloc ?_ _)); refine blk_put (cs := #[.string t108, .string (⟨#[]⟩ : ByteArray)]) ?_ 1 _ rfl; (with_reducible repeat (first | refine blk_drewN ?_ _ | refine blk_drew ?_ | refine blk_alloc ?_ _)); refine blk_put (cs := #[.string (⟨#[]⟩ : ByteArray), .string (⟨#[]⟩ : ByteArray)]) ?_ 0 _ rfl; (with_reducible repeat (first | refine blk_drewN ?_ _ | refine blk_drew ?_ | refine blk_alloc ?_ _)); exact BK104.out) Tryd.underlying39 rfl (by kernel_rfl)) rfl ?_
   first | (exact ⟨by first | rfl | (simp [errW_none, errW_some] <;> rfl) | (simp [*, errW_none, errW_some] <;> rfl), by repeat (first | (with_reducible first | exact HB.out | apply below_alloc | apply pw_below_drewN | apply below_drew1 | refine below_set ?_ GE104.out) | exact HB.out)⟩) | (focus (exfalso; simp_all; done))
   all_goals (first | (exfalso; simp_all <;> omega) | (go_ret; exact ⟨by first | rfl | (simp [errW_none, errW_some] <;> rfl) | (simp [*, errW_none, errW_some] <;> rfl), by repeat (first | (with_reducible first | exact HB.out | apply below_alloc | apply pw_below_drewN | apply below_drew1 | refine below_set ?_ GE104.out) | exact HB.out)⟩))
  ·rw [if_neg c6] at H
   have c6b0 : (t111 == 0) = false := beq_eq_false_iff_ne.mpr c6
   have c6b1 : (t111 != 0) = true := bne_iff_ne.mpr c6
   simp only [Option.some.injEq, Prod.mk.injEq] at H
   obtain ⟨rfl, rfl, rfl⟩ := H
   go_enter Tryd.func31, Tryd.ntmps31
   go_wp2_with (first | ((with_reducible refine gate_dst (N := 2) rfl ?_); refine box_event ?hg (N := 2) ?hd (cs := #[.string (⟨#[]⟩ : ByteArray), .string (⟨#[]⟩ : ByteArray)]) (t := 39) ?hr ?_; (case hd => rfl); (case hg => rfl); (case hr => first | (go_simp; done) | (go_simp; rfl)); intro gb104 hg w11 hbox hb; have n0_ := Aside0.mk (below_step (by repeat (first | (with_reducible first | exact HB.out | apply below_alloc | apply pw_below_drewN | apply below_drew1) | exact HB.out)) hb); have n1_ := Aside0.mk (hbox); have n2_ := Aside0.mk ((by rw [hg]; exact (below_size (by repeat (first | (with_reducible first | exact HB.out | apply below_alloc | apply pw_below_drewN | apply below_drew1) | exact HB.out))) : w.heap.size ≤ gb104)); have n3_ := Aside0.mk ((by rw [hg]; exact (below_size (by repeat (first | (with_reducible first | exact HB.out | apply below_alloc | apply pw_below_drewN | apply below_drew1) | exact HB.out))) : w.heap.size ≤ gb104)); clear HB; have HB := n0_; have BK104 := n1_; have GW104 := n2_; have GE104 := n3_; clear n0_ n1_ n2_ n3_; clear hb hbox hg) | ((with_reducible refine gate_callee (f := 46) rfl ?_); refine goesL_ (some 12) rfl rfl Tryd.func46 (by kernel_rfl) rfl #[.string a0, .string (⟨#[61]⟩ : ByteArray)] rfl (by (try simp only [List.map_toArray, List.map_cons, List.map_nil]); first | done | rfl | (simp only [List.length_drop, List.length_take]; rfl)) ?_; (with_reducible refine (strings_Cut.calls a0 (⟨#[61]⟩ : ByteArray) t105 t106 t107 _ A2.out).mono ?_); rintro e w' ⟨rfl, ⟨nd, rfl⟩⟩; refine ⟨_, rfl, ?_⟩; (try (rw [drewN_self w11]; generalize hq_ : World.drewN w11 _ = w11; have n0_ : Aside0 (w11.heap[gb104]? = some (.cells #[.string (⟨#[]⟩ : ByteArray), .string (⟨#[]⟩ : ByteArray)] 39 (0, 0))) := ⟨by rw [← hq_]; exact (by (with_reducible repeat (first | refine blk_drewN ?_ _ | refine blk_drew ?_ | refine blk_alloc ?_ _)); exact BK104.out)⟩; have n1_ : Aside0 (Below w.heap.size w w11) := ⟨by rw [← hq_]; exact (by repeat (first | (with_reducible first | exact HB.out | apply below_alloc | apply pw_below_drewN | apply below_drew1 | refine below_set ?_ GE104.out) | exact HB.out))⟩; clear BK104 HB hq_; have BK104 := n0_; have HB := n1_; clear n0_ n1_))) | ((with_reducible refine gate_callee (f := 47) rfl ?_); refine goesL_ (some 18) rfl rfl Tryd.func47 (by kernel_rfl) rfl #[.string t105] rfl (by (try simp only [List.map_toArray, List.map_cons, List.map_nil]); first | done | rfl | (simp only [List.length_drop, List.length_take]; rfl)) ?_; (with_reducible refine (text_Unquote.calls t105 t108 t109 _ A3.out).mono ?_); rintro e w12 ⟨rfl, hb⟩; refine ⟨_, rfl, ?_⟩; have n0_ := Aside0.mk (blk_belowB BK104.out (by (with_reducible repeat (first | refine blk_drewN ?_ _ | refine blk_drew ?_ | refine blk_alloc ?_ _)); exact BK104.out) hb); have n1_ := Aside0.mk (below_step (by repeat (first | (with_reducible first | exact HB.out | apply below_alloc | apply pw_below_drewN | apply below_drew1 | refine below_set ?_ GE104.out) | exact HB.out)) hb); clear BK104; clear HB; have BK104 := n0_; have HB := n1_; clear n0_ n1_; (try clear hb); (try clear hb2); (try clear hk); (try clear hi)) | ((with_reducible refine gate_callee (f := 47) rfl ?_); refine goesL_ (some 27) rfl rfl Tryd.func47 (by kernel_rfl) rfl #[.string t106] rfl (by (try simp only [List.map_toArray, List.map_cons, List.map_nil]); first | done | rfl | (simp only [List.length_drop, List.length_take]; rfl)) ?_; (with_reducible refine (text_Unquote.calls t106 t110 t111 _ A5.out).mono ?_); rintro e w13 ⟨rfl, hb⟩; refine ⟨_, rfl, ?_⟩; have n0_ := Aside0.mk (blk_belowB BK104.out (by (with_reducible repeat (first | refine blk_drewN ?_ _ | refine blk_drew ?_ | refine blk_alloc ?_ _)); exact BK104.out) hb); have n1_ := Aside0.mk (below_step (by repeat (first | (with_reducible first | exact HB.out | apply below_alloc | apply pw_below_drewN | apply below_drew1 | refine below_set ?_ GE104.out) | exact HB.out)) hb); clear BK104; clear HB; have BK104 := n0_; have HB := n1_; clear n0_ n1_; (try clear hb); (try clear hb2); (try clear hk); (try clear hi); have hcz14_0 : w13.cell? ⟨gb104, 0, none⟩ = some (.string (⟨#[]⟩ : ByteArray)) := (blk_cell BK104.out 0).trans rfl; have hcz14_1 : w13.cell? ⟨gb104, 1, none⟩ = some (.string (⟨#[]⟩ : ByteArray)) := (blk_cell BK104.out 1).trans rfl; have hfz14_0 := blk_frozen BK104.out 0; have hfz14_1 := blk_frozen BK104.out 1))
   refine bodyPost_ret (results_ct rfl _ _ gb104 39 #[.string (⟨#[]⟩ : ByteArray), .string (⟨#[]⟩ : ByteArray)] (0, 0) _ rfl (by (with_reducible repeat (first | refine blk_drewN ?_ _ | refine blk_drew ?_ | refine blk_alloc ?_ _)); refine blk_put (cs := #[.string (⟨#[]⟩ : ByteArray), .string (⟨#[]⟩ : ByteArray)]) ?_ 1 _ rfl; (with_reducible repeat (first | refine blk_drewN ?_ _ | refine blk_drew ?_ | refine blk_alloc ?_ _)); refine blk_put (cs := #[.string (⟨#[]⟩ : ByteArray), .string (⟨#[]⟩ : ByteArray)]) ?_ 0 _ rfl; (with_reducible repeat (first | refine blk_drewN ?_ _ | refine blk_drew ?_ | refine blk_alloc ?_ _)); exact BK104.out) Tryd.underlying39 rfl (by kernel_rfl)) rfl ?_
   first | (exact ⟨by first | rfl | (simp [errW_none, errW_some] <;> rfl) | (simp [*, errW_none, errW_some] <;> rfl), by repeat (first | (with_reducible first | exact HB.out | apply below_alloc | apply pw_below_drewN | apply below_drew1 | refine below_set ?_ GE104.out) | exact HB.out)⟩) | (focus (exfalso; simp_all; done))
   all_goals (first | (exfalso; simp_all <;> omega) | (go_ret; exact ⟨by first | rfl | (simp [errW_none, errW_some] <;> rfl) | (simp [*, errW_none, errW_some] <;> rfl), by repeat (first | (with_reducible first | exact HB.out | apply below_alloc | apply pw_below_drewN | apply below_drew1 | refine below_set ?_ GE104.out) | exact HB.out)⟩))
 ·rw [if_neg c4] at H
  have c4b0 : (t109 == 0) = false := beq_eq_false_iff_ne.mpr c4
  have c4b1 : (t109 != 0) = true := bne_iff_ne.mpr c4
  simp only [Option.some.injEq, Prod.mk.injEq] at H
  obtain ⟨rfl, rfl, rfl⟩ := H
  go_enter Tryd.func31, Tryd.ntmps31
  go_wp2_with (first | ((with_reducible refine gate_dst (N := 2) rfl ?_); refine box_event ?hg (N := 2) ?hd (cs := #[.string (⟨#[]⟩ : ByteArray), .string (⟨#[]⟩ : ByteArray)]) (t := 39) ?hr ?_; (case hd => rfl); (case hg => rfl); (case hr => first | (go_simp; done) | (go_simp; rfl)); intro gb104 hg w15 hbox hb; have n0_ := Aside0.mk (below_step (by repeat (first | (with_reducible first | exact HB.out | apply below_alloc | apply pw_below_drewN | apply below_drew1) | exact HB.out)) hb); have n1_ := Aside0.mk (hbox); have n2_ := Aside0.mk ((by rw [hg]; exact (below_size (by repeat (first | (with_reducible first | exact HB.out | apply below_alloc | apply pw_below_drewN | apply below_drew1) | exact HB.out))) : w.heap.size ≤ gb104)); have n3_ := Aside0.mk ((by rw [hg]; exact (below_size (by repeat (first | (with_reducible first | exact HB.out | apply below_alloc | apply pw_below_drewN | apply below_drew1) | exact HB.out))) : w.heap.size ≤ gb104)); clear HB; have HB := n0_; have BK104 := n1_; have GW104 := n2_; have GE104 := n3_; clear n0_ n1_ n2_ n3_; clear hb hbox hg) | ((with_reducible refine gate_callee (f := 46) rfl ?_); refine goesL_ (some 12) rfl rfl Tryd.func46 (by kernel_rfl) rfl #[.string a0, .string (⟨#[61]⟩ : ByteArray)] rfl (by (try simp only [List.map_toArray, List.map_cons, List.map_nil]); first | done | rfl | (simp only [List.length_drop, List.length_take]; rfl)) ?_; (with_reducible refine (strings_Cut.calls a0 (⟨#[61]⟩ : ByteArray) t105 t106 t107 _ A2.out).mono ?_); rintro e w' ⟨rfl, ⟨nd, rfl⟩⟩; refine ⟨_, rfl, ?_⟩; (try (rw [drewN_self w15]; generalize hq_ : World.drewN w15 _ = w15; have n0_ : Aside0 (w15.heap[gb104]? = some (.cells #[.string (⟨#[]⟩ : ByteArray), .string (⟨#[]⟩ : ByteArray)] 39 (0, 0))) := ⟨by rw [← hq_]; exact (by (with_reducible repeat (first | refine blk_drewN ?_ _ | refine blk_drew ?_ | refine blk_alloc ?_ _)); exact BK104.out)⟩; have n1_ : Aside0 (Below w.heap.size w w15) := ⟨by rw [← hq_]; exact (by repeat (first | (with_reducible first | exact HB.out | apply below_alloc | apply pw_below_drewN | apply below_drew1 | refine below_set ?_ GE104.out) | exact HB.out))⟩; clear BK104 HB hq_; have BK104 := n0_; have HB := n1_; clear n0_ n1_))) | ((with_reducible refine gate_callee (f := 47) rfl ?_); refine goesL_ (some 18) rfl rfl Tryd.func47 (by kernel_rfl) rfl #[.string t105] rfl (by (try simp only [List.map_toArray, List.map_cons, List.map_nil]); first | done | rfl | (simp only [List.length_drop, List.length_take]; rfl)) ?_; (with_reducible refine (text_Unquote.calls t105 t108 t109 _ A3.out).mono ?_); rintro e w16 ⟨rfl, hb⟩; refine ⟨_, rfl, ?_⟩; have n0_ := Aside0.mk (blk_belowB BK104.out (by (with_reducible repeat (first | refine blk_drewN ?_ _ | refine blk_drew ?_ | refine blk_alloc ?_ _)); exact BK104.out) hb); have n1_ := Aside0.mk (below_step (by repeat (first | (with_reducible first | exact HB.out | apply below_alloc | apply pw_below_drewN | apply below_drew1 | refine below_set ?_ GE104.out) | exact HB.out)) hb); clear BK104; clear HB; have BK104 := n0_; have HB := n1_; clear n0_ n1_; (try clear hb); (try clear hb2); (try clear hk); (try clear hi); have hcz17_0 : w16.cell? ⟨gb104, 0, none⟩ = some (.string (⟨#[]⟩ : ByteArray)) := (blk_cell BK104.out 0).trans rfl; have hcz17_1 : w16.cell? ⟨gb104, 1, none⟩ = some (.string (⟨#[]⟩ : ByteArray)) := (blk_cell BK104.out 1).trans rfl; have hfz17_0 := blk_frozen BK104.out 0; have hfz17_1 := blk_frozen BK104.out 1))
  refine bodyPost_ret (results_ct rfl _ _ gb104 39 #[.string (⟨#[]⟩ : ByteArray), .string (⟨#[]⟩ : ByteArray)] (0, 0) _ rfl (by (with_reducible repeat (first | refine blk_drewN ?_ _ | refine blk_drew ?_ | refine blk_alloc ?_ _)); refine blk_put (cs := #[.string (⟨#[]⟩ : ByteArray), .string (⟨#[]⟩ : ByteArray)]) ?_ 1 _ rfl; (with_reducible repeat (first | refine blk_drewN ?_ _ | refine blk_drew ?_ | refine blk_alloc ?_ _)); refine blk_put (cs := #[.string (⟨#[]⟩ : ByteArray), .string (⟨#[]⟩ : ByteArray)]) ?_ 0 _ rfl; (with_reducible repeat (first | refine blk_drewN ?_ _ | refine blk_drew ?_ | refine blk_alloc ?_ _)); exact BK104.out) Tryd.underlying39 rfl (by kernel_rfl)) rfl ?_
  first | (exact ⟨by first | rfl | (simp [errW_none, errW_some] <;> rfl) | (simp [*, errW_none, errW_some] <;> rfl), by repeat (first | (with_reducible first | exact HB.out | apply below_alloc | apply pw_below_drewN | apply below_drew1 | refine below_set ?_ GE104.out) | exact HB.out)⟩) | (focus (exfalso; simp_all; done))
  all_goals (first | (exfalso; simp_all <;> omega) | (go_ret; exact ⟨by first | rfl | (simp [errW_none, errW_some] <;> rfl) | (simp [*, errW_none, errW_some] <;> rfl), by repeat (first | (with_reducible first | exact HB.out | apply below_alloc | apply pw_below_drewN | apply below_drew1 | refine below_set ?_ GE104.out) | exact HB.out)⟩))

end Go.Proofs.YtmhaaggmfgojbaaDoor.X

/-! HParse -/
namespace Go.Proofs.YtmhaaggmfgojbaaDoor.X
open Go.RowKit Go.Shelf Go.Proofs.YtmhaaggmfgojbaaDoorW.PrintWords Go.Proofs.YtmhaaggmfgojbaaDoorW.PrintLast Go.Proofs.YtmhaaggmfgojbaaDoorW.PrintMore Go.Proofs.YtmhaaggmfgojbaaDoor.Spec
set_option linter.unusedVariables false
set_option linter.unusedSimpArgs false
attribute [local go_sem] Oper.semAt_some

def pair1 (s : ByteArray) : Option S39 := match unquoteL (pre 61 (bl s)), unquoteL (post 61 (bl s)) with | some a, some b => some ⟨ba a, ba b⟩ | _, _ => none
def formStep (acc : Option (List S39)) (s : ByteArray) : Option (List S39) := if s.size = 0 then acc else acc.bind (fun a => (pair1 s).map (fun p => a ++ [p]))
def formOf (l : List ByteArray) : Option (List S39) := l.foldl formStep (some [])
theorem formOf_snoc (l : List ByteArray) (s : ByteArray) : formOf (l ++ [s]) = formStep (formOf l) s := by simp [formOf, List.foldl_append]
theorem form_none (l : List ByteArray) : l.foldl formStep none = none := by
 induction l with
 | nil => rfl
 | cons s r ih => rw [List.foldl_cons]; unfold formStep at *; split <;> simpa using ih
theorem formOf_none {a b : List ByteArray} (h : formOf a = none) (hp : a <+: b) : formOf b = none := by
 obtain ⟨r, rfl⟩ := hp
 unfold formOf at *
 rw [List.foldl_append, h]
 exact form_none r
theorem post_length_le (c : UInt8) (l : List UInt8) : (post c l).length ≤ l.length := by
 induction l with
 | nil => simp [post]
 | cons x r ih => unfold post at *; simp only [List.dropWhile_cons]; split <;> simp <;> simp at ih <;> omega
theorem pair_f (s : ByteArray) (h : s.size ≤ 140737488355328) : pairs_pair.f s = some (match pair1 s with | some p => (p.f0, p.f1, 0) | none => (⟨#[]⟩, ⟨#[]⟩, 2)) := by
 unfold pairs_pair.f pair1 strings_Cut.f
 have e61 : bl (⟨#[61]⟩ : ByteArray) = [61] := rfl
 rw [e61]
 simp only [h, if_true, Option.bind_some]
 have h1 : (ba (pre 61 (bl s))).size ≤ 140737488355328 := by rw [size_ba]; have := pre_length_le 61 (bl s); rw [bl_length] at this; omega
 have h2 : (ba (post 61 (bl s))).size ≤ 140737488355328 := by rw [size_ba]; have := post_length_le 61 (bl s); rw [bl_length] at this; omega
 unfold text_Unquote.f
 rw [if_pos h1, if_pos h2, bl_ba, bl_ba]
 cases unquoteL (pre 61 (bl s)) with
 | none => simp
 | some a =>
  cases unquoteL (post 61 (bl s)) with
  | none => simp
  | some b => simp

def pairs_Parse.f (a0 : ByteArray) : Option (List S39 × Int) :=
  some (if 4096 < a0.size then ([], 3) else match formOf (spParts 38 a0) with | none => ([], 2) | some l => if 64 < l.length then ([], 3) else (l, 0))

set_option maxHeartbeats 1000000 in
set_option maxRecDepth 100000 in
theorem strings_SplitSeq_one (s : ByteArray) (c : UInt8) (w : World) :
  Calls Tryd.prog 30 #[.string s, .string ⟨#[c]⟩] w fun e w' => e = .returned (.func (.func 53) #[] #[.pointer (some ⟨w.heap.size + 1, 0, none⟩), .pointer (some ⟨w.heap.size, 0, none⟩), .pointer (some ⟨w.heap.size + 2, 0, none⟩)]) ∧ w' = ((w.alloc (.cells #[.string s] 9)).alloc (.cells #[.string ⟨#[c]⟩] 9)).alloc (.cells #[.int .i64 0] 3) := by
 go_enter Tryd.func30, Tryd.ntmps30
 go_wp2
 go_ret
 exact ⟨rfl, rfl⟩

set_option maxHeartbeats 2000000 in
set_option maxRecDepth 100000 in
theorem parse_long (a0 : ByteArray) (w : World) (h : 4096 < a0.size) :
  Calls Tryd.prog 16 #[.string a0] w fun e w' => e = .returned (.tuple #[.slice none 0 0, .int .i64 3]) ∧ Below w.heap.size w w' := by
 have h' : ((4096 : Int) < (a0.size : Int)) := by omega
 go_enter Tryd.func16, Tryd.ntmps16
 go_wp2
 exact bodyPost_ret (v := .tuple #[.slice none 0 0, .int .i64 3]) (by simp [results, Tryd.results16, go_sem]) rfl ⟨rfl, below_alloc (below_alloc (Below.refl _ w) _) _⟩

def flatP (l : List S39) : List Value := l.flatMap (fun p => [.string p.f0, .string p.f1])
theorem flatP_snoc (l : List S39) (p : S39) : flatP (l ++ [p]) = flatP l ++ [.string p.f0, .string p.f1] := by simp [flatP]
theorem flatP_reps (w : World) (base : Nat) (ok : Nat → Prop) (l : List S39) : Reps (fun p cs => k39.M w base ok p cs) 2 l (flatP l) := by
 have : ∀ (a b : List S39), Reps (fun p cs => k39.M w base ok p cs) 2 a (flatP a) → Reps (fun p cs => k39.M w base ok p cs) 2 (a ++ b) (flatP (a ++ b)) := by
  intro a b
  induction b generalizing a with
  | nil => intro h; simpa using h
  | cons p r ih =>
   intro h
   have := ih (a ++ [p]) (by rw [flatP_snoc]; exact h.snoc (k39_mkM w base ok p) rfl)
   simpa using this
 exact this [] l (Reps.none _ _)
theorem own_pairs {W : World} {base b0 : Nat} {v : Value} {l : List S39} (h : W.ownsRow base 39 2 v l.length (flatP l)) (hb : b0 ≤ base) : Kd.R k39 39 W b0 (fun _ => True) v l :=
 ⟨fun _ _ => trivial, flatP l, own_weaken h hb, flatP_reps _ _ _ l⟩
theorem grown_store (W : World) (b : Nat) (v : Value) : W.grownBy (W.setCell ⟨b, 0, none⟩ v) (some b) :=
 ⟨rfl, rfl, rfl, by simp [World.setCell], fun k _ hk => set_other (fun e => hk (by rw [e]))⟩
theorem heap_alloc_at (w : World) (o : Obj) (k : Nat) : (w.alloc o).heap[k]? = if k = w.heap.size then some o else w.heap[k]? := by
 show (w.heap.push o)[k]? = _
 rw [Array.getElem?_push]
/-- between two parts: the results' cells, what was gathered -/
def PsI (w : World) (pr : List ByteArray) (W : World) : Prop :=
  ∃ (acc : List S39) (v : Value), formOf pr = some acc ∧ acc.length ≤ pr.length ∧ W.heap[w.heap.size]? = some (.cells #[.slice none 0 0] 37 (0, 0)) ∧ W.heap[w.heap.size + 1]? = some (.cells #[.int .i64 0] 52 (0, 0)) ∧ W.heap[w.heap.size + 2]? = some (.cells #[v] 37 (0, 0)) ∧
    W.ownsRow (w.heap.size + 6) 39 2 v acc.length (flatP acc) ∧ w.heap.size + 6 ≤ W.heap.size ∧ Below w.heap.size w W
/-- a part that is no pair -/
def PsX (w : World) (c : Code) (pr : List ByteArray) (W : World) : Prop :=
  c = .ret ∧ formOf pr = none ∧ W.heap[w.heap.size]? = some (.cells #[.slice none 0 0] 37 (0, 0)) ∧ W.heap[w.heap.size + 1]? = some (.cells #[.int .i64 2] 52 (0, 0)) ∧ Below w.heap.size w W
theorem grown_cells {A B : World} {row : Option Nat} {k n : Nat} {v : Value} {t : TypeId} (hg : A.grownBy B row) (hr : ∀ r, row = some r → n ≤ r) (hk : k < n) (hkA : A.heap[k]? = some (.cells #[v] t (0, 0))) : B.heap[k]? = some (.cells #[v] t (0, 0)) :=
 (hg.block k (Array.getElem?_eq_some_iff.1 hkA).1 (fun e => by have := hr k e.symm; omega)).trans hkA
theorem PsI.own (w : World) (W0 : Nat) (h6 : w.heap.size + 6 ≤ W0) : OwnFrom W0 (PsI w) := by
 rintro s A B row ⟨acc, v, h1, h2, c0, c1, c2, hR, hS6, hB⟩ hg hr
 have hr' : ∀ r, row = some r → w.heap.size + 6 ≤ r := fun r e => by have := (hr r e).1; omega
 refine ⟨acc, v, h1, h2, grown_cells hg hr' (by omega) c0, grown_cells hg hr' (by omega) c1, grown_cells hg hr' (by omega) c2, ?_, Nat.le_trans hS6 hg.size, hB.grown hg hB.size (fun k e => by have := hr' k e; omega)⟩
 refine hR.kept hg ?_
 cases hv : v.ownBlock with
 | none => exact .inl rfl
 | some k =>
  refine .inr (fun e => ?_)
  obtain ⟨cells, hc⟩ := own_typed hR k hv
  obtain ⟨_, o, ho, hno⟩ := hr k e.symm
  rw [hc] at ho
  obtain rfl := Option.some.inj ho
  simp [Obj.isCells] at hno
theorem PsX.own (w : World) (W0 : Nat) (h6 : w.heap.size + 6 ≤ W0) (c : Code) : OwnFrom W0 (PsX w c) := by
 rintro s A B row ⟨h1, h2, c0, c1, hB⟩ hg hr
 have hr' : ∀ r, row = some r → w.heap.size + 6 ≤ r := fun r e => by have := (hr r e).1; omega
 exact ⟨h1, h2, grown_cells hg hr' (by omega) c0, grown_cells hg hr' (by omega) c1, hB.grown hg hB.size (fun k e => by have := hr' k e; omega)⟩
theorem PsI.ab (w : World) (s : List ByteArray) (A B : World) (h : PsI w s A) (hab : SpAb (w.heap.size + 3) A B) : PsI w s B := by
 obtain ⟨acc, v, h1, h2, c0, c1, c2, hR, hS6, hB⟩ := h
 obtain ⟨row, hg, hrow⟩ := hab
 have hr' : ∀ r, row = some r → w.heap.size + 3 ≤ r := fun r e => by
  rcases hrow with h | h
  ·rw [h] at e; cases e
  ·rw [h] at e; cases e; exact Nat.le_refl _
 refine ⟨acc, v, h1, h2, grown_cells hg hr' (by omega) c0, grown_cells hg hr' (by omega) c1, grown_cells hg hr' (by omega) c2, ?_, Nat.le_trans hS6 hg.size, hB.grown hg hB.size (fun k e => by have := hr' k e; omega)⟩
 refine hR.kept hg ?_
 cases hv : v.ownBlock with
 | none => exact .inl rfl
 | some k =>
  refine .inr (fun e => ?_)
  have hk := own_base hR k hv
  rcases hrow with h | h
  ·rw [h] at e; cases e
  ·rw [h] at e; cases e; omega

/-- the function's end behind the loop -/
theorem ps_end (w W : World) (D : Nat) (tmps : Array Value) (v : Value) (e : Int) {r1 : List S39} {r2 : Int}
  (t2 : tmps.getD 2 undef = .pointer (some ⟨w.heap.size, 0, none⟩)) (t3 : tmps.getD 3 undef = .pointer (some ⟨w.heap.size + 1, 0, none⟩)) (hD : w.heap.size + 6 ≤ D)
  (c0 : W.heap[w.heap.size]? = some (.cells #[v] 37 (0, 0))) (c1 : W.heap[w.heap.size + 1]? = some (.cells #[.int .i64 e] 52 (0, 0))) (hK : W.heap[D]? = some (.deferred (some [])))
  (he : e = r2) (hR : ∀ W', W.grownBy W' (some D) → Kd.R k39 39 W' w.heap.size (fun _ => True) v r1) (hB : Below w.heap.size w W) :
  bodyPostM Fence.wide 6 Tryd.prog Tryd.f16 (fun e w' => ∃ v0_ : Value, e = .returned (.tuple #[v0_, .int .i64 r2]) ∧ Kd.R k39 39 w' w.heap.size (fun _ => True) v0_ r1 ∧ Below w.heap.size w w')
   .ret { tmps := tmps, defers := [{ target := .collected D, args := #[] }] } W := by
 subst he
 refine ⟨by simp, .inl ⟨_, _, rfl, run_takeDeferred hK, ?_⟩⟩
 have q0 : (W.putObj D (.deferred none)).cell? ⟨w.heap.size, 0, none⟩ = some v := cell_of_block ((World.putObj_heap_other (by omega)).trans c0)
 have q1 : (W.putObj D (.deferred none)).cell? ⟨w.heap.size + 1, 0, none⟩ = some (.int .i64 e) := cell_of_block ((World.putObj_heap_other (by omega)).trans c1)
 refine ⟨.tuple #[v, .int .i64 e], ?_, v, rfl, hR _ (grownBy_putObj' W D _), hB.trans (belowK_b (w := w) (Nat.le_refl _) W D _ _ (by omega) hK rfl rfl)⟩
 have t2' : tmps[2]?.getD undef = .pointer (some ⟨w.heap.size, 0, none⟩) := by simpa using t2
 have t3' : tmps[3]?.getD undef = .pointer (some ⟨w.heap.size + 1, 0, none⟩) := by simpa using t3
 simp [results, Tryd.f16, go_sem, t2', t3', q0, q1]

set_option maxHeartbeats 4000000 in
set_option maxRecDepth 100000 in
theorem pairs_Parse.calls (a0 : ByteArray) (r1 : List (S39)) (r2 : Int) (w : World) (h : pairs_Parse.f a0 = some (r1, r2)) :
  Calls Tryd.prog 16 #[.string a0] w fun e w' => ∃ v0_ : Value, e = .returned (.tuple #[v0_, .int .i64 r2]) ∧ Kd.R k39 39 w' w.heap.size (fun _ => True) v0_ r1 ∧ Below w.heap.size w w' := by
 unfold pairs_Parse.f at h
 have H0 := Option.some.inj h
 clear h
 by_cases hlong : 4096 < a0.size
 ·rw [if_pos hlong] at H0
  simp only [Prod.mk.injEq] at H0
  obtain ⟨rfl, rfl⟩ := H0
  exact (parse_long a0 w hlong).mono fun e w' ⟨he, hb⟩ => ⟨_, he, Kd.R_nil _ _ _ _ _, hb⟩
 rw [if_neg hlong] at H0
 have H := Aside0.mk H0
 clear H0
 refine (callsIn_wide (n := 6)).1 ?_
 refine callsIn_of_wp_marks Tryd.func16 rfl trivial ?_ rfl
 simp only [Tryd.ntmps16, List.size_toArray, List.length_cons, List.length_nil, Nat.reduceAdd, Nat.reduceSub, Array.replicate_succ, Array.replicate_zero, List.push_toArray, List.append_toArray, List.nil_append, List.cons_append]
 have h' : ¬ ((4096 : Int) < (a0.size : Int)) := by omega
 gi_wp2_with (refine ⟨trivial, ?_⟩; gi_at_call 30; refine (callsIn_wide.2 (strings_SplitSeq_one _ _ _)).mono ?_; rintro e w' ⟨rfl, rfl⟩)
 have hs0 : a0.size ≤ 140737488355328 := by omega
 obtain ⟨W0, hW0⟩ : ∃ W0, ((((((w.alloc (Obj.cells #[Value.slice none 0 0] 37)).alloc (Obj.cells #[Value.int IntKind.i64 0] 52)).alloc (Obj.cells #[Value.slice none 0 0] 37)).alloc (Obj.cells #[Value.string a0] 9)).alloc (Obj.cells #[Value.string ⟨#[38]⟩] 9)).alloc (Obj.cells #[Value.int IntKind.i64 0] 3)) = W0 := ⟨_, rfl⟩
 rw [hW0]
 have hsz : W0.heap.size = w.heap.size + 6 := by rw [← hW0]; simp
 have hB0 : Below w.heap.size w W0 := by rw [← hW0]; exact below_alloc (below_alloc (below_alloc (below_alloc (below_alloc (below_alloc (Below.refl _ w) _) _) _) _) _) _
 have g0 : W0.heap[w.heap.size]? = some (.cells #[.slice none 0 0] 37 (0, 0)) := by rw [← hW0]; simp only [heap_alloc_at, World.size_alloc]; repeat (first | rw [if_neg (by omega)] | rw [if_pos (by omega)] | rw [if_pos trivial])
 have g1 : W0.heap[w.heap.size + 1]? = some (.cells #[.int .i64 0] 52 (0, 0)) := by rw [← hW0]; simp only [heap_alloc_at, World.size_alloc]; repeat (first | rw [if_neg (by omega)] | rw [if_pos (by omega)] | rw [if_pos trivial])
 have g2 : W0.heap[w.heap.size + 2]? = some (.cells #[.slice none 0 0] 37 (0, 0)) := by rw [← hW0]; simp only [heap_alloc_at, World.size_alloc]; repeat (first | rw [if_neg (by omega)] | rw [if_pos (by omega)] | rw [if_pos trivial])
 have g3 : SpOk (w.heap.size + 3) a0 38 W0 := by rw [← hW0]; refine ⟨?_, ?_, ?_⟩ <;> simp only [heap_alloc_at, World.size_alloc] <;> repeat (first | rw [if_neg (by omega)] | rw [if_pos (by omega)] | rw [if_pos trivial])
 clear hW0
 refine wpIn_rangeFunc_cell (α := ByteArray) (F := Fence.wide) rfl (by omega) (gf := 53) (lb := #[.pointer (some ⟨w.heap.size + 3 + 1, 0, none⟩), .pointer (some ⟨w.heap.size + 3, 0, none⟩), .pointer (some ⟨w.heap.size + 3 + 2, 0, none⟩)]) rfl trivial (enters_of Tryd.func53 (by kernel_rfl) rfl)
  (split_cell (6 - 1) (by omega) (w.heap.size + 3) a0 hs0 38)
  (fun W1 hb => ⟨(hb.block _ (by omega)).trans g3.1, (hb.block _ (by omega)).trans g3.2.1, (hb.block _ (by omega)).trans g3.2.2⟩)
  (fun A B hab l o hl ho => by
   obtain ⟨row, hg, hrow⟩ := hab
   refine (hg.block l (Array.getElem?_eq_some_iff.1 ho).1 (fun e => ?_)).trans ho
   rcases hrow with h | h
   ·rw [h] at e; cases e
   ·rw [h] at e; cases e; omega)
  (fun h k j hj => (k j hj).trans (h j hj))
  (fun W l o o' hl ho _ _ j hj => World.putObj_heap_other (by omega))
  (fun _ => rfl)
  (PsI w) (PsX w) (PsI.own w _ (by omega)) (fun c => PsX.own w _ (by omega) c) (fun s A B => PsI.ab w s A B)
  ⟨[], .slice none 0 0, rfl, Nat.le_refl _, g0, g1, g2, own_nil _ _ _ _, by omega, hB0⟩
  (fun x => { tmps := #[.string a0, undef, .pointer (some ⟨w.heap.size, 0, none⟩), .pointer (some ⟨w.heap.size + 1, 0, none⟩), .pointer (some ⟨w.heap.size + 1 + 1, 0, none⟩), .string x, undef, undef, .string a0, .int .i64 a0.size, .bool false, .string a0, .func (.func 53) #[] #[.pointer (some ⟨w.heap.size + 1 + 1 + 1 + 1, 0, none⟩), .pointer (some ⟨w.heap.size + 1 + 1 + 1, 0, none⟩), .pointer (some ⟨w.heap.size + 1 + 1 + 1 + 2, 0, none⟩)], .string x, undef, undef, undef, undef, undef, undef, undef, undef, undef, undef, undef, undef, undef, undef, undef, undef, undef, undef], defers := [] }) ?assign ?body ?done ?stop
 case assign =>
  intro l x W K hK
  gi_wp2
  exact hK
 case body =>
  rintro l pr x W ⟨acc, v, h1, h2, c0, c1, c2, hR, hS6, hB⟩ hV
  have HS6 := Aside0.mk hS6
  clear hS6
  have hx : x.size ≤ 140737488355328 := by
   have := spParts_sizes 38 a0 x (List.IsPrefix.subset hV (by simp))
   omega
  by_cases hz : x.size = 0
  ·obtain rfl : x = ⟨#[]⟩ := by apply bl_inj; apply List.eq_nil_of_length_eq_zero; rw [bl_length]; exact hz
   have hI : PsI w (pr ++ [⟨#[]⟩]) W := ⟨acc, v, by rw [formOf_snoc, h1]; rfl, by simp; omega, c0, c1, c2, hR, HS6.out, hB⟩
   have HI := Aside0.mk hI
   clear h1 h2 c0 c1 c2 hR hB hI hV hx hz g0 g1 g2 g3 hB0 hsz
   gi_wp2
   exact ⟨KeepsOthers.refl _, fun j _ => rfl, HI.out⟩
  ·have hnl : ¬ x.toList = [] := by
    intro e
    apply hz
    rw [← bl_length, ← toList_bl, e]; rfl
   have hne2 : x.toList.isEmpty = false := by simpa using hnl
   have hpf := pair_f x hx
   cases hp : pair1 x with
   | none =>
    rw [hp] at hpf
    have hX : formOf (pr ++ [x]) = none := by rw [formOf_snoc, h1]; unfold formStep; rw [if_neg hz, hp]; rfl
    have HX := Aside0.mk hX
    have HB := Aside0.mk hB
    have HPF := Aside0.mk hpf
    clear h1 h2 hR hB hV hx hz g0 g1 g2 g3 hB0 hsz hp hpf hX
    gi_wp2_with (fail)
    refine ⟨trivial, ?_⟩
    refine (CallsIn.inRound l (callsIn_wide.2 (pairs_pair.calls x _ _ _ _ HPF.out))).mono ?_
    rintro e w2 ⟨rfl, hb2⟩
    have hb3 := below_alloc hb2 (.cells #[.string ⟨#[]⟩, .string ⟨#[]⟩] 39)
    have d0 := (hb3.block _ (Array.getElem?_eq_some_iff.1 c0).1).trans c0
    have d1 := (hb3.block _ (Array.getElem?_eq_some_iff.1 c1).1).trans c1
    have k0 := cell_of_block d0
    have k1 := cell_of_block d1
    have f0 := free_of_block d0
    have f1 := free_of_block d1
    have D0 := Aside0.mk d0
    have D1 := Aside0.mk d1
    have HB3 := Aside0.mk hb3
    clear c0 c1 c2 d0 d1 hb2 hb3
    gi_wp2
    exact ⟨((KeepsOthers.of_grownBy (grown_of_below HB3.out none) (fun j o e => by cases e)).trans (KeepsOthers.setCell _ _ _)).trans (KeepsOthers.setCell _ _ _), rfl, HX.out, (set_other (by omega)).trans (set_block D0.out), set_block ((set_other (by omega)).trans D1.out), ((below_then HB.out HB.out.size HB3.out).setCell (p := ⟨w.heap.size, 0, none⟩) (Nat.le_refl _) _).setCell (p := ⟨w.heap.size + 1, 0, none⟩) (by simp) _⟩
   | some p =>
    rw [hp] at hpf
    have hS : formOf (pr ++ [x]) = some (acc ++ [p]) := by rw [formOf_snoc, h1]; unfold formStep; rw [if_neg hz, hp]; rfl
    have hlen : acc.length ≤ 4096 := by
     have := hV.length_le
     have h3 := spParts_length 38 a0
     simp only [List.length_append, List.length_cons, List.length_nil] at this
     omega
    have HS := Aside0.mk hS
    have HB := Aside0.mk hB
    have HR := Aside0.mk hR
    have HPF := Aside0.mk hpf
    clear h1 hB hR hV hx hz g0 g1 g2 g3 hB0 hsz hp hpf hS
    gi_wp2_with (fail)
    refine ⟨trivial, ?_⟩
    refine (CallsIn.inRound l (callsIn_wide.2 (pairs_pair.calls x _ _ _ _ HPF.out))).mono ?_
    rintro e w2 ⟨rfl, hb2⟩
    have hb3 := below_alloc hb2 (.cells #[.string p.f0, .string p.f1] 39)
    have d0 := (hb3.block _ (Array.getElem?_eq_some_iff.1 c0).1).trans c0
    have d1 := (hb3.block _ (Array.getElem?_eq_some_iff.1 c1).1).trans c1
    have d2 := (hb3.block _ (Array.getElem?_eq_some_iff.1 c2).1).trans c2
    have k2 := cell_of_block d2
    have D0 := Aside0.mk d0
    have D1 := Aside0.mk d1
    have D2 := Aside0.mk d2
    have HR3 := Aside0.mk (pw_own_below HR.out hb3)
    have HB3 := Aside0.mk hb3
    have HS3 := Aside0.mk (HB.out.size)
    obtain ⟨i0, hi, hzz⟩ := Option.map_eq_some_iff.1 info39
    simp only [Prod.mk.injEq] at hzz
    obtain ⟨hz0, hz1, hz2⟩ := hzz
    have HI0 := Aside0.mk hi
    have HZ0 := Aside0.mk hz0
    have HZ1 := Aside0.mk hz1
    have HZ2 := Aside0.mk hz2
    have hsz3 : w.heap.size + 6 ≤ W.heap.size := by
     have := HS6.out; omega
    clear c0 c1 c2 d0 d1 d2 hb2 hb3 hi hz0 hz1 hz2
    gi_wp2_with (gi_at_builtin; refine wpListIn_append_own _ rfl _ _ 37 rfl (w.heap.size + 6) 39 i0 _ 2 32 Tryd.underlying37 HI0.out HZ0.out HZ1.out HZ2.out rfl (by decide) v acc.length (flatP acc) rfl (HR3.out.alloc _) ⟨w2.heap.size + 1, 0, none⟩ 1 1 [.string p.f0, .string p.f1] rfl rfl ?c1 ?c2 ?c3 ?c4 ?c5 ?_)
    case c1 =>
     have hnb := World.news_of_block (cs := #[.string p.f0, .string p.f1]) (t := 39) (fr := (0, 0)) (heap_alloc_new (w2.alloc (.cells #[.string p.f0, .string p.f1] 39)) (.cells #[.string p.f0, .string p.f1] 39))
     rw [World.size_alloc] at hnb
     exact hnb
    case c2 => intro u hu; simp at hu; rcases hu with rfl | rfl <;> rfl
    case c3 => unfold maxLen; omega
    case c4 => omega
    case c5 => have := HB3.out.size; simp at this ⊢; omega
    intro v' w4 hown' hgrow _
    obtain ⟨g, cap, hv'⟩ : ∃ g cap, v' = .slice (some ⟨g, 0, none⟩) (acc.length + 1) cap := by
     rcases hown'.2 with ⟨_, h0⟩ | ⟨g, cap, cur, hv, _⟩
     ·omega
     ·exact ⟨g, cap, hv⟩
    have hgr : ∀ r, v.ownBlock = some r → w.heap.size + 6 ≤ r := fun r e => own_base HR.out r e
    have hga : (w2.alloc (.cells #[.string p.f0, .string p.f1] 39)).grownBy w4 v.ownBlock := World.grownBy.trans (World.grownBy_alloc _ _ _) hgrow
    have e0 := grown_cells (n := w.heap.size + 6) hga hgr (by omega) D0.out
    have e1 := grown_cells (n := w.heap.size + 6) hga hgr (by omega) D1.out
    have e2 := grown_cells (n := w.heap.size + 6) hga hgr (by omega) D2.out
    have hko : KeepsOthers W w4 := (KeepsOthers.of_grownBy (grown_of_below HB3.out none) (fun j o e => by cases e)).trans (KeepsOthers.of_grownBy hga (fun j o e ho => by
     obtain ⟨cells, hc⟩ := own_typed HR3.out j e
     rw [hc] at ho
     obtain rfl := Option.some.inj ho
     rfl))
    have hkp : ∀ j, j < 3 → w4.heap[w.heap.size + 3 + j]? = W.heap[w.heap.size + 3 + j]? := fun j hj => by
     have h1 := HB3.out.block (w.heap.size + 3 + j) (by omega)
     rw [← h1]
     refine hga.block _ (by have := HB3.out.size; omega) (fun e => ?_)
     have := hgr _ e.symm
     omega
    have hB4 : Below w.heap.size w w4 := (below_then HB.out HB.out.size HB3.out).grown hga (by have := HB3.out.size; omega) (fun k e => by have := hgr k e; omega)
    have hs4 : w.heap.size + 6 ≤ w4.heap.size := by have := HB3.out.size; have := hga.size; omega
    have E0 := Aside0.mk e0
    have E1 := Aside0.mk e1
    have E2 := Aside0.mk e2
    have KO := Aside0.mk hko
    have KP := Aside0.mk hkp
    have B4 := Aside0.mk hB4
    have O4 := Aside0.mk hown'
    have m2 := cell_of_block e2
    have f2 := free_of_block e2
    have HV := Aside0.mk hv'
    rw [hv']
    clear e0 e1 e2 hko hkp hB4 hown' hgrow hga hgr hv' k2
    gi_wp2
    have O5 := O4.out
    rw [HV.out] at O5
    refine ⟨KO.out.trans (KeepsOthers.setCell _ _ _), fun j hj => (set_other (by omega)).trans (KP.out j hj), acc ++ [p], _, HS.out, by simp; omega, (set_other (by omega)).trans E0.out, (set_other (by omega)).trans E1.out, set_block E2.out, ?_, by simpa [World.setCell] using hs4, B4.out.setCell (p := ⟨w.heap.size + 1 + 1, 0, none⟩) (by simp; omega) _⟩
    rw [flatP_snoc, List.length_append]
    refine O5.kept (grown_store w4 (w.heap.size + 1 + 1) _) (.inr (fun e => ?_))
    have := own_base O5 _ e
    omega
 case done =>
  rintro D xs W hD rfl ⟨acc, v, h1, h2, c0, c1, c2, hR, hS6, hB⟩ hK
  obtain ⟨A, cp, rfl⟩ := own_slice hR
  have H1 := Aside0.mk h1
  have HR := Aside0.mk hR
  have HB := Aside0.mk hB
  have HK := Aside0.mk hK
  have C0 := Aside0.mk c0
  have C1 := Aside0.mk c1
  have k0 := cell_of_block c0
  have k1 := cell_of_block c1
  have k2 := cell_of_block c2
  have f0 := free_of_block c0
  have f1 := free_of_block c1
  have HD := Aside0.mk (show w.heap.size + 6 ≤ D by omega)
  clear h1 h2 c0 c1 c2 hR hB hK hS6 hD g0 g1 g2 g3 hB0 hsz
  by_cases h64 : 64 < acc.length
  ·have h64' : (64 : Int) < (acc.length : Int) := by omega
   gi_wp2
   refine ps_end w _ D _ (.slice none 0 0) 3 rfl rfl HD.out (set_other (by omega) |>.trans (set_block C0.out)) (set_block ((set_other (by omega)).trans C1.out)) ((KeepsOthers.setCell _ _ _).same D _ ((KeepsOthers.setCell _ _ _).same D _ HK.out rfl) rfl) ?_ ?_ ?_
   ·have := H.out; rw [H1.out] at this; simp only [h64, if_true, Prod.mk.injEq] at this; exact this.2
   ·intro W' hb
    have := H.out; rw [H1.out] at this; simp only [h64, if_true, Prod.mk.injEq] at this
    rw [← this.1]
    exact Kd.R_nil _ _ _ _ _
   ·exact (HB.out.setCell (p := ⟨w.heap.size, 0, none⟩) (Nat.le_refl _) _).setCell (p := ⟨w.heap.size + 1, 0, none⟩) (by simp) _
  ·have h64' : ¬ (64 : Int) < (acc.length : Int) := by omega
   gi_wp2
   refine ps_end w _ D _ (.slice A acc.length cp) 0 rfl rfl HD.out (set_other (by omega) |>.trans (set_block C0.out)) (set_block ((set_other (by omega)).trans C1.out)) ((KeepsOthers.setCell _ _ _).same D _ ((KeepsOthers.setCell _ _ _).same D _ HK.out rfl) rfl) ?_ ?_ ?_
   ·have := H.out; rw [H1.out] at this; simp only [h64, if_false, Prod.mk.injEq] at this; exact this.2
   ·intro W' hb
    have := H.out; rw [H1.out] at this; simp only [h64, if_false, Prod.mk.injEq] at this
    rw [← this.1]
    refine own_pairs (base := w.heap.size + 6) ?_ (by omega)
    refine World.ownsRow.kept ?_ hb ?_
    ·refine World.ownsRow.kept (World.ownsRow.kept HR.out (grown_store _ _ _) (.inr (fun e => ?_))) (grown_store _ _ _) (.inr (fun e => ?_))
     ·have := own_base HR.out _ e; omega
     ·have := own_base HR.out _ e; omega
    ·cases hv : (Value.slice A acc.length cp).ownBlock with
     | none => exact .inl rfl
     | some k =>
      refine .inr (fun e => ?_)
      obtain ⟨cells, hc⟩ := own_typed HR.out k hv
      cases e
      rw [HK.out] at hc
      cases hc
   ·exact (HB.out.setCell (p := ⟨w.heap.size, 0, none⟩) (Nat.le_refl _) _).setCell (p := ⟨w.heap.size + 1, 0, none⟩) (by simp) _
 case stop =>
  rintro D c pr W hD hpre ⟨rfl, hf, c0, c1, hB⟩ hK
  have hN := formOf_none hf hpre
  have HD := Aside0.mk (show w.heap.size + 6 ≤ D by omega)
  gi_wp2
  refine ps_end w _ D _ (.slice none 0 0) 2 rfl rfl HD.out c0 c1 hK ?_ ?_ hB
  ·have := H.out; rw [hN] at this; simp only [Prod.mk.injEq] at this; exact this.2
  ·intro W' hb
   have := H.out; rw [hN] at this; simp only [Prod.mk.injEq] at this
   rw [← this.1]
   exact Kd.R_nil _ _ _ _ _
end Go.Proofs.YtmhaaggmfgojbaaDoor.X

/-! X8 -/
-- Lean text made by xprint.py (ours) out of the seat's translation. Lean checks it.
namespace Go.Proofs.YtmhaaggmfgojbaaDoor.X
open Go.RowKit Go.Proofs.YtmhaaggmfgojbaaDoorW.PrintWords Go.Proofs.YtmhaaggmfgojbaaDoorW.PrintLast Go.Proofs.YtmhaaggmfgojbaaDoorW.PrintMore
attribute [local go_sem] max2_int min2_int max_two min_two max_three min_three max_four min_four   -- for this text's walks alone
set_option linter.unusedVariables false
set_option linter.unusedSimpArgs false

/-! ### pkce_Good: function 40 -/
def pkce_Good.f (a0 : ByteArray) : Option (Bool) := (text_Decode.f a0).bind fun bt116 => (if bt116.2 = 0 then (some ((bt116.1.size : Int) == 32)) else (some false))
set_option maxHeartbeats 8000000 in
set_option maxRecDepth 100000 in
theorem pkce_Good.calls (a0 : ByteArray) (r : Bool) (w : World) (h : pkce_Good.f a0 = some r) :
  Calls Tryd.prog 40 #[.string a0] w fun e w' => e = .returned (.bool r) ∧ Below w.heap.size w w' := by
 have HB := Aside0.mk (Below.refl w.heap.size w)
 have H : ((text_Decode.f a0).bind fun bt116 => (if bt116.2 = 0 then (some ((bt116.1.size : Int) == 32)) else (some false))) = some r := h
 clear h
 replace H := Option.bind_eq_some_iff.mp H
 obtain ⟨⟨t116, t117⟩, A20, H⟩ := H
 replace H : (if t117 = 0 then (some ((t116.size : Int) == 32)) else (some false)) = some r := H
 have A2 := Aside0.mk A20
 clear A20
 by_cases c3 : t117 = 0
 ·rw [if_pos c3] at H
  have c3b0 : (t117 == 0) = true := beq_iff_eq.mpr c3
  have c3b1 : (t117 != 0) = false := bne_eq_false_iff_eq.mpr c3
  clear c3
  obtain rfl := Option.some.inj H
  go_enter Tryd.func40, Tryd.ntmps40
  go_wp2_with (first | ((with_reducible refine gate_callee (f := 50) rfl ?_); refine goesL_ (some 7) rfl rfl Tryd.func50 (by kernel_rfl) rfl #[.string a0] rfl (by (try simp only [List.map_toArray, List.map_cons, List.map_nil]); first | done | rfl | (simp only [List.length_drop, List.length_take]; rfl)) ?_; (with_reducible refine (text_Decode.calls a0 t116 t117 _ A2.out).mono ?_); rintro e w4 ⟨rfl, hb⟩; refine ⟨_, rfl, ?_⟩; have n0_ := Aside0.mk (below_step (by repeat (first | (with_reducible first | exact HB.out | apply below_alloc | apply pw_below_drewN | apply below_drew1) | exact HB.out)) hb); clear HB; have HB := n0_; clear n0_; (try clear hb); (try clear hb2); (try clear hk); (try clear hi)))
  go_ret
  first | (exact ⟨by first | rfl | (simp [errW_none, errW_some] <;> rfl) | (simp [*, errW_none, errW_some] <;> rfl), by repeat (first | (with_reducible first | exact HB.out | apply below_alloc | apply pw_below_drewN | apply below_drew1) | exact HB.out)⟩) | (focus (exfalso; simp_all; done))
  all_goals (first | (exfalso; simp_all <;> omega) | (go_ret; exact ⟨by first | rfl | (simp [errW_none, errW_some] <;> rfl) | (simp [*, errW_none, errW_some] <;> rfl), by repeat (first | (with_reducible first | exact HB.out | apply below_alloc | apply pw_below_drewN | apply below_drew1) | exact HB.out)⟩))
 ·rw [if_neg c3] at H
  have c3b0 : (t117 == 0) = false := beq_eq_false_iff_ne.mpr c3
  have c3b1 : (t117 != 0) = true := bne_iff_ne.mpr c3
  obtain rfl := Option.some.inj H
  go_enter Tryd.func40, Tryd.ntmps40
  go_wp2_with (first | ((with_reducible refine gate_callee (f := 50) rfl ?_); refine goesL_ (some 7) rfl rfl Tryd.func50 (by kernel_rfl) rfl #[.string a0] rfl (by (try simp only [List.map_toArray, List.map_cons, List.map_nil]); first | done | rfl | (simp only [List.length_drop, List.length_take]; rfl)) ?_; (with_reducible refine (text_Decode.calls a0 t116 t117 _ A2.out).mono ?_); rintro e w5 ⟨rfl, hb⟩; refine ⟨_, rfl, ?_⟩; have n0_ := Aside0.mk (below_step (by repeat (first | (with_reducible first | exact HB.out | apply below_alloc | apply pw_below_drewN | apply below_drew1) | exact HB.out)) hb); clear HB; have HB := n0_; clear n0_; (try clear hb); (try clear hb2); (try clear hk); (try clear hi)))
  go_ret
  first | (exact ⟨by first | rfl | (simp [errW_none, errW_some] <;> rfl) | (simp [*, errW_none, errW_some] <;> rfl), by repeat (first | (with_reducible first | exact HB.out | apply below_alloc | apply pw_below_drewN | apply below_drew1) | exact HB.out)⟩) | (focus (exfalso; simp_all; done))
  all_goals (first | (exfalso; simp_all <;> omega) | (go_ret; exact ⟨by first | rfl | (simp [errW_none, errW_some] <;> rfl) | (simp [*, errW_none, errW_some] <;> rfl), by repeat (first | (with_reducible first | exact HB.out | apply below_alloc | apply pw_below_drewN | apply below_drew1) | exact HB.out)⟩))

-- NOT PRINTED: function 22 (ask_problem)

end Go.Proofs.YtmhaaggmfgojbaaDoor.X

/-! HAskP -/
namespace Go.Proofs.YtmhaaggmfgojbaaDoor.X
open Go.RowKit Go.Proofs.YtmhaaggmfgojbaaDoorW.PrintWords Go.Proofs.YtmhaaggmfgojbaaDoorW.PrintLast Go.Proofs.YtmhaaggmfgojbaaDoorW.PrintMore Go.Proofs.YtmhaaggmfgojbaaDoor.Spec
set_option linter.unusedVariables false
set_option linter.unusedSimpArgs false

/-! what is asked of a list of texts -/
def hasT (x : ByteArray) (l : List ByteArray) : Bool := l.any fun y => x.toList == y.toList
theorem index_from (l : List ByteArray) (x : ByteArray) (hl : l.length ≤ 4611686018427387904) : ∀ n i, i + n = l.length → Ev (fun k => slices_Index_string_string.l0 k l x (l.length : Int) (i : Int)) (if hasT x (l.drop i) then ((i + (l.drop i).findIdx (fun y => x.toList == y.toList) : Nat) : Int) else -1) := by
 intro n
 induction n with
 | zero =>
  intro i hi
  refine Ev.step (fun k => by rw [slices_Index_string_string.l0]) ?_
  refine Ev.if_neg (by omega) ?_
  rw [List.drop_of_length_le (by omega)]
  exact Ev.some _
 | succ n ih =>
  intro i hi
  have hlt : i < l.length := by omega
  refine Ev.step (fun k => by rw [slices_Index_string_string.l0]) ?_
  refine Ev.if_pos (by omega) (Ev.if_pos (by omega) (Ev.if_pos (by omega) ?_))
  have hr : rdOf ByteArray.empty l (i : Int) = l[i] := by simp [rdOf, hlt]
  rw [hr]
  have hd : l.drop i = l[i] :: l.drop (i + 1) := List.drop_eq_getElem_cons hlt
  by_cases h : x.toList = l[i].toList
  ·refine Ev.if_pos h ?_
   have hb : (x.toList == l[i].toList) = true := beq_iff_eq.2 h
   have h1 : hasT x (l.drop i) = true := by unfold hasT; rw [hd, List.any_cons, hb, Bool.true_or]
   have h2 : (l.drop i).findIdx (fun y => x.toList == y.toList) = 0 := by rw [hd, List.findIdx_cons, hb]; rfl
   rw [h1, h2]
   exact Ev.some _
  ·refine Ev.if_neg h ?_
   rw [w64 (by omega) (by omega), show ((i : Int) + 1) = ((i + 1 : Nat) : Int) from by omega]
   refine (ih (i + 1) (by omega)).uni ?_
   have hb : (x.toList == l[i].toList) = false := beq_eq_false_iff_ne.2 h
   have h1 : hasT x (l.drop i) = hasT x (l.drop (i + 1)) := by unfold hasT; rw [hd, List.any_cons, hb, Bool.false_or]
   have h2 : (l.drop i).findIdx (fun y => x.toList == y.toList) = (l.drop (i + 1)).findIdx (fun y => x.toList == y.toList) + 1 := by rw [hd, List.findIdx_cons, hb]; rfl
   rw [h1, h2]
   split
   ·omega
   ·rfl
theorem contains_f (l : List ByteArray) (x : ByteArray) (hl : l.length ≤ 4611686018427387904) : Ev (fun k => slices_Contains_string_string.f k l x) (hasT x l) := by
 unfold slices_Contains_string_string.f slices_Index_string_string.f
 refine Ev.bind (index_from l x hl l.length 0 (by omega)) ?_
 rw [List.drop_zero]
 refine (Ev.some _).uni ?_
 cases h : hasT x l
 ·simp
 ·simp

def goodC (c : ByteArray) : Bool := (decR (bl c)).2 && decide ((decR (bl c)).1.length = 32)
theorem good_f (c : ByteArray) (h : c.size ≤ 35184372088832) : pkce_Good.f c = some (goodC c) := by
 unfold pkce_Good.f text_Decode.f goodC
 rw [if_pos h, Option.bind_some]
 cases hc : (decR (bl c)).2
 ·simp
 ·simp [size_ba]
  rw [Bool.eq_iff_iff]; simp; omega

/-! a key's value -/
def askGet (l : List S39) (key : ByteArray) : ByteArray := if idxOf (fun x => x.f0.toList == key.toList) l < 0 then ⟨#[]⟩ else (rd_T39 l (idxOf (fun x => x.f0.toList == key.toList) l)).f1
theorem askGet_f (l : List S39) (key : ByteArray) : ∃ b, pairs_Get.f l key = some (askGet l key, b) := by
 unfold pairs_Get.f askGet
 split
 ·exact ⟨_, rfl⟩
 ·exact ⟨_, rfl⟩
set_option maxHeartbeats 2000000 in
set_option maxRecDepth 100000 in
theorem ask_get (l : List S39) (key : ByteArray) (A : Option Addr) (c g : Nat) (w : World) (hr : Kd.C k39 w A l.length l) (hc : l.length ≤ c) (hg : w.cell? ⟨g, 0, none⟩ = some (.slice A l.length c)) :
  Calls Tryd.prog 18 #[.string key, .pointer (some ⟨g, 0, none⟩)] w fun e w' => e = .returned (.string (askGet l key)) ∧ Below w.heap.size w w' := by
 obtain ⟨b, hf⟩ := askGet_f l key
 have HF := Aside0.mk (pairs_Get.calls A c l key (askGet l key) b w hr hc hf)
 clear hf hr
 go_enter Tryd.func18, Tryd.ntmps18
 go_wp2_with fail
 refine HF.out.mono ?_
 rintro e w2 ⟨rfl, hb2⟩
 have HB2 := Aside0.mk hb2
 clear hb2
 go_wp2
 go_ret
 exact ⟨rfl, HB2.out⟩

attribute [local go_sem] max2_int max_three
/-- of what the client can be told -/
def askProblem (st no sc ch : ByteArray) (l : List S39) : ByteArray :=
  if (askGet l ⟨#[114, 101, 115, 112, 111, 110, 115, 101, 95, 116, 121, 112, 101]⟩).toList ≠ [99, 111, 100, 101] then ⟨#[117, 110, 115, 117, 112, 112, 111, 114, 116, 101, 100, 95, 114, 101, 115, 112, 111, 110, 115, 101, 95, 116, 121, 112, 101]⟩
  else if (askGet l ⟨#[99, 111, 100, 101, 95, 99, 104, 97, 108, 108, 101, 110, 103, 101, 95, 109, 101, 116, 104, 111, 100]⟩).toList ≠ [83, 50, 53, 54] ∨ goodC ch = false then ⟨#[105, 110, 118, 97, 108, 105, 100, 95, 114, 101, 113, 117, 101, 115, 116]⟩
  else if hasT ⟨#[111, 112, 101, 110, 105, 100]⟩ ((splitL 32 (bl sc)).map ba) = false then ⟨#[105, 110, 118, 97, 108, 105, 100, 95, 115, 99, 111, 112, 101]⟩
  else if 256 < st.size ∨ 256 < no.size ∨ 256 < sc.size then ⟨#[105, 110, 118, 97, 108, 105, 100, 95, 114, 101, 113, 117, 101, 115, 116]⟩
  else ⟨#[]⟩
set_option maxHeartbeats 8000000 in
set_option maxRecDepth 100000 in
theorem ask_problem (cl re st no sc ch : ByteArray) (l : List S39) (A : Option Addr) (c g : Nat) (w : World) (hr : Kd.C k39 w A l.length l) (hc : l.length ≤ c) (hg : w.cell? ⟨g, 0, none⟩ = some (.slice A l.length c))
  (hG : GOK w) (hsc : sc.size < 4294967281) (hch : ch.size ≤ 35184372088832) (hst : st.size ≤ 4611686018427387904) (hno : no.size ≤ 4611686018427387904) :
  Calls Tryd.prog 22 #[.agg #[.string cl, .string re, .string st, .string no, .string sc, .string ch], .func (.func 18) #[] #[.pointer (some ⟨g, 0, none⟩)]] w fun e w' => e = .returned (.string (askProblem st no sc ch l)) ∧ Below w.heap.size w w' := by
 have hu := Tryd.underlying30
 have hgb : g < w.heap.size := World.block_lt_of_cell? w _ hg
 have HR := Aside0.mk hr
 have HG := Aside0.mk hg
 have HGK := Aside0.mk hG
 obtain ⟨ws, hws⟩ : ∃ ws, ws = (splitL 32 (bl sc)).map ba := ⟨_, rfl⟩
 have hlen : ws.length ≤ 4611686018427387904 := by
  have h1 := splitL_length 32 (bl sc)
  rw [bl_length] at h1
  rw [hws, List.length_map]
  omega
 obtain ⟨res, hres⟩ : ∃ r, r = askProblem st no sc ch l := ⟨_, rfl⟩
 rw [← hres]
 unfold askProblem at hres
 rw [← hws] at hres
 have HW := Aside0.mk hws
 clear hws
 have HP := Aside0.mk hres
 clear hr hg hG hres
 go_enter Tryd.func22, Tryd.ntmps22
 go_wp2_with fail
 have hsf : strings_Split.f sc ⟨#[32]⟩ = some ws := by
  rw [HW.out]
  unfold strings_Split.f
  rw [if_pos ⟨hsc, rfl⟩]; rfl
 refine (strings_Split.calls sc ⟨#[32]⟩ _ _ hsf (GOK.below HGK.out (below_alloc (Below.refl _ _) _))).mono ?_
 rintro e w2 ⟨v2, rfl, hr2, hb2⟩
 have B2 := Aside0.mk (below_then (below_alloc (Below.refl _ w) (.cells #[.string cl, .string re, .string st, .string no, .string sc, .string ch] 30)) (by simp) hb2)
 have BK := Aside0.mk (blk_below (blk_new w (.cells #[.string cl, .string re, .string st, .string no, .string sc, .string ch] 30)) hb2)
 have hq := Kd.R_reads hr2
 obtain ⟨A2, c2, rfl, hl2, hC2⟩ := hq
 have HC2 := Aside0.mk hC2
 obtain ⟨kc, hkc⟩ := (contains_f ws ⟨#[111, 112, 101, 110, 105, 100]⟩ hlen).get
 have HKC := Aside0.mk hkc
 have HGd := Aside0.mk (good_f ch hch)
 clear hr2 hb2 hC2 hsf hkc hlen
 have hw2 : w.heap.size ≤ w2.heap.size := B2.out.size
 have HA := Aside0.mk (fun (key : ByteArray) (W : World) (hb : Below w.heap.size w W) => ask_get l key A c g W (Kd.C_below HR.out hb) hc ((hb.cell (p := ⟨g, 0, none⟩) hgb).trans HG.out))
 go_wp2_with fail
 refine (HA.out _ w2 B2.out).mono ?_
 generalize askGet l ⟨#[114, 101, 115, 112, 111, 110, 115, 101, 95, 116, 121, 112, 101]⟩ = t1 at HP
 rintro e w3 ⟨rfl, hb3⟩
 have B3 := Aside0.mk (below_then B2.out hw2 hb3)
 have BK3 := Aside0.mk (blk_below BK.out hb3)
 have HC3 := Aside0.mk (Kd.C_below HC2.out hb3)
 have hw3 : w.heap.size ≤ w3.heap.size := B3.out.size
 clear hb3
 by_cases q1 : t1.toList = [99, 111, 100, 101]
 ·have q1b : (t1.toList == [99, 111, 100, 101]) = true := beq_iff_eq.mpr q1
  rw [if_neg (fun h => h q1)] at HP
  clear q1
  go_wp2_with fail
  refine (HA.out _ w3 B3.out).mono ?_
  generalize askGet l ⟨#[99, 111, 100, 101, 95, 99, 104, 97, 108, 108, 101, 110, 103, 101, 95, 109, 101, 116, 104, 111, 100]⟩ = t2 at HP
  rintro e w4 ⟨rfl, hb4⟩
  have B4 := Aside0.mk (below_then B3.out hw3 hb4)
  have BK4 := Aside0.mk (blk_below BK3.out hb4)
  have HC4 := Aside0.mk (Kd.C_below HC3.out hb4)
  have hw4 : w.heap.size ≤ w4.heap.size := B4.out.size
  clear hb4
  have d5 : w4.cell? ⟨w.heap.size, 5, none⟩ = some (.string ch) := (blk_cell BK4.out 5).trans rfl
  by_cases q2 : t2.toList = [83, 50, 53, 54]
  ·have q2b : (t2.toList == [83, 50, 53, 54]) = true := beq_iff_eq.mpr q2
   go_wp2_with fail
   refine (pkce_Good.calls ch _ _ HGd.out).mono ?_
   generalize goodC ch = gd at HP
   rintro e w5 ⟨rfl, hb5⟩
   have B5 := Aside0.mk (below_then B4.out hw4 hb5)
   have BK5 := Aside0.mk (blk_below BK4.out hb5)
   have HC5 := Aside0.mk (Kd.C_below HC4.out hb5)
   have hw5 : w.heap.size ≤ w5.heap.size := B5.out.size
   clear hb5
   cases gd with
   | false =>
    have HP2 := Aside0.mk (HP.out.trans (if_pos (Or.inr rfl)))
    clear HP q2
    go_wp2
    go_ret
    exact ⟨by rw [HP2.out]; rfl, B5.out⟩
   | true =>
    have HP2 := Aside0.mk (HP.out.trans (if_neg (by rintro (h | h); exact h q2; cases h)))
    clear HP q2
    go_wp2_with fail
    refine (slices_Contains_string_string.calls kc A2 c2 ws ⟨#[111, 112, 101, 110, 105, 100]⟩ _ w5 HC5.out hl2 HKC.out).mono ?_
    generalize hasT ⟨#[111, 112, 101, 110, 105, 100]⟩ ws = hs at HP2
    rintro e w6 ⟨rfl, ⟨n6, rfl⟩⟩
    cases hs with
    | false =>
     have HP3 := Aside0.mk (HP2.out.trans (if_pos rfl))
     clear HP2
     go_wp2
     go_ret
     exact ⟨by rw [HP3.out]; rfl, pw_below_drewN B5.out _⟩
    | true =>
     have HP3 := Aside0.mk (HP2.out.trans (if_neg (by simp)))
     have d2 : w5.cell? ⟨w.heap.size, 2, none⟩ = some (.string st) := (blk_cell BK5.out 2).trans rfl
     have d3 : w5.cell? ⟨w.heap.size, 3, none⟩ = some (.string no) := (blk_cell BK5.out 3).trans rfl
     have d4 : w5.cell? ⟨w.heap.size, 4, none⟩ = some (.string sc) := (blk_cell BK5.out 4).trans rfl
     clear HP2
     by_cases q5 : 256 < st.size ∨ 256 < no.size ∨ 256 < sc.size
     ·have HP4 := Aside0.mk (HP3.out.trans (if_pos q5))
      have Q5 := Aside0.mk q5
      clear HP3 q5
      go_wp2
      all_goals (first | (exfalso; have := Q5.out; omega) | (go_ret; exact ⟨by rw [HP4.out]; rfl, pw_below_drewN B5.out _⟩))
     ·have HP4 := Aside0.mk (HP3.out.trans (if_neg q5))
      have Q5 := Aside0.mk q5
      clear HP3 q5
      go_wp2
      all_goals (first | (exfalso; have := Q5.out; omega) | (go_ret; exact ⟨by rw [HP4.out]; rfl, pw_below_drewN B5.out _⟩))
  ·have q2b : (t2.toList == [83, 50, 53, 54]) = false := beq_eq_false_iff_ne.mpr q2
   have HP2 := Aside0.mk (HP.out.trans (if_pos (Or.inl q2)))
   clear HP q2
   go_wp2
   go_ret
   exact ⟨by rw [HP2.out]; rfl, B4.out⟩
 ·have q1b : (t1.toList == [99, 111, 100, 101]) = false := beq_eq_false_iff_ne.mpr q1
  rw [if_pos q1] at HP
  clear q1
  go_wp2
  go_ret
  exact ⟨by rw [HP.out]; rfl, B3.out⟩
end Go.Proofs.YtmhaaggmfgojbaaDoor.X

/-! HAsk -/
namespace Go.Proofs.YtmhaaggmfgojbaaDoor.X
open Go.RowKit Go.Proofs.YtmhaaggmfgojbaaDoorW.PrintWords Go.Proofs.YtmhaaggmfgojbaaDoorW.PrintLast Go.Proofs.YtmhaaggmfgojbaaDoorW.PrintMore Go.Proofs.YtmhaaggmfgojbaaDoor.Spec
set_option linter.unusedVariables false
set_option linter.unusedSimpArgs false

abbrev Ask6 := ByteArray × ByteArray × ByteArray × ByteArray × ByteArray × ByteArray × ByteArray × Bool
def askNo (why : ByteArray) : Ask6 := (⟨#[]⟩, ⟨#[]⟩, ⟨#[]⟩, ⟨#[]⟩, ⟨#[]⟩, ⟨#[]⟩, why, false)
/-- of a client that is found, and pairs of which none stands twice -/
def askOf (id : ByteArray) (tos : List ByteArray) (l : List S39) : Option Ask6 :=
  if hasT (askGet l ⟨#[114, 101, 100, 105, 114, 101, 99, 116, 95, 117, 114, 105]⟩) tos = false then some (askNo ⟨#[105, 110, 118, 97, 108, 105, 100, 95, 114, 101, 113, 117, 101, 115, 116]⟩)
  else if (askGet l ⟨#[115, 116, 97, 116, 101]⟩).size ≤ 1073741824 ∧ (askGet l ⟨#[110, 111, 110, 99, 101]⟩).size ≤ 1073741824 ∧ (askGet l ⟨#[115, 99, 111, 112, 101]⟩).size ≤ 1073741824 ∧ (askGet l ⟨#[99, 111, 100, 101, 95, 99, 104, 97, 108, 108, 101, 110, 103, 101]⟩).size ≤ 1073741824 then
    (if (askProblem (askGet l ⟨#[115, 116, 97, 116, 101]⟩) (askGet l ⟨#[110, 111, 110, 99, 101]⟩) (askGet l ⟨#[115, 99, 111, 112, 101]⟩) (askGet l ⟨#[99, 111, 100, 101, 95, 99, 104, 97, 108, 108, 101, 110, 103, 101]⟩) l).toList = [] then some (id, askGet l ⟨#[114, 101, 100, 105, 114, 101, 99, 116, 95, 117, 114, 105]⟩, askGet l ⟨#[115, 116, 97, 116, 101]⟩, askGet l ⟨#[110, 111, 110, 99, 101]⟩, askGet l ⟨#[115, 99, 111, 112, 101]⟩, askGet l ⟨#[99, 111, 100, 101, 95, 99, 104, 97, 108, 108, 101, 110, 103, 101]⟩, ⟨#[]⟩, false)
     else some (id, askGet l ⟨#[114, 101, 100, 105, 114, 101, 99, 116, 95, 117, 114, 105]⟩, if 256 < (askGet l ⟨#[115, 116, 97, 116, 101]⟩).size then ⟨#[]⟩ else askGet l ⟨#[115, 116, 97, 116, 101]⟩, ⟨#[]⟩, ⟨#[]⟩, ⟨#[]⟩, askProblem (askGet l ⟨#[115, 116, 97, 116, 101]⟩) (askGet l ⟨#[110, 111, 110, 99, 101]⟩) (askGet l ⟨#[115, 99, 111, 112, 101]⟩) (askGet l ⟨#[99, 111, 100, 101, 95, 99, 104, 97, 108, 108, 101, 110, 103, 101]⟩) l, true))
  else none
def ask_Check.f (a0_0 a0_1 a0_2 : ByteArray) (l0_3 : List S43) (l0_4 : List S129) (a1 : ByteArray) : Option Ask6 :=
  (pairs_Parse.f a1).bind fun p => if p.2 = 0 then ((pairs_Twice.f p.1).bind fun tw => if tw = true then some (askNo ⟨#[105, 110, 118, 97, 108, 105, 100, 95, 114, 101, 113, 117, 101, 115, 116]⟩) else
    ((client_Client.f a0_0 a0_1 a0_2 l0_3 l0_4 (askGet p.1 ⟨#[99, 108, 105, 101, 110, 116, 95, 105, 100]⟩)).bind fun c => if c.2.2.2 = true then (if c.2.2.1.length ≤ 1000000000 then askOf c.1 c.2.2.1 p.1 else none) else some (askNo ⟨#[105, 110, 118, 97, 108, 105, 100, 95, 99, 108, 105, 101, 110, 116]⟩))) else some (askNo ⟨#[105, 110, 118, 97, 108, 105, 100, 95, 114, 101, 113, 117, 101, 115, 116]⟩)

theorem fill1 {w : World} {g t : Nat} {u0 v0 : Value} (h : w.heap[g]? = some (.cells #[v0] t (0, 0))) : (w.setCell ⟨g, 0, none⟩ u0).heap[g]? = some (.cells #[u0] t (0, 0)) :=
 fillR (us := [u0]) (cs := [v0]) rfl rfl h rfl
theorem far1 {w : World} {g k t : Nat} {cs : Array Value} {u0 : Value} (h : w.heap[k]? = some (.cells cs t (0, 0))) (hk : k ≠ g) : (w.setCell ⟨g, 0, none⟩ u0).heap[k]? = some (.cells cs t (0, 0)) :=
 (blk_far h (p := ⟨g, 0, none⟩) hk _)
theorem bel1 {w0 w : World} {g : Nat} {u0 : Value} (h : Below w0.heap.size w0 w) (hk : w0.heap.size ≤ g) : Below w0.heap.size w0 (w.setCell ⟨g, 0, none⟩ u0) :=
 (below_set h hk)
theorem Ff1 {α : Type} {d : Kd α} {A : Option Addr} {n : Nat} {xs : List α} {ok : Nat → Prop} {w : World} {g : Nat} {u0 : Value} (h : Kd.F d w ok A n xs) (hk : ∀ k, ok k → k ≠ g) : Kd.F d (w.setCell ⟨g, 0, none⟩ u0) ok A n xs :=
 (Kd.F_far h (p := ⟨g, 0, none⟩) hk _)
theorem Vf1 {α : Type} {d : Kd α} {e base : Nat} {v : Value} {xs : List α} {ok : Nat → Prop} {w : World} {g : Nat} {u0 : Value} (h : Kd.V d e w base ok v xs) (hk : ∀ k, ok k → k ≠ g) : Kd.V d e (w.setCell ⟨g, 0, none⟩ u0) base ok v xs :=
 (Kd.V_far h (p := ⟨g, 0, none⟩) hk _)
theorem siz1 {w : World} {g m : Nat} {u0 : Value} (h : m ≤ w.heap.size) : m ≤ (w.setCell ⟨g, 0, none⟩ u0).heap.size := by simpa using h
theorem cl1 {w : World} {g t : Nat} {u0 : Value} (h : w.heap[g]? = some (.cells #[u0] t (0, 0))) : w.cell? ⟨g, 0, none⟩ = some u0 := (blk_cell h 0).trans rfl
theorem fz1 {w : World} {g t : Nat} {u0 : Value} (h : w.heap[g]? = some (.cells #[u0] t (0, 0))) : w.frozen? ⟨g, 0, none⟩ = false := blk_frozen h 0
theorem fill3 {w : World} {g t : Nat} {u0 u1 u2 v0 v1 v2 : Value} (h : w.heap[g]? = some (.cells #[v0, v1, v2] t (0, 0))) : (((w.setCell ⟨g, 0, none⟩ u0).setCell ⟨g, 1, none⟩ u1).setCell ⟨g, 2, none⟩ u2).heap[g]? = some (.cells #[u0, u1, u2] t (0, 0)) :=
 fillR (us := [u0, u1, u2]) (cs := [v0, v1, v2]) rfl rfl h rfl
theorem far3 {w : World} {g k t : Nat} {cs : Array Value} {u0 u1 u2 : Value} (h : w.heap[k]? = some (.cells cs t (0, 0))) (hk : k ≠ g) : (((w.setCell ⟨g, 0, none⟩ u0).setCell ⟨g, 1, none⟩ u1).setCell ⟨g, 2, none⟩ u2).heap[k]? = some (.cells cs t (0, 0)) :=
 (blk_far (blk_far (blk_far h (p := ⟨g, 0, none⟩) hk _) (p := ⟨g, 1, none⟩) hk _) (p := ⟨g, 2, none⟩) hk _)
theorem bel3 {w0 w : World} {g : Nat} {u0 u1 u2 : Value} (h : Below w0.heap.size w0 w) (hk : w0.heap.size ≤ g) : Below w0.heap.size w0 (((w.setCell ⟨g, 0, none⟩ u0).setCell ⟨g, 1, none⟩ u1).setCell ⟨g, 2, none⟩ u2) :=
 (below_set (below_set (below_set h hk) hk) hk)
theorem Ff3 {α : Type} {d : Kd α} {A : Option Addr} {n : Nat} {xs : List α} {ok : Nat → Prop} {w : World} {g : Nat} {u0 u1 u2 : Value} (h : Kd.F d w ok A n xs) (hk : ∀ k, ok k → k ≠ g) : Kd.F d (((w.setCell ⟨g, 0, none⟩ u0).setCell ⟨g, 1, none⟩ u1).setCell ⟨g, 2, none⟩ u2) ok A n xs :=
 (Kd.F_far (Kd.F_far (Kd.F_far h (p := ⟨g, 0, none⟩) hk _) (p := ⟨g, 1, none⟩) hk _) (p := ⟨g, 2, none⟩) hk _)
theorem Vf3 {α : Type} {d : Kd α} {e base : Nat} {v : Value} {xs : List α} {ok : Nat → Prop} {w : World} {g : Nat} {u0 u1 u2 : Value} (h : Kd.V d e w base ok v xs) (hk : ∀ k, ok k → k ≠ g) : Kd.V d e (((w.setCell ⟨g, 0, none⟩ u0).setCell ⟨g, 1, none⟩ u1).setCell ⟨g, 2, none⟩ u2) base ok v xs :=
 (Kd.V_far (Kd.V_far (Kd.V_far h (p := ⟨g, 0, none⟩) hk _) (p := ⟨g, 1, none⟩) hk _) (p := ⟨g, 2, none⟩) hk _)
theorem siz3 {w : World} {g m : Nat} {u0 u1 u2 : Value} (h : m ≤ w.heap.size) : m ≤ (((w.setCell ⟨g, 0, none⟩ u0).setCell ⟨g, 1, none⟩ u1).setCell ⟨g, 2, none⟩ u2).heap.size := by simpa using h
theorem cl3 {w : World} {g t : Nat} {u0 u1 u2 : Value} (h : w.heap[g]? = some (.cells #[u0, u1, u2] t (0, 0))) : w.cell? ⟨g, 0, none⟩ = some u0 ∧ w.cell? ⟨g, 1, none⟩ = some u1 ∧ w.cell? ⟨g, 2, none⟩ = some u2 := ⟨(blk_cell h 0).trans rfl, (blk_cell h 1).trans rfl, (blk_cell h 2).trans rfl⟩
theorem fz3 {w : World} {g t : Nat} {u0 u1 u2 : Value} (h : w.heap[g]? = some (.cells #[u0, u1, u2] t (0, 0))) : w.frozen? ⟨g, 0, none⟩ = false ∧ w.frozen? ⟨g, 1, none⟩ = false ∧ w.frozen? ⟨g, 2, none⟩ = false := ⟨blk_frozen h 0, blk_frozen h 1, blk_frozen h 2⟩
theorem fill6 {w : World} {g t : Nat} {u0 u1 u2 u3 u4 u5 v0 v1 v2 v3 v4 v5 : Value} (h : w.heap[g]? = some (.cells #[v0, v1, v2, v3, v4, v5] t (0, 0))) : ((((((w.setCell ⟨g, 0, none⟩ u0).setCell ⟨g, 1, none⟩ u1).setCell ⟨g, 2, none⟩ u2).setCell ⟨g, 3, none⟩ u3).setCell ⟨g, 4, none⟩ u4).setCell ⟨g, 5, none⟩ u5).heap[g]? = some (.cells #[u0, u1, u2, u3, u4, u5] t (0, 0)) :=
 fillR (us := [u0, u1, u2, u3, u4, u5]) (cs := [v0, v1, v2, v3, v4, v5]) rfl rfl h rfl
theorem far6 {w : World} {g k t : Nat} {cs : Array Value} {u0 u1 u2 u3 u4 u5 : Value} (h : w.heap[k]? = some (.cells cs t (0, 0))) (hk : k ≠ g) : ((((((w.setCell ⟨g, 0, none⟩ u0).setCell ⟨g, 1, none⟩ u1).setCell ⟨g, 2, none⟩ u2).setCell ⟨g, 3, none⟩ u3).setCell ⟨g, 4, none⟩ u4).setCell ⟨g, 5, none⟩ u5).heap[k]? = some (.cells cs t (0, 0)) :=
 (blk_far (blk_far (blk_far (blk_far (blk_far (blk_far h (p := ⟨g, 0, none⟩) hk _) (p := ⟨g, 1, none⟩) hk _) (p := ⟨g, 2, none⟩) hk _) (p := ⟨g, 3, none⟩) hk _) (p := ⟨g, 4, none⟩) hk _) (p := ⟨g, 5, none⟩) hk _)
theorem bel6 {w0 w : World} {g : Nat} {u0 u1 u2 u3 u4 u5 : Value} (h : Below w0.heap.size w0 w) (hk : w0.heap.size ≤ g) : Below w0.heap.size w0 ((((((w.setCell ⟨g, 0, none⟩ u0).setCell ⟨g, 1, none⟩ u1).setCell ⟨g, 2, none⟩ u2).setCell ⟨g, 3, none⟩ u3).setCell ⟨g, 4, none⟩ u4).setCell ⟨g, 5, none⟩ u5) :=
 (below_set (below_set (below_set (below_set (below_set (below_set h hk) hk) hk) hk) hk) hk)
theorem Ff6 {α : Type} {d : Kd α} {A : Option Addr} {n : Nat} {xs : List α} {ok : Nat → Prop} {w : World} {g : Nat} {u0 u1 u2 u3 u4 u5 : Value} (h : Kd.F d w ok A n xs) (hk : ∀ k, ok k → k ≠ g) : Kd.F d ((((((w.setCell ⟨g, 0, none⟩ u0).setCell ⟨g, 1, none⟩ u1).setCell ⟨g, 2, none⟩ u2).setCell ⟨g, 3, none⟩ u3).setCell ⟨g, 4, none⟩ u4).setCell ⟨g, 5, none⟩ u5) ok A n xs :=
 (Kd.F_far (Kd.F_far (Kd.F_far (Kd.F_far (Kd.F_far (Kd.F_far h (p := ⟨g, 0, none⟩) hk _) (p := ⟨g, 1, none⟩) hk _) (p := ⟨g, 2, none⟩) hk _) (p := ⟨g, 3, none⟩) hk _) (p := ⟨g, 4, none⟩) hk _) (p := ⟨g, 5, none⟩) hk _)
theorem Vf6 {α : Type} {d : Kd α} {e base : Nat} {v : Value} {xs : List α} {ok : Nat → Prop} {w : World} {g : Nat} {u0 u1 u2 u3 u4 u5 : Value} (h : Kd.V d e w base ok v xs) (hk : ∀ k, ok k → k ≠ g) : Kd.V d e ((((((w.setCell ⟨g, 0, none⟩ u0).setCell ⟨g, 1, none⟩ u1).setCell ⟨g, 2, none⟩ u2).setCell ⟨g, 3, none⟩ u3).setCell ⟨g, 4, none⟩ u4).setCell ⟨g, 5, none⟩ u5) base ok v xs :=
 (Kd.V_far (Kd.V_far (Kd.V_far (Kd.V_far (Kd.V_far (Kd.V_far h (p := ⟨g, 0, none⟩) hk _) (p := ⟨g, 1, none⟩) hk _) (p := ⟨g, 2, none⟩) hk _) (p := ⟨g, 3, none⟩) hk _) (p := ⟨g, 4, none⟩) hk _) (p := ⟨g, 5, none⟩) hk _)
theorem siz6 {w : World} {g m : Nat} {u0 u1 u2 u3 u4 u5 : Value} (h : m ≤ w.heap.size) : m ≤ ((((((w.setCell ⟨g, 0, none⟩ u0).setCell ⟨g, 1, none⟩ u1).setCell ⟨g, 2, none⟩ u2).setCell ⟨g, 3, none⟩ u3).setCell ⟨g, 4, none⟩ u4).setCell ⟨g, 5, none⟩ u5).heap.size := by simpa using h
theorem cl6 {w : World} {g t : Nat} {u0 u1 u2 u3 u4 u5 : Value} (h : w.heap[g]? = some (.cells #[u0, u1, u2, u3, u4, u5] t (0, 0))) : w.cell? ⟨g, 0, none⟩ = some u0 ∧ w.cell? ⟨g, 1, none⟩ = some u1 ∧ w.cell? ⟨g, 2, none⟩ = some u2 ∧ w.cell? ⟨g, 3, none⟩ = some u3 ∧ w.cell? ⟨g, 4, none⟩ = some u4 ∧ w.cell? ⟨g, 5, none⟩ = some u5 := ⟨(blk_cell h 0).trans rfl, (blk_cell h 1).trans rfl, (blk_cell h 2).trans rfl, (blk_cell h 3).trans rfl, (blk_cell h 4).trans rfl, (blk_cell h 5).trans rfl⟩
theorem fz6 {w : World} {g t : Nat} {u0 u1 u2 u3 u4 u5 : Value} (h : w.heap[g]? = some (.cells #[u0, u1, u2, u3, u4, u5] t (0, 0))) : w.frozen? ⟨g, 0, none⟩ = false ∧ w.frozen? ⟨g, 1, none⟩ = false ∧ w.frozen? ⟨g, 2, none⟩ = false ∧ w.frozen? ⟨g, 3, none⟩ = false ∧ w.frozen? ⟨g, 4, none⟩ = false ∧ w.frozen? ⟨g, 5, none⟩ = false := ⟨blk_frozen h 0, blk_frozen h 1, blk_frozen h 2, blk_frozen h 3, blk_frozen h 4, blk_frozen h 5⟩
theorem put2 {w : World} {g t : Nat} {u v0 v1 v2 v3 v4 v5 : Value} (h : w.heap[g]? = some (.cells #[v0, v1, v2, v3, v4, v5] t (0, 0))) : (w.setCell ⟨g, 2, none⟩ u).heap[g]? = some (.cells #[v0, v1, u, v3, v4, v5] t (0, 0)) := blk_set h 2 u
theorem ret6 {g : Nat} {w : World} {tmps : Array Value} {u0 u1 u2 u3 u4 u5 v0 v1 : Value} {Q : Ending → World → Prop}
  (h : w.heap[g]? = some (.cells #[u0, u1, u2, u3, u4, u5] 30 (0, 0))) (h4 : tmps.getD 4 undef = .pointer (some ⟨g, 0, none⟩)) (h5 : tmps.getD 5 undef = v0) (h6 : tmps.getD 6 undef = v1)
  (hQ : Q (.returned (.tuple #[.agg #[u0, u1, u2, u3, u4, u5], v0, v1])) w) : bodyPost Tryd.prog Tryd.f8 Q .ret ⟨tmps, []⟩ w := by
 subst h5 h6
 exact bodyPost_ret (results_ctt rfl _ _ g 30 #[u0, u1, u2, u3, u4, u5] (0, 0) _ h4 h Tryd.underlying30 rfl (by kernel_rfl)) rfl hQ
def AskPost (w : World) (r : Ask6) (e : Ending) (w' : World) : Prop := e = .returned (.tuple #[.agg #[.string r.1, .string r.2.1, .string r.2.2.1, .string r.2.2.2.1, .string r.2.2.2.2.1, .string r.2.2.2.2.2.1], .string r.2.2.2.2.2.2.1, .bool r.2.2.2.2.2.2.2]) ∧ Below w.heap.size w w'
set_option maxHeartbeats 16000000 in
set_option maxRecDepth 100000 in
theorem ask_Check.calls_ (a0_0 a0_1 a0_2 : ByteArray) (A0_3 : Option Addr) (c0_3 : Nat) (l0_3 : List (S43)) (A0_4 : Option Addr) (c0_4 : Nat) (l0_4 : List (S129)) (a1 : ByteArray) (r : Ask6) (w : World) (hr0_3 : Kd.C k43 w A0_3 l0_3.length l0_3) (hc0_3 : l0_3.length ≤ c0_3) (hr0_4 : Kd.C k129 w A0_4 l0_4.length l0_4) (hc0_4 : l0_4.length ≤ c0_4)
  (h : ask_Check.f a0_0 a0_1 a0_2 l0_3 l0_4 a1 = some r) (hG : GOK w) :
  Calls Tryd.prog 8 #[.agg #[.string a0_0, .string a0_1, .string a0_2, .slice A0_3 l0_3.length c0_3, .slice A0_4 l0_4.length c0_4], .string a1] w (AskPost w r) := by
 have hu := Tryd.underlying30
 have hu2 := Tryd.underlying27
 have hu3 := Tryd.underlying43
 have HR3 := Aside0.mk hr0_3
 have HR4 := Aside0.mk hr0_4
 have HGK := Aside0.mk hG
 unfold ask_Check.f at h
 obtain ⟨⟨l, e⟩, hp, h1⟩ := Option.bind_eq_some_iff.mp h
 have HP := Aside0.mk hp
 have H := Aside0.mk h1
 dsimp only at H
 clear hr0_3 hr0_4 hp h h1 hG
 go_enter Tryd.func8, Tryd.ntmps8
 go_wp2_with fail
 refine (pairs_Parse.calls a1 l e _ HP.out).mono ?_
 rintro e_ w2 ⟨v2, rfl, hr2, hb⟩
 obtain ⟨A2, c2, rfl, hl2, hC2⟩ := Kd.R_reads hr2
 have b0 : ((w.alloc (.cells #[.string a0_0, .string a0_1, .string a0_2, .slice A0_3 l0_3.length c0_3, .slice A0_4 l0_4.length c0_4] 27)).alloc (.cells #[.string (⟨#[]⟩ : ByteArray), .string (⟨#[]⟩ : ByteArray), .string (⟨#[]⟩ : ByteArray), .string (⟨#[]⟩ : ByteArray), .string (⟨#[]⟩ : ByteArray), .string (⟨#[]⟩ : ByteArray)] 30)).heap[w.heap.size]? = some (.cells #[.string a0_0, .string a0_1, .string a0_2, .slice A0_3 l0_3.length c0_3, .slice A0_4 l0_4.length c0_4] 27) := blk_alloc (blk_new w _) _
 have b4 : ((w.alloc (.cells #[.string a0_0, .string a0_1, .string a0_2, .slice A0_3 l0_3.length c0_3, .slice A0_4 l0_4.length c0_4] 27)).alloc (.cells #[.string (⟨#[]⟩ : ByteArray), .string (⟨#[]⟩ : ByteArray), .string (⟨#[]⟩ : ByteArray), .string (⟨#[]⟩ : ByteArray), .string (⟨#[]⟩ : ByteArray), .string (⟨#[]⟩ : ByteArray)] 30)).heap[w.heap.size + 1]? = some (.cells #[.string (⟨#[]⟩ : ByteArray), .string (⟨#[]⟩ : ByteArray), .string (⟨#[]⟩ : ByteArray), .string (⟨#[]⟩ : ByteArray), .string (⟨#[]⟩ : ByteArray), .string (⟨#[]⟩ : ByteArray)] 30) := by
  have := blk_new (w.alloc (.cells #[.string a0_0, .string a0_1, .string a0_2, .slice A0_3 l0_3.length c0_3, .slice A0_4 l0_4.length c0_4] 27)) (.cells #[.string (⟨#[]⟩ : ByteArray), .string (⟨#[]⟩ : ByteArray), .string (⟨#[]⟩ : ByteArray), .string (⟨#[]⟩ : ByteArray), .string (⟨#[]⟩ : ByteArray), .string (⟨#[]⟩ : ByteArray)] 30)
  simpa using this
 have BK0 := Aside0.mk (blk_below b0 hb)
 have BK4 := Aside0.mk (blk_below b4 hb)
 have HB := Aside0.mk (below_step (below_alloc (below_alloc (Below.refl _ w) (.cells #[.string a0_0, .string a0_1, .string a0_2, .slice A0_3 l0_3.length c0_3, .slice A0_4 l0_4.length c0_4] 27)) (.cells #[.string (⟨#[]⟩ : ByteArray), .string (⟨#[]⟩ : ByteArray), .string (⟨#[]⟩ : ByteArray), .string (⟨#[]⟩ : ByteArray), .string (⟨#[]⟩ : ByteArray), .string (⟨#[]⟩ : ByteArray)] 30)) hb)
 have HF := Aside0.mk (Kd.F_mono (Kd.R_F (Kd.R_bound hr2)) (ok' := fun k => w.heap.size + 2 ≤ k) (fun k hk => by have := hk.2.1; simp at this; omega))
 have HZ := Aside0.mk (show 0 ≤ w2.heap.size from Nat.zero_le _)
 clear hr2 hC2 hb b0 b4
 have hsz : w.heap.size + 1 < w2.heap.size := blk_lt BK4.out
 by_cases he : e = 0
 ·subst he
  have H1 := Aside0.mk (by have := H.out; rw [if_pos rfl] at this; exact this)
  clear H
  obtain ⟨tw, ht, h2⟩ := Option.bind_eq_some_iff.mp H1.out
  have HT := Aside0.mk ht
  have H2 := Aside0.mk h2
  clear ht h2 H1
  -- the list's own block
  have BK7 := Aside0.mk (blk_new w2 (.cells #[.slice A2 l.length c2] 37))
  have bb : Below w2.heap.size w2 (w2.alloc (.cells #[.slice A2 l.length c2] 37)) := below_alloc (Below.refl _ w2) _
  have NB0 := Aside0.mk (blk_below BK0.out bb)
  have NB4 := Aside0.mk (blk_below BK4.out bb)
  have NC := Aside0.mk (Kd.F_below HF.out bb)
  have NZ := Aside0.mk (Nat.le_trans HZ.out bb.size)
  have NB := Aside0.mk (below_step HB.out bb)
  clear BK0 BK4 HF HB HZ bb
  have BK0 := NB0
  have BK4 := NB4
  have HF := NC
  have HZ := NZ
  have HB := NB
  clear NB0 NB4 NC NB NZ
  go_wp2_with fail
  generalize w2.alloc (.cells #[.slice A2 l.length c2] 37) = w3 at BK7 BK0 BK4 HF HB HZ ⊢
  generalize w2.heap.size = g7 at BK7 hsz ⊢
  refine (pairs_Twice.calls A2 c2 l tw _ (Kd.F_now HF.out) hl2 HT.out).mono ?_
  rintro e_ w4 ⟨rfl, hb⟩
  have n_BK0 := Aside0.mk (blk_below BK0.out hb)
  have n_BK4 := Aside0.mk (blk_below BK4.out hb)
  have n_BK7 := Aside0.mk (blk_below BK7.out hb)
  have n_HB := Aside0.mk (below_step HB.out hb)
  have n_HF := Aside0.mk (Kd.F_below HF.out hb)
  have n_HZ := Aside0.mk (Nat.le_trans HZ.out hb.size)
  clear BK0 BK4 BK7 HB HF HZ
  have BK0 := n_BK0
  have BK4 := n_BK4
  have BK7 := n_BK7
  have HB := n_HB
  have HF := n_HF
  have HZ := n_HZ
  clear n_BK0 n_BK4 n_BK7 n_HB n_HF n_HZ hb
  cases tw with
  | true =>
   have H3 := Aside0.mk (show r = askNo ⟨#[105, 110, 118, 97, 108, 105, 100, 95, 114, 101, 113, 117, 101, 115, 116]⟩ from (Option.some.inj H2.out).symm)
   obtain ⟨d40, d41, d42, d43, d44, d45⟩ := cells6 BK4.out
   obtain ⟨f40, f41, f42, f43, f44, f45⟩ := froz6 BK4.out
   go_wp2
   obtain rfl := H3.out
   refine ret6 (fill6 BK4.out) rfl rfl rfl ?_
   exact ⟨rfl, bel6 HB.out (Nat.le_succ _)⟩
  | false =>
   have H3 := Aside0.mk (by have := H2.out; rw [if_neg (by simp)] at this; exact this)
   clear H2
   obtain ⟨⟨id, sec, tos, found⟩, hcl, h4⟩ := Option.bind_eq_some_iff.mp H3.out
   have HCL := Aside0.mk hcl
   have H4 := Aside0.mk h4
   dsimp only at H4
   clear hcl h4 H3
   obtain ⟨n4, hn4⟩ : ∃ n, n = w4.heap.size := ⟨_, rfl⟩
   have h4n : w.heap.size + 1 < n4 := by rw [hn4]; exact blk_lt BK4.out
   have h7n : g7 < n4 := by rw [hn4]; exact blk_lt BK7.out
   have n_HF := Aside0.mk (Kd.F_mono (Kd.F_bound HF.out) (ok' := fun k => w.heap.size + 2 ≤ k ∧ k < n4) (fun k hk => by rw [hn4]; exact hk))
   have n_HZ := Aside0.mk (show n4 ≤ w4.drew.heap.size from Nat.le_of_eq hn4)
   have n_BK0 := Aside0.mk (show w4.drew.heap[w.heap.size]? = _ from BK0.out)
   have n_BK4 := Aside0.mk (show w4.drew.heap[w.heap.size + 1]? = _ from BK4.out)
   have n_BK7 := Aside0.mk (show w4.drew.heap[g7]? = _ from BK7.out)
   have n_HB := Aside0.mk (below_drew1 HB.out)
   have m_HF := Aside0.mk (Kd.F_drew n_HF.out)
   clear HF HZ hn4 BK0 BK4 BK7 HB n_HF
   go_wp2_with fail
   refine start_ (n := 10) (S := fun w' => w'.cell? ⟨w.heap.size, 0, none⟩ = some (.string a0_0) ∧ w'.cell? ⟨w.heap.size, 1, none⟩ = some (.string a0_1) ∧ w'.cell? ⟨w.heap.size, 2, none⟩ = some (.string a0_2) ∧ w'.cell? ⟨w.heap.size, 3, none⟩ = some (.slice A0_3 l0_3.length c0_3) ∧ w'.cell? ⟨w.heap.size, 4, none⟩ = some (.slice A0_4 l0_4.length c0_4)) (ds := []) #[false, false, false, false, false, false, false, false, false, false] (by kernel_rfl) rfl rfl ⟨((blk_cell n_BK0.out 0).trans rfl), ((blk_cell n_BK0.out 1).trans rfl), ((blk_cell n_BK0.out 2).trans rfl), ((blk_cell n_BK0.out 3).trans rfl), ((blk_cell n_BK0.out 4).trans rfl)⟩ (fun hHeld => ?_)
   have HF := m_HF
   have HZ := n_HZ
   have HB := n_HB
   have BK0 := n_BK0
   have BK4 := n_BK4
   have BK7 := n_BK7
   clear m_HF n_HZ n_HB n_BK0 n_BK4 n_BK7
   generalize w4.drew = w40 at HF HZ HB BK0 BK4 BK7 hHeld ⊢
   refine pure_ (i := 1) (N := some 27) (v := ?_) (a' := ?_) #[false, true, false, false, false, false, false, false, false, false] rfl rfl (by kernel_rfl) (fun _ _ _ h => h) (Or.inl ⟨by rfl, ?_⟩) ?_ ?_
   rotate_left
   ·intro w'
    go_simp
    with_reducible rfl
   rotate_left
   ·simp only [Act.put, List.setIfInBounds_toArray, List.set_cons_zero, List.set_cons_succ, i64_w, i32_w]
    rfl
   refine take_ (i := 0) (N := some 26) (v := ?_) (a' := ?_) #[true, true, false, false, false, false, false, false, false, false] rfl rfl (by kernel_rfl) (fun _ _ _ h => h) (Or.inl ⟨by rfl, ?_⟩) hHeld ?_ ?_
   rotate_left
   ·rintro w' ⟨s0, s1, s2, s3, s4⟩
    go_simp
    with_reducible rfl
   rotate_left
   ·simp only [Act.put, List.setIfInBounds_toArray, List.set_cons_zero, List.set_cons_succ, i64_w, i32_w]
    rfl
   refine join_ (σ := Nat × Value) 2 #[true, true, true, true, true, true, true, true, false, false] (fun s_ => [(28, .string (askGet l ⟨#[99, 108, 105, 101, 110, 116, 95, 105, 100]⟩)), (29, .tuple #[.agg #[.string id, .string sec, s_.2], .bool found]), (10, .pointer (some ⟨s_.1, 0, none⟩)), (25, .tuple #[.agg #[.string id, .string sec, s_.2], .bool found]), (30, .agg #[.string id, .string sec, s_.2]), (31, .bool found)]) (fun s_ w' => (w'.cell? ⟨w.heap.size, 0, none⟩ = some (.string a0_0) ∧ w'.cell? ⟨w.heap.size, 1, none⟩ = some (.string a0_1) ∧ w'.cell? ⟨w.heap.size, 2, none⟩ = some (.string a0_2) ∧ w'.cell? ⟨w.heap.size, 3, none⟩ = some (.slice A0_3 l0_3.length c0_3) ∧ w'.cell? ⟨w.heap.size, 4, none⟩ = some (.slice A0_4 l0_4.length c0_4)) ∧ (w'.heap[w.heap.size]? = some (.cells #[.string a0_0, .string a0_1, .string a0_2, .slice A0_3 l0_3.length c0_3, .slice A0_4 l0_4.length c0_4] 27 (0, 0))) ∧ (w'.heap[w.heap.size + 1]? = some (.cells #[.string (⟨#[]⟩ : ByteArray), .string (⟨#[]⟩ : ByteArray), .string (⟨#[]⟩ : ByteArray), .string (⟨#[]⟩ : ByteArray), .string (⟨#[]⟩ : ByteArray), .string (⟨#[]⟩ : ByteArray)] 30 (0, 0))) ∧ (w'.heap[g7]? = some (.cells #[.slice A2 l.length c2] 37 (0, 0))) ∧ (w'.heap[s_.1]? = some (.cells #[.string (⟨#[]⟩ : ByteArray), .string (⟨#[]⟩ : ByteArray), .slice none 0 0] 43 (0, 0))) ∧ n4 ≤ s_.1 ∧ n4 ≤ w'.heap.size ∧ Kd.V Kd.string 9 w' 0 (fun k => n4 ≤ k ∧ k ≠ s_.1) s_.2 tos ∧ Kd.F k39 w' (fun k => w.heap.size + 2 ≤ k ∧ k < n4) A2 l.length l ∧ Below w.heap.size w w') ?_ ?_
   rotate_left
   ·intro hCont
    refine two_ (i := 2) (j := 7) (Ni := some 28) (Nj := some 10) #[true, true, true, false, false, false, false, false, false, false] #[true, true, false, false, false, false, false, true, false, false] rfl rfl rfl rfl (by kernel_rfl) (by decide) (by decide) (fun K hK => ?_) (fun K hK => ?_)
    ·skip
     refine call_ 18 #[.string ⟨#[99, 108, 105, 101, 110, 116, 95, 105, 100]⟩, .pointer (some ⟨g7, 0, none⟩)] (by rfl) rfl (by go_simp) ?_
     refine (ask_get l ⟨#[99, 108, 105, 101, 110, 116, 95, 105, 100]⟩ A2 c2 g7 _ (Kd.F_now HF.out) hl2 ((blk_cell BK7.out 0).trans rfl)).mono ?_
     rintro e_ w_ ⟨rfl, hb⟩
     refine ⟨_, rfl, ?_⟩
     have n_BK0 := Aside0.mk (blk_below BK0.out hb)
     have n_BK4 := Aside0.mk (blk_below BK4.out hb)
     have n_BK7 := Aside0.mk (blk_below BK7.out hb)
     have n_HB := Aside0.mk (below_step HB.out hb)
     have n_HF := Aside0.mk (Kd.F_below HF.out hb)
     have n_HZ := Aside0.mk (Nat.le_trans HZ.out hb.size)
     clear BK0 BK4 BK7 HB HF HZ
     have BK0 := n_BK0
     have BK4 := n_BK4
     have BK7 := n_BK7
     have HB := n_HB
     have HF := n_HF
     have HZ := n_HZ
     clear n_BK0 n_BK4 n_BK7 n_HB n_HF n_HZ hb
     refine hK.out _ _ ⟨((blk_cell BK0.out 0).trans rfl), ((blk_cell BK0.out 1).trans rfl), ((blk_cell BK0.out 2).trans rfl), ((blk_cell BK0.out 3).trans rfl), ((blk_cell BK0.out 4).trans rfl)⟩ (fun hHeld => ?_)
     clear hK K
     refine norm_ (a' := ?_) ?_ ?_
     rotate_left
     ·show Act.put _ (some 28) _ = _
      simp only [Act.put, List.setIfInBounds_toArray, List.set_cons_zero, List.set_cons_succ, i64_w, i32_w]
      rfl
     refine two_ (i := 3) (j := 7) (Ni := some 29) (Nj := some 10) #[true, true, true, true, false, false, false, false, false, false] #[true, true, true, false, false, false, false, true, false, false] rfl rfl rfl rfl (by kernel_rfl) (by decide) (by decide) (fun K hK => ?_) (fun K hK => ?_)
     ·skip
      refine goes_ Tryd.func20 (by kernel_rfl) rfl #[.agg #[.string a0_0, .string a0_1, .string a0_2, .slice A0_3 l0_3.length c0_3, .slice A0_4 l0_4.length c0_4], .string (askGet l ⟨#[99, 108, 105, 101, 110, 116, 95, 105, 100]⟩)] (by rfl) rfl rfl (by simp only [List.map_toArray, List.map_cons, List.map_nil]; rfl) ?_
      refine (client_Client.calls a0_0 a0_1 a0_2 A0_3 c0_3 l0_3 A0_4 c0_4 l0_4 (askGet l ⟨#[99, 108, 105, 101, 110, 116, 95, 105, 100]⟩) id sec tos found _ (Kd.C_below HR3.out HB.out) hc0_3 (Kd.C_below HR4.out HB.out) hc0_4 HCL.out).mono ?_
      rintro e_ w_ ⟨v5, rfl, hv, hb⟩
      refine ⟨_, rfl, ?_⟩
      have HV := Aside0.mk (Kd.V_lower (Kd.V_mono hv (ok' := fun k => n4 ≤ k) (fun k hk => Nat.le_trans HZ.out hk)) (Nat.zero_le _))
      clear hv
      have n_BK0 := Aside0.mk (blk_below BK0.out hb)
      have n_BK4 := Aside0.mk (blk_below BK4.out hb)
      have n_BK7 := Aside0.mk (blk_below BK7.out hb)
      have n_HB := Aside0.mk (below_step HB.out hb)
      have n_HF := Aside0.mk (Kd.F_below HF.out hb)
      have n_HZ := Aside0.mk (Nat.le_trans HZ.out hb.size)
      clear BK0 BK4 BK7 HB HF HZ
      have BK0 := n_BK0
      have BK4 := n_BK4
      have BK7 := n_BK7
      have HB := n_HB
      have HF := n_HF
      have HZ := n_HZ
      clear n_BK0 n_BK4 n_BK7 n_HB n_HF n_HZ hb
      refine hK.out _ _ ⟨((blk_cell BK0.out 0).trans rfl), ((blk_cell BK0.out 1).trans rfl), ((blk_cell BK0.out 2).trans rfl), ((blk_cell BK0.out 3).trans rfl), ((blk_cell BK0.out 4).trans rfl)⟩ (fun hHeld => ?_)
      clear hK K
      refine norm_ (a' := ?_) ?_ ?_
      rotate_left
      ·show Act.put _ (some 29) _ = _
       simp only [Act.put, List.setIfInBounds_toArray, List.set_cons_zero, List.set_cons_succ, i64_w, i32_w]
       rfl
      refine pure_ (i := 4) (N := some 25) (v := ?_) (a' := ?_) #[true, true, true, true, true, false, false, false, false, false] rfl rfl (by kernel_rfl) (fun _ _ _ h => h) (Or.inl ⟨by rfl, ?_⟩) ?_ ?_
      rotate_left
      ·intro w'
       go_simp
       with_reducible rfl
      rotate_left
      ·simp only [Act.put, List.setIfInBounds_toArray, List.set_cons_zero, List.set_cons_succ, i64_w, i32_w]
       rfl
      refine pure_ (i := 5) (N := some 30) (v := ?_) (a' := ?_) #[true, true, true, true, true, true, false, false, false, false] rfl rfl (by kernel_rfl) (fun _ _ _ h => h) (Or.inl ⟨by rfl, ?_⟩) ?_ ?_
      rotate_left
      ·intro w'
       go_simp
       with_reducible rfl
      rotate_left
      ·simp only [Act.put, List.setIfInBounds_toArray, List.set_cons_zero, List.set_cons_succ, i64_w, i32_w]
       rfl
      refine pure_ (i := 6) (N := some 31) (v := ?_) (a' := ?_) #[true, true, true, true, true, true, true, false, false, false] rfl rfl (by kernel_rfl) (fun _ _ _ h => h) (Or.inl ⟨by rfl, ?_⟩) ?_ ?_
      rotate_left
      ·intro w'
       go_simp
       with_reducible rfl
      rotate_left
      ·simp only [Act.put, List.setIfInBounds_toArray, List.set_cons_zero, List.set_cons_succ, i64_w, i32_w]
       rfl
      refine one_ (i := 7) (N := some 10) #[true, true, true, true, true, true, true, true, false, false] rfl rfl (by kernel_rfl) (by decide) (fun K hK => ?_)
      refine box_step ?hg (N := 10) ?hd (cs := #[.string (⟨#[]⟩ : ByteArray), .string (⟨#[]⟩ : ByteArray), .slice none 0 0]) (t := 43) ?hr ?_; (case hd => rfl); (case hg => rfl); (case hr => first | (go_simp; done) | (go_simp; rfl))
      intro g10 hg w_ hbox hb
      have BK10 := Aside0.mk hbox
      have HGE := Aside0.mk (show n4 ≤ g10 from by rw [hg]; exact HZ.out)
      have n_HV := Aside0.mk (Kd.V_elderB HV.out g10 (Nat.le_of_eq hg.symm))
      clear HV
      have HV := n_HV
      clear n_HV
      clear hg hbox
      have n_BK0 := Aside0.mk (blk_below BK0.out hb)
      have n_BK4 := Aside0.mk (blk_below BK4.out hb)
      have n_BK7 := Aside0.mk (blk_below BK7.out hb)
      have n_HB := Aside0.mk (below_step HB.out hb)
      have n_HF := Aside0.mk (Kd.F_below HF.out hb)
      have n_HZ := Aside0.mk (Nat.le_trans HZ.out hb.size)
      have n_HV := Aside0.mk (Kd.V_below HV.out hb)
      clear BK0 BK4 BK7 HB HF HZ HV
      have BK0 := n_BK0
      have BK4 := n_BK4
      have BK7 := n_BK7
      have HB := n_HB
      have HF := n_HF
      have HZ := n_HZ
      have HV := n_HV
      clear n_BK0 n_BK4 n_BK7 n_HB n_HF n_HZ n_HV hb
      refine hK.out _ _ ⟨((blk_cell BK0.out 0).trans rfl), ((blk_cell BK0.out 1).trans rfl), ((blk_cell BK0.out 2).trans rfl), ((blk_cell BK0.out 3).trans rfl), ((blk_cell BK0.out 4).trans rfl)⟩ (fun hHeld => ?_)
      clear hK K
      refine norm_ (a' := ?_) ?_ ?_
      rotate_left
      ·show Act.put _ (some 10) _ = _
       simp only [Act.put, List.setIfInBounds_toArray, List.set_cons_zero, List.set_cons_succ, i64_w, i32_w]
       rfl
      exact norm_ (by simp only [putAll, Act.put, List.setIfInBounds_toArray, List.set_cons_zero, List.set_cons_succ]) (hCont (g10, v5) _ ⟨hHeld, BK0.out, BK4.out, BK7.out, BK10.out, HGE.out, HZ.out, HV.out, HF.out, HB.out⟩)
     ·skip
      refine box_step ?hg (N := 10) ?hd (cs := #[.string (⟨#[]⟩ : ByteArray), .string (⟨#[]⟩ : ByteArray), .slice none 0 0]) (t := 43) ?hr ?_; (case hd => rfl); (case hg => rfl); (case hr => first | (go_simp; done) | (go_simp; rfl))
      intro g10 hg w_ hbox hb
      have BK10 := Aside0.mk hbox
      have HGE := Aside0.mk (show n4 ≤ g10 from by rw [hg]; exact HZ.out)
      clear hg hbox
      have n_BK0 := Aside0.mk (blk_below BK0.out hb)
      have n_BK4 := Aside0.mk (blk_below BK4.out hb)
      have n_BK7 := Aside0.mk (blk_below BK7.out hb)
      have n_HB := Aside0.mk (below_step HB.out hb)
      have n_HF := Aside0.mk (Kd.F_below HF.out hb)
      have n_HZ := Aside0.mk (Nat.le_trans HZ.out hb.size)
      clear BK0 BK4 BK7 HB HF HZ
      have BK0 := n_BK0
      have BK4 := n_BK4
      have BK7 := n_BK7
      have HB := n_HB
      have HF := n_HF
      have HZ := n_HZ
      clear n_BK0 n_BK4 n_BK7 n_HB n_HF n_HZ hb
      refine hK.out _ _ ⟨((blk_cell BK0.out 0).trans rfl), ((blk_cell BK0.out 1).trans rfl), ((blk_cell BK0.out 2).trans rfl), ((blk_cell BK0.out 3).trans rfl), ((blk_cell BK0.out 4).trans rfl)⟩ (fun hHeld => ?_)
      clear hK K
      refine norm_ (a' := ?_) ?_ ?_
      rotate_left
      ·show Act.put _ (some 10) _ = _
       simp only [Act.put, List.setIfInBounds_toArray, List.set_cons_zero, List.set_cons_succ, i64_w, i32_w]
       rfl
      refine one_ (i := 3) (N := some 29) #[true, true, true, true, false, false, false, true, false, false] rfl rfl (by kernel_rfl) (by decide) (fun K hK => ?_)
      refine goes_ Tryd.func20 (by kernel_rfl) rfl #[.agg #[.string a0_0, .string a0_1, .string a0_2, .slice A0_3 l0_3.length c0_3, .slice A0_4 l0_4.length c0_4], .string (askGet l ⟨#[99, 108, 105, 101, 110, 116, 95, 105, 100]⟩)] (by rfl) rfl rfl (by simp only [List.map_toArray, List.map_cons, List.map_nil]; rfl) ?_
      refine (client_Client.calls a0_0 a0_1 a0_2 A0_3 c0_3 l0_3 A0_4 c0_4 l0_4 (askGet l ⟨#[99, 108, 105, 101, 110, 116, 95, 105, 100]⟩) id sec tos found _ (Kd.C_below HR3.out HB.out) hc0_3 (Kd.C_below HR4.out HB.out) hc0_4 HCL.out).mono ?_
      rintro e_ w_ ⟨v5, rfl, hv, hb⟩
      refine ⟨_, rfl, ?_⟩
      have HV := Aside0.mk (Kd.V_lower (Kd.V_mono hv (ok' := (fun k => n4 ≤ k ∧ k ≠ g10)) (fun k hk => ⟨Nat.le_trans HZ.out hk, Nat.ne_of_gt (Nat.lt_of_lt_of_le (blk_lt BK10.out) hk)⟩)) (Nat.zero_le _))
      clear hv
      have n_BK0 := Aside0.mk (blk_below BK0.out hb)
      have n_BK4 := Aside0.mk (blk_below BK4.out hb)
      have n_BK7 := Aside0.mk (blk_below BK7.out hb)
      have n_BK10 := Aside0.mk (blk_below BK10.out hb)
      have n_HB := Aside0.mk (below_step HB.out hb)
      have n_HF := Aside0.mk (Kd.F_below HF.out hb)
      have n_HZ := Aside0.mk (Nat.le_trans HZ.out hb.size)
      clear BK0 BK4 BK7 BK10 HB HF HZ
      have BK0 := n_BK0
      have BK4 := n_BK4
      have BK7 := n_BK7
      have BK10 := n_BK10
      have HB := n_HB
      have HF := n_HF
      have HZ := n_HZ
      clear n_BK0 n_BK4 n_BK7 n_BK10 n_HB n_HF n_HZ hb
      refine hK.out _ _ ⟨((blk_cell BK0.out 0).trans rfl), ((blk_cell BK0.out 1).trans rfl), ((blk_cell BK0.out 2).trans rfl), ((blk_cell BK0.out 3).trans rfl), ((blk_cell BK0.out 4).trans rfl)⟩ (fun hHeld => ?_)
      clear hK K
      refine norm_ (a' := ?_) ?_ ?_
      rotate_left
      ·show Act.put _ (some 29) _ = _
       simp only [Act.put, List.setIfInBounds_toArray, List.set_cons_zero, List.set_cons_succ, i64_w, i32_w]
       rfl
      refine pure_ (i := 4) (N := some 25) (v := ?_) (a' := ?_) #[true, true, true, true, true, false, false, true, false, false] rfl rfl (by kernel_rfl) (fun _ _ _ h => h) (Or.inl ⟨by rfl, ?_⟩) ?_ ?_
      rotate_left
      ·intro w'
       go_simp
       with_reducible rfl
      rotate_left
      ·simp only [Act.put, List.setIfInBounds_toArray, List.set_cons_zero, List.set_cons_succ, i64_w, i32_w]
       rfl
      refine pure_ (i := 5) (N := some 30) (v := ?_) (a' := ?_) #[true, true, true, true, true, true, false, true, false, false] rfl rfl (by kernel_rfl) (fun _ _ _ h => h) (Or.inl ⟨by rfl, ?_⟩) ?_ ?_
      rotate_left
      ·intro w'
       go_simp
       with_reducible rfl
      rotate_left
      ·simp only [Act.put, List.setIfInBounds_toArray, List.set_cons_zero, List.set_cons_succ, i64_w, i32_w]
       rfl
      refine pure_ (i := 6) (N := some 31) (v := ?_) (a' := ?_) #[true, true, true, true, true, true, true, true, false, false] rfl rfl (by kernel_rfl) (fun _ _ _ h => h) (Or.inl ⟨by rfl, ?_⟩) ?_ ?_
      rotate_left
      ·intro w'
       go_simp
       with_reducible rfl
      rotate_left
      ·simp only [Act.put, List.setIfInBounds_toArray, List.set_cons_zero, List.set_cons_succ, i64_w, i32_w]
       rfl
      exact norm_ (by simp only [putAll, Act.put, List.setIfInBounds_toArray, List.set_cons_zero, List.set_cons_succ]) (hCont (g10, v5) _ ⟨hHeld, BK0.out, BK4.out, BK7.out, BK10.out, HGE.out, HZ.out, HV.out, HF.out, HB.out⟩)
    ·skip
     refine box_step ?hg (N := 10) ?hd (cs := #[.string (⟨#[]⟩ : ByteArray), .string (⟨#[]⟩ : ByteArray), .slice none 0 0]) (t := 43) ?hr ?_; (case hd => rfl); (case hg => rfl); (case hr => first | (go_simp; done) | (go_simp; rfl))
     intro g10 hg w_ hbox hb
     have BK10 := Aside0.mk hbox
     have HGE := Aside0.mk (show n4 ≤ g10 from by rw [hg]; exact HZ.out)
     clear hg hbox
     have n_BK0 := Aside0.mk (blk_below BK0.out hb)
     have n_BK4 := Aside0.mk (blk_below BK4.out hb)
     have n_BK7 := Aside0.mk (blk_below BK7.out hb)
     have n_HB := Aside0.mk (below_step HB.out hb)
     have n_HF := Aside0.mk (Kd.F_below HF.out hb)
     have n_HZ := Aside0.mk (Nat.le_trans HZ.out hb.size)
     clear BK0 BK4 BK7 HB HF HZ
     have BK0 := n_BK0
     have BK4 := n_BK4
     have BK7 := n_BK7
     have HB := n_HB
     have HF := n_HF
     have HZ := n_HZ
     clear n_BK0 n_BK4 n_BK7 n_HB n_HF n_HZ hb
     refine hK.out _ _ ⟨((blk_cell BK0.out 0).trans rfl), ((blk_cell BK0.out 1).trans rfl), ((blk_cell BK0.out 2).trans rfl), ((blk_cell BK0.out 3).trans rfl), ((blk_cell BK0.out 4).trans rfl)⟩ (fun hHeld => ?_)
     clear hK K
     refine norm_ (a' := ?_) ?_ ?_
     rotate_left
     ·show Act.put _ (some 10) _ = _
      simp only [Act.put, List.setIfInBounds_toArray, List.set_cons_zero, List.set_cons_succ, i64_w, i32_w]
      rfl
     refine one_ (i := 2) (N := some 28) #[true, true, true, false, false, false, false, true, false, false] rfl rfl (by kernel_rfl) (by decide) (fun K hK => ?_)
     refine call_ 18 #[.string ⟨#[99, 108, 105, 101, 110, 116, 95, 105, 100]⟩, .pointer (some ⟨g7, 0, none⟩)] (by rfl) rfl (by go_simp) ?_
     refine (ask_get l ⟨#[99, 108, 105, 101, 110, 116, 95, 105, 100]⟩ A2 c2 g7 _ (Kd.F_now HF.out) hl2 ((blk_cell BK7.out 0).trans rfl)).mono ?_
     rintro e_ w_ ⟨rfl, hb⟩
     refine ⟨_, rfl, ?_⟩
     have n_BK0 := Aside0.mk (blk_below BK0.out hb)
     have n_BK4 := Aside0.mk (blk_below BK4.out hb)
     have n_BK7 := Aside0.mk (blk_below BK7.out hb)
     have n_BK10 := Aside0.mk (blk_below BK10.out hb)
     have n_HB := Aside0.mk (below_step HB.out hb)
     have n_HF := Aside0.mk (Kd.F_below HF.out hb)
     have n_HZ := Aside0.mk (Nat.le_trans HZ.out hb.size)
     clear BK0 BK4 BK7 BK10 HB HF HZ
     have BK0 := n_BK0
     have BK4 := n_BK4
     have BK7 := n_BK7
     have BK10 := n_BK10
     have HB := n_HB
     have HF := n_HF
     have HZ := n_HZ
     clear n_BK0 n_BK4 n_BK7 n_BK10 n_HB n_HF n_HZ hb
     refine hK.out _ _ ⟨((blk_cell BK0.out 0).trans rfl), ((blk_cell BK0.out 1).trans rfl), ((blk_cell BK0.out 2).trans rfl), ((blk_cell BK0.out 3).trans rfl), ((blk_cell BK0.out 4).trans rfl)⟩ (fun hHeld => ?_)
     clear hK K
     refine norm_ (a' := ?_) ?_ ?_
     rotate_left
     ·show Act.put _ (some 28) _ = _
      simp only [Act.put, List.setIfInBounds_toArray, List.set_cons_zero, List.set_cons_succ, i64_w, i32_w]
      rfl
     refine one_ (i := 3) (N := some 29) #[true, true, true, true, false, false, false, true, false, false] rfl rfl (by kernel_rfl) (by decide) (fun K hK => ?_)
     refine goes_ Tryd.func20 (by kernel_rfl) rfl #[.agg #[.string a0_0, .string a0_1, .string a0_2, .slice A0_3 l0_3.length c0_3, .slice A0_4 l0_4.length c0_4], .string (askGet l ⟨#[99, 108, 105, 101, 110, 116, 95, 105, 100]⟩)] (by rfl) rfl rfl (by simp only [List.map_toArray, List.map_cons, List.map_nil]; rfl) ?_
     refine (client_Client.calls a0_0 a0_1 a0_2 A0_3 c0_3 l0_3 A0_4 c0_4 l0_4 (askGet l ⟨#[99, 108, 105, 101, 110, 116, 95, 105, 100]⟩) id sec tos found _ (Kd.C_below HR3.out HB.out) hc0_3 (Kd.C_below HR4.out HB.out) hc0_4 HCL.out).mono ?_
     rintro e_ w_ ⟨v5, rfl, hv, hb⟩
     refine ⟨_, rfl, ?_⟩
     have HV := Aside0.mk (Kd.V_lower (Kd.V_mono hv (ok' := (fun k => n4 ≤ k ∧ k ≠ g10)) (fun k hk => ⟨Nat.le_trans HZ.out hk, Nat.ne_of_gt (Nat.lt_of_lt_of_le (blk_lt BK10.out) hk)⟩)) (Nat.zero_le _))
     clear hv
     have n_BK0 := Aside0.mk (blk_below BK0.out hb)
     have n_BK4 := Aside0.mk (blk_below BK4.out hb)
     have n_BK7 := Aside0.mk (blk_below BK7.out hb)
     have n_BK10 := Aside0.mk (blk_below BK10.out hb)
     have n_HB := Aside0.mk (below_step HB.out hb)
     have n_HF := Aside0.mk (Kd.F_below HF.out hb)
     have n_HZ := Aside0.mk (Nat.le_trans HZ.out hb.size)
     clear BK0 BK4 BK7 BK10 HB HF HZ
     have BK0 := n_BK0
     have BK4 := n_BK4
     have BK7 := n_BK7
     have BK10 := n_BK10
     have HB := n_HB
     have HF := n_HF
     have HZ := n_HZ
     clear n_BK0 n_BK4 n_BK7 n_BK10 n_HB n_HF n_HZ hb
     refine hK.out _ _ ⟨((blk_cell BK0.out 0).trans rfl), ((blk_cell BK0.out 1).trans rfl), ((blk_cell BK0.out 2).trans rfl), ((blk_cell BK0.out 3).trans rfl), ((blk_cell BK0.out 4).trans rfl)⟩ (fun hHeld => ?_)
     clear hK K
     refine norm_ (a' := ?_) ?_ ?_
     rotate_left
     ·show Act.put _ (some 29) _ = _
      simp only [Act.put, List.setIfInBounds_toArray, List.set_cons_zero, List.set_cons_succ, i64_w, i32_w]
      rfl
     refine pure_ (i := 4) (N := some 25) (v := ?_) (a' := ?_) #[true, true, true, true, true, false, false, true, false, false] rfl rfl (by kernel_rfl) (fun _ _ _ h => h) (Or.inl ⟨by rfl, ?_⟩) ?_ ?_
     rotate_left
     ·intro w'
      go_simp
      with_reducible rfl
     rotate_left
     ·simp only [Act.put, List.setIfInBounds_toArray, List.set_cons_zero, List.set_cons_succ, i64_w, i32_w]
      rfl
     refine pure_ (i := 5) (N := some 30) (v := ?_) (a' := ?_) #[true, true, true, true, true, true, false, true, false, false] rfl rfl (by kernel_rfl) (fun _ _ _ h => h) (Or.inl ⟨by rfl, ?_⟩) ?_ ?_
     rotate_left
     ·intro w'
      go_simp
      with_reducible rfl
     rotate_left
     ·simp only [Act.put, List.setIfInBounds_toArray, List.set_cons_zero, List.set_cons_succ, i64_w, i32_w]
      rfl
     refine pure_ (i := 6) (N := some 31) (v := ?_) (a' := ?_) #[true, true, true, true, true, true, true, true, false, false] rfl rfl (by kernel_rfl) (fun _ _ _ h => h) (Or.inl ⟨by rfl, ?_⟩) ?_ ?_
     rotate_left
     ·intro w'
      go_simp
      with_reducible rfl
     rotate_left
     ·simp only [Act.put, List.setIfInBounds_toArray, List.set_cons_zero, List.set_cons_succ, i64_w, i32_w]
      rfl
     exact norm_ (by simp only [putAll, Act.put, List.setIfInBounds_toArray, List.set_cons_zero, List.set_cons_succ]) (hCont (g10, v5) _ ⟨hHeld, BK0.out, BK4.out, BK7.out, BK10.out, HGE.out, HZ.out, HV.out, HF.out, HB.out⟩)
   rintro ⟨g10, v5⟩ w5 ⟨hHeld, k0, k4, k7, k10, hge, hz, hv, hf, hb⟩
   have BK0 := Aside0.mk k0
   have BK4 := Aside0.mk k4
   have BK7 := Aside0.mk k7
   have BK10 := Aside0.mk k10
   have HZ := Aside0.mk hz
   have HV := Aside0.mk hv
   have HF := Aside0.mk hf
   have HB := Aside0.mk hb
   dsimp only at hge BK10 HV
   clear k0 k4 k7 k10 hz hv hf hb
   obtain ⟨A5, c5, rfl⟩ := Kd.V_slice HV.out
   refine norm_ (a' := ?_) ?_ ?_
   rotate_left
   ·simp only [putAll, Act.put, List.setIfInBounds_toArray, List.set_cons_zero, List.set_cons_succ]
    rfl
   refine one_ (i := 8) (N := none) #[true, true, true, true, true, true, true, true, true, false] rfl rfl (by kernel_rfl) (by decide) (fun K hK => ?_)
   obtain ⟨d_0, d_1, d_2⟩ := cl3 BK10.out
   obtain ⟨e_0, e_1, e_2⟩ := fz3 BK10.out
   refine skip_ (w1 := ?_) (by rfl) rfl ?_ ?_
   rotate_left
   ·go_simp
    rfl
   clear d_0 d_1 d_2 e_0 e_1 e_2
   have n_BK10 := Aside0.mk (fill3 (u0 := .string id) (u1 := .string sec) (u2 := .slice A5 tos.length c5) BK10.out)
   have n_BK0 := Aside0.mk (far3 (u0 := .string id) (u1 := .string sec) (u2 := .slice A5 tos.length c5) (g := g10) BK0.out (by omega))
   have n_BK4 := Aside0.mk (far3 (u0 := .string id) (u1 := .string sec) (u2 := .slice A5 tos.length c5) (g := g10) BK4.out (by omega))
   have n_BK7 := Aside0.mk (far3 (u0 := .string id) (u1 := .string sec) (u2 := .slice A5 tos.length c5) (g := g10) BK7.out (by omega))
   have n_HB := Aside0.mk (bel3 (u0 := .string id) (u1 := .string sec) (u2 := .slice A5 tos.length c5) (g := g10) HB.out (by omega))
   have n_HF := Aside0.mk (Ff3 (u0 := .string id) (u1 := .string sec) (u2 := .slice A5 tos.length c5) (g := g10) HF.out (fun k hk => by omega))
   have n_HZ := Aside0.mk (siz3 (u0 := .string id) (u1 := .string sec) (u2 := .slice A5 tos.length c5) (g := g10) HZ.out)
   have n_HV := Aside0.mk (Vf3 (u0 := .string id) (u1 := .string sec) (u2 := .slice A5 tos.length c5) (g := g10) HV.out (fun k hk => hk.2))
   clear BK10 BK0 BK4 BK7 HB HF HZ HV
   have BK10 := n_BK10
   have BK0 := n_BK0
   have BK4 := n_BK4
   have BK7 := n_BK7
   have HB := n_HB
   have HF := n_HF
   have HZ := n_HZ
   have HV := n_HV
   clear n_BK10 n_BK0 n_BK4 n_BK7 n_HB n_HF n_HZ n_HV
   refine hK.out _ _ ⟨((blk_cell BK0.out 0).trans rfl), ((blk_cell BK0.out 1).trans rfl), ((blk_cell BK0.out 2).trans rfl), ((blk_cell BK0.out 3).trans rfl), ((blk_cell BK0.out 4).trans rfl)⟩ (fun hHeld => ?_)
   clear hK K
   refine pure_ (i := 9) (N := some 11) (v := ?_) (a' := ?_) #[true, true, true, true, true, true, true, true, true, true] rfl rfl (by kernel_rfl) (fun _ _ _ h => h) (Or.inl ⟨by rfl, ?_⟩) ?_ ?_
   rotate_left
   ·intro w'
    go_simp
    with_reducible rfl
   rotate_left
   ·simp only [Act.put, List.setIfInBounds_toArray, List.set_cons_zero, List.set_cons_succ, i64_w, i32_w]
    rfl
   refine done_ (by kernel_rfl) ?_
   generalize ((w5.setCell ⟨g10, 0, none⟩ (.string id)).setCell ⟨g10, 1, none⟩ (.string sec)).setCell ⟨g10, 2, none⟩ (.slice A5 tos.length c5) = w6 at BK0 BK4 BK7 BK10 HB HF HV HZ ⊢
   cases found with
   | false =>
    have H5 := Aside0.mk (show r = askNo ⟨#[105, 110, 118, 97, 108, 105, 100, 95, 99, 108, 105, 101, 110, 116]⟩ from by have := H4.out; rw [if_neg (by simp)] at this; exact (Option.some.inj this).symm)
    obtain ⟨d_0, d_1, d_2, d_3, d_4, d_5⟩ := cl6 BK4.out
    obtain ⟨e_0, e_1, e_2, e_3, e_4, e_5⟩ := fz6 BK4.out
    go_wp2
    obtain rfl := H5.out
    refine ret6 (fill6 BK4.out) rfl rfl rfl ?_
    exact ⟨rfl, bel6 HB.out (by omega)⟩
   | true =>
    have hq := H4.out
    rw [if_pos rfl] at hq
    split at hq
    case isFalse => cases hq
    rename_i hlen
    unfold askOf at hq
    obtain ⟨re, h_re⟩ : ∃ x, x = (askGet l ⟨#[114, 101, 100, 105, 114, 101, 99, 116, 95, 117, 114, 105]⟩) := ⟨_, rfl⟩
    obtain ⟨st, h_st⟩ : ∃ x, x = (askGet l ⟨#[115, 116, 97, 116, 101]⟩) := ⟨_, rfl⟩
    obtain ⟨no, h_no⟩ : ∃ x, x = (askGet l ⟨#[110, 111, 110, 99, 101]⟩) := ⟨_, rfl⟩
    obtain ⟨sc, h_sc⟩ : ∃ x, x = (askGet l ⟨#[115, 99, 111, 112, 101]⟩) := ⟨_, rfl⟩
    obtain ⟨ch, h_ch⟩ : ∃ x, x = (askGet l ⟨#[99, 111, 100, 101, 95, 99, 104, 97, 108, 108, 101, 110, 103, 101]⟩) := ⟨_, rfl⟩
    obtain ⟨rd, hrd⟩ : ∃ x, x = hasT re tos := ⟨_, rfl⟩
    obtain ⟨pr, hpr⟩ : ∃ x, x = askProblem st no sc ch l := ⟨_, rfl⟩
    rw [← h_re, ← h_st, ← h_no, ← h_sc, ← h_ch, ← hrd, ← hpr] at hq
    have HQ := Aside0.mk hq
    have HPR := Aside0.mk hpr
    have G_re := Aside0.mk h_re
    have G_st := Aside0.mk h_st
    have G_no := Aside0.mk h_no
    have G_sc := Aside0.mk h_sc
    have G_ch := Aside0.mk h_ch
    obtain ⟨kq, hkq⟩ := (contains_f tos re (by omega)).get
    have HRD := Aside0.mk (show client_Redirect.f kq id sec tos re = some rd from by unfold client_Redirect.f; rw [hkq, hrd]; rfl)
    clear hrd hkq hlen hq H4 hpr h_re h_st h_no h_sc h_ch
    go_wp2_with fail
    have n_BK0 := Aside0.mk (show w6.drew.heap[w.heap.size]? = _ from BK0.out)
    have n_BK4 := Aside0.mk (show w6.drew.heap[w.heap.size + 1]? = _ from BK4.out)
    have n_BK7 := Aside0.mk (show w6.drew.heap[g7]? = _ from BK7.out)
    have n_BK10 := Aside0.mk (show w6.drew.heap[g10]? = _ from BK10.out)
    have n_HB := Aside0.mk (below_drew1 HB.out)
    have n_HF := Aside0.mk (Kd.F_drew HF.out)
    have n_HV := Aside0.mk (Kd.V_drew HV.out)
    have n_HZ := Aside0.mk (show n4 ≤ w6.drew.heap.size from HZ.out)
    clear BK0 BK4 BK7 BK10 HB HF HV HZ
    refine start_ (n := 5) (S := fun w' => w'.cell? ⟨g10, 0, none⟩ = some (.string id) ∧ w'.cell? ⟨g10, 1, none⟩ = some (.string sec) ∧ w'.cell? ⟨g10, 2, none⟩ = some (.slice A5 tos.length c5)) (ds := []) #[false, false, false, false, false] (by kernel_rfl) rfl rfl ⟨((blk_cell n_BK10.out 0).trans rfl), ((blk_cell n_BK10.out 1).trans rfl), ((blk_cell n_BK10.out 2).trans rfl)⟩ (fun hHeld => ?_)
    have BK0 := n_BK0
    have BK4 := n_BK4
    have BK7 := n_BK7
    have BK10 := n_BK10
    have HB := n_HB
    have HF := n_HF
    have HV := n_HV
    have HZ := n_HZ
    clear n_BK0 n_BK4 n_BK7 n_BK10 n_HB n_HF n_HV n_HZ
    generalize w6.drew = w7 at BK0 BK4 BK7 BK10 HB HF HV HZ hHeld ⊢
    refine pure_ (i := 1) (N := some 36) (v := ?_) (a' := ?_) #[false, true, false, false, false] rfl rfl (by kernel_rfl) (fun _ _ _ h => h) (Or.inl ⟨by rfl, ?_⟩) ?_ ?_
    rotate_left
    ·intro w'
     go_simp
     with_reducible rfl
    rotate_left
    ·simp only [Act.put, List.setIfInBounds_toArray, List.set_cons_zero, List.set_cons_succ, i64_w, i32_w]
     rfl
    refine take_ (i := 0) (N := some 35) (v := ?_) (a' := ?_) #[true, true, false, false, false] rfl rfl (by kernel_rfl) (fun _ _ _ h => h) (Or.inl ⟨by rfl, ?_⟩) hHeld ?_ ?_
    rotate_left
    ·rintro w' ⟨s0, s1, s2⟩
     go_simp
     with_reducible rfl
    rotate_left
    ·simp only [Act.put, List.setIfInBounds_toArray, List.set_cons_zero, List.set_cons_succ, i64_w, i32_w]
     rfl
    refine one_ (i := 2) (N := some 37) #[true, true, true, false, false] rfl rfl (by kernel_rfl) (by decide) (fun K hK => ?_)
    refine call_ 18 #[.string ⟨#[114, 101, 100, 105, 114, 101, 99, 116, 95, 117, 114, 105]⟩, .pointer (some ⟨g7, 0, none⟩)] (by rfl) rfl (by go_simp) ?_
    refine (ask_get l ⟨#[114, 101, 100, 105, 114, 101, 99, 116, 95, 117, 114, 105]⟩ A2 c2 g7 _ (Kd.F_now HF.out) hl2 ((blk_cell BK7.out 0).trans rfl)).mono ?_
    rw [← G_re.out]
    rintro e_ w_ ⟨rfl, hb⟩
    refine ⟨_, rfl, ?_⟩
    have n_BK0 := Aside0.mk (blk_below BK0.out hb)
    have n_BK4 := Aside0.mk (blk_below BK4.out hb)
    have n_BK7 := Aside0.mk (blk_below BK7.out hb)
    have n_BK10 := Aside0.mk (blk_below BK10.out hb)
    have n_HB := Aside0.mk (below_step HB.out hb)
    have n_HF := Aside0.mk (Kd.F_below HF.out hb)
    have n_HZ := Aside0.mk (Nat.le_trans HZ.out hb.size)
    have n_HV := Aside0.mk (Kd.V_below HV.out hb)
    clear BK0 BK4 BK7 BK10 HB HF HZ HV
    have BK0 := n_BK0
    have BK4 := n_BK4
    have BK7 := n_BK7
    have BK10 := n_BK10
    have HB := n_HB
    have HF := n_HF
    have HZ := n_HZ
    have HV := n_HV
    clear n_BK0 n_BK4 n_BK7 n_BK10 n_HB n_HF n_HZ n_HV hb
    refine hK.out _ _ ⟨((blk_cell BK10.out 0).trans rfl), ((blk_cell BK10.out 1).trans rfl), ((blk_cell BK10.out 2).trans rfl)⟩ (fun hHeld => ?_)
    clear hK K
    refine norm_ (a' := ?_) ?_ ?_
    rotate_left
    ·show Act.put _ (some 37) _ = _
     simp only [Act.put, List.setIfInBounds_toArray, List.set_cons_zero, List.set_cons_succ, i64_w, i32_w]
     rfl
    refine one_ (i := 3) (N := some 38) #[true, true, true, true, false] rfl rfl (by kernel_rfl) (by decide) (fun K hK => ?_)
    refine goes_ Tryd.func21 (by kernel_rfl) rfl #[.agg #[.string id, .string sec, .slice A5 tos.length c5], .string re] (by rfl) rfl rfl (by simp only [List.map_toArray, List.map_cons, List.map_nil]; rfl) ?_
    refine (client_Redirect.calls kq id sec A5 c5 tos re rd _ (Kd.V_reads' HV.out).2.2 (Kd.V_reads' HV.out).2.1 HRD.out).mono ?_
    rintro e_ w_ ⟨rfl, hb⟩
    refine ⟨_, rfl, ?_⟩
    have n_BK0 := Aside0.mk (blk_below BK0.out hb)
    have n_BK4 := Aside0.mk (blk_below BK4.out hb)
    have n_BK7 := Aside0.mk (blk_below BK7.out hb)
    have n_BK10 := Aside0.mk (blk_below BK10.out hb)
    have n_HB := Aside0.mk (below_step HB.out hb)
    have n_HF := Aside0.mk (Kd.F_below HF.out hb)
    have n_HZ := Aside0.mk (Nat.le_trans HZ.out hb.size)
    have n_HV := Aside0.mk (Kd.V_below HV.out hb)
    clear BK0 BK4 BK7 BK10 HB HF HZ HV
    have BK0 := n_BK0
    have BK4 := n_BK4
    have BK7 := n_BK7
    have BK10 := n_BK10
    have HB := n_HB
    have HF := n_HF
    have HZ := n_HZ
    have HV := n_HV
    clear n_BK0 n_BK4 n_BK7 n_BK10 n_HB n_HF n_HZ n_HV hb
    refine hK.out _ _ ⟨((blk_cell BK10.out 0).trans rfl), ((blk_cell BK10.out 1).trans rfl), ((blk_cell BK10.out 2).trans rfl)⟩ (fun hHeld => ?_)
    clear hK K
    refine norm_ (a' := ?_) ?_ ?_
    rotate_left
    ·show Act.put _ (some 38) _ = _
     simp only [Act.put, List.setIfInBounds_toArray, List.set_cons_zero, List.set_cons_succ, i64_w, i32_w]
     rfl
    refine pure_ (i := 4) (N := some 39) (v := ?_) (a' := ?_) #[true, true, true, true, true] rfl rfl (by kernel_rfl) (fun _ _ _ h => h) (Or.inl ⟨by rfl, ?_⟩) ?_ ?_
    rotate_left
    ·intro w'
     go_simp
     with_reducible rfl
    rotate_left
    ·simp only [Act.put, List.setIfInBounds_toArray, List.set_cons_zero, List.set_cons_succ, i64_w, i32_w]
     rfl
    refine done_ (by kernel_rfl) ?_
    cases rd with
    | false =>
     have H5 := Aside0.mk (show r = askNo ⟨#[105, 110, 118, 97, 108, 105, 100, 95, 114, 101, 113, 117, 101, 115, 116]⟩ from by have := HQ.out; rw [if_pos rfl] at this; exact (Option.some.inj this).symm)
     obtain ⟨d_0, d_1, d_2, d_3, d_4, d_5⟩ := cl6 BK4.out
     obtain ⟨e_0, e_1, e_2, e_3, e_4, e_5⟩ := fz6 BK4.out
     go_wp2
     obtain rfl := H5.out
     refine ret6 (fill6 BK4.out) rfl rfl rfl ?_
     exact ⟨rfl, bel6 HB.out (by omega)⟩
    | true =>
     have hq := HQ.out
     rw [if_neg (by simp)] at hq
     split at hq
     case isFalse => cases hq
     rename_i hsz4
     obtain ⟨z1, z2, z3, z4⟩ := hsz4
     have HQ5 := Aside0.mk hq
     clear hq HQ
     go_wp2_with fail
     have n_BK0 := Aside0.mk (show w_.drew.heap[w.heap.size]? = _ from BK0.out)
     have n_BK4 := Aside0.mk (show w_.drew.heap[w.heap.size + 1]? = _ from BK4.out)
     have n_BK7 := Aside0.mk (show w_.drew.heap[g7]? = _ from BK7.out)
     have n_BK10 := Aside0.mk (show w_.drew.heap[g10]? = _ from BK10.out)
     have n_HB := Aside0.mk (below_drew1 HB.out)
     have n_HF := Aside0.mk (Kd.F_drew HF.out)
     have n_HV := Aside0.mk (Kd.V_drew HV.out)
     have n_HZ := Aside0.mk (show n4 ≤ w_.drew.heap.size from HZ.out)
     clear BK0 BK4 BK7 BK10 HB HF HV HZ
     refine start_ (n := 14) (S := fun w' => w'.cell? ⟨g10, 0, none⟩ = some (.string id)) (ds := []) #[false, false, false, false, false, false, false, false, false, false, false, false, false, false] (by kernel_rfl) rfl rfl (((blk_cell n_BK10.out 0).trans rfl)) (fun hHeld => ?_)
     have BK0 := n_BK0
     have BK4 := n_BK4
     have BK7 := n_BK7
     have BK10 := n_BK10
     have HB := n_HB
     have HF := n_HF
     have HV := n_HV
     have HZ := n_HZ
     clear n_BK0 n_BK4 n_BK7 n_BK10 n_HB n_HF n_HV n_HZ
     generalize w_.drew = w8 at BK0 BK4 BK7 BK10 HB HF HV HZ hHeld ⊢
     refine pure_ (i := 0) (N := some 41) (v := ?_) (a' := ?_) #[true, false, false, false, false, false, false, false, false, false, false, false, false, false] rfl rfl (by kernel_rfl) (fun _ _ _ h => h) (Or.inl ⟨by rfl, ?_⟩) ?_ ?_
     rotate_left
     ·intro w'
      go_simp
      with_reducible rfl
     rotate_left
     ·simp only [Act.put, List.setIfInBounds_toArray, List.set_cons_zero, List.set_cons_succ, i64_w, i32_w]
      rfl
     refine pure_ (i := 2) (N := some 43) (v := ?_) (a' := ?_) #[true, false, true, false, false, false, false, false, false, false, false, false, false, false] rfl rfl (by kernel_rfl) (fun _ _ _ h => h) (Or.inl ⟨by rfl, ?_⟩) ?_ ?_
     rotate_left
     ·intro w'
      go_simp
      with_reducible rfl
     rotate_left
     ·simp only [Act.put, List.setIfInBounds_toArray, List.set_cons_zero, List.set_cons_succ, i64_w, i32_w]
      rfl
     refine pure_ (i := 4) (N := some 45) (v := ?_) (a' := ?_) #[true, false, true, false, true, false, false, false, false, false, false, false, false, false] rfl rfl (by kernel_rfl) (fun _ _ _ h => h) (Or.inl ⟨by rfl, ?_⟩) ?_ ?_
     rotate_left
     ·intro w'
      go_simp
      with_reducible rfl
     rotate_left
     ·simp only [Act.put, List.setIfInBounds_toArray, List.set_cons_zero, List.set_cons_succ, i64_w, i32_w]
      rfl
     refine pure_ (i := 6) (N := some 47) (v := ?_) (a' := ?_) #[true, false, true, false, true, false, true, false, false, false, false, false, false, false] rfl rfl (by kernel_rfl) (fun _ _ _ h => h) (Or.inl ⟨by rfl, ?_⟩) ?_ ?_
     rotate_left
     ·intro w'
      go_simp
      with_reducible rfl
     rotate_left
     ·simp only [Act.put, List.setIfInBounds_toArray, List.set_cons_zero, List.set_cons_succ, i64_w, i32_w]
      rfl
     refine pure_ (i := 8) (N := some 49) (v := ?_) (a' := ?_) #[true, false, true, false, true, false, true, false, true, false, false, false, false, false] rfl rfl (by kernel_rfl) (fun _ _ _ h => h) (Or.inl ⟨by rfl, ?_⟩) ?_ ?_
     rotate_left
     ·intro w'
      go_simp
      with_reducible rfl
     rotate_left
     ·simp only [Act.put, List.setIfInBounds_toArray, List.set_cons_zero, List.set_cons_succ, i64_w, i32_w]
      rfl
     refine pure_ (i := 10) (N := some 51) (v := ?_) (a' := ?_) #[true, false, true, false, true, false, true, false, true, false, true, false, false, false] rfl rfl (by kernel_rfl) (fun _ _ _ h => h) (Or.inl ⟨by rfl, ?_⟩) ?_ ?_
     rotate_left
     ·intro w'
      go_simp
      with_reducible rfl
     rotate_left
     ·simp only [Act.put, List.setIfInBounds_toArray, List.set_cons_zero, List.set_cons_succ, i64_w, i32_w]
      rfl
     refine take_ (i := 1) (N := some 42) (v := ?_) (a' := ?_) #[true, true, true, false, true, false, true, false, true, false, true, false, false, false] rfl rfl (by kernel_rfl) (fun _ _ _ h => h) (Or.inl ⟨by rfl, ?_⟩) hHeld ?_ ?_
     rotate_left
     ·intro w' s0
      go_simp
      with_reducible rfl
     rotate_left
     ·simp only [Act.put, List.setIfInBounds_toArray, List.set_cons_zero, List.set_cons_succ, i64_w, i32_w]
      rfl
     refine one_ (i := 3) (N := some 44) #[true, true, true, true, true, false, true, false, true, false, true, false, false, false] rfl rfl (by kernel_rfl) (by decide) (fun K hK => ?_)
     refine call_ 18 #[.string ⟨#[114, 101, 100, 105, 114, 101, 99, 116, 95, 117, 114, 105]⟩, .pointer (some ⟨g7, 0, none⟩)] (by rfl) rfl (by go_simp) ?_
     refine (ask_get l ⟨#[114, 101, 100, 105, 114, 101, 99, 116, 95, 117, 114, 105]⟩ A2 c2 g7 _ (Kd.F_now HF.out) hl2 ((blk_cell BK7.out 0).trans rfl)).mono ?_
     rw [← G_re.out]
     rintro e_ w_ ⟨rfl, hb⟩
     refine ⟨_, rfl, ?_⟩
     have n_BK0 := Aside0.mk (blk_below BK0.out hb)
     have n_BK4 := Aside0.mk (blk_below BK4.out hb)
     have n_BK7 := Aside0.mk (blk_below BK7.out hb)
     have n_BK10 := Aside0.mk (blk_below BK10.out hb)
     have n_HB := Aside0.mk (below_step HB.out hb)
     have n_HF := Aside0.mk (Kd.F_below HF.out hb)
     have n_HZ := Aside0.mk (Nat.le_trans HZ.out hb.size)
     have n_HV := Aside0.mk (Kd.V_below HV.out hb)
     clear BK0 BK4 BK7 BK10 HB HF HZ HV
     have BK0 := n_BK0
     have BK4 := n_BK4
     have BK7 := n_BK7
     have BK10 := n_BK10
     have HB := n_HB
     have HF := n_HF
     have HZ := n_HZ
     have HV := n_HV
     clear n_BK0 n_BK4 n_BK7 n_BK10 n_HB n_HF n_HZ n_HV hb
     refine hK.out _ _ (((blk_cell BK10.out 0).trans rfl)) (fun hHeld => ?_)
     clear hK K
     refine norm_ (a' := ?_) ?_ ?_
     rotate_left
     ·show Act.put _ (some 44) _ = _
      simp only [Act.put, List.setIfInBounds_toArray, List.set_cons_zero, List.set_cons_succ, i64_w, i32_w]
      rfl
     refine one_ (i := 5) (N := some 46) #[true, true, true, true, true, true, true, false, true, false, true, false, false, false] rfl rfl (by kernel_rfl) (by decide) (fun K hK => ?_)
     refine call_ 18 #[.string ⟨#[115, 116, 97, 116, 101]⟩, .pointer (some ⟨g7, 0, none⟩)] (by rfl) rfl (by go_simp) ?_
     refine (ask_get l ⟨#[115, 116, 97, 116, 101]⟩ A2 c2 g7 _ (Kd.F_now HF.out) hl2 ((blk_cell BK7.out 0).trans rfl)).mono ?_
     rw [← G_st.out]
     rintro e_ w_ ⟨rfl, hb⟩
     refine ⟨_, rfl, ?_⟩
     have n_BK0 := Aside0.mk (blk_below BK0.out hb)
     have n_BK4 := Aside0.mk (blk_below BK4.out hb)
     have n_BK7 := Aside0.mk (blk_below BK7.out hb)
     have n_BK10 := Aside0.mk (blk_below BK10.out hb)
     have n_HB := Aside0.mk (below_step HB.out hb)
     have n_HF := Aside0.mk (Kd.F_below HF.out hb)
     have n_HZ := Aside0.mk (Nat.le_trans HZ.out hb.size)
     have n_HV := Aside0.mk (Kd.V_below HV.out hb)
     clear BK0 BK4 BK7 BK10 HB HF HZ HV
     have BK0 := n_BK0
     have BK4 := n_BK4
     have BK7 := n_BK7
     have BK10 := n_BK10
     have HB := n_HB
     have HF := n_HF
     have HZ := n_HZ
     have HV := n_HV
     clear n_BK0 n_BK4 n_BK7 n_BK10 n_HB n_HF n_HZ n_HV hb
     refine hK.out _ _ (((blk_cell BK10.out 0).trans rfl)) (fun hHeld => ?_)
     clear hK K
     refine norm_ (a' := ?_) ?_ ?_
     rotate_left
     ·show Act.put _ (some 46) _ = _
      simp only [Act.put, List.setIfInBounds_toArray, List.set_cons_zero, List.set_cons_succ, i64_w, i32_w]
      rfl
     refine one_ (i := 7) (N := some 48) #[true, true, true, true, true, true, true, true, true, false, true, false, false, false] rfl rfl (by kernel_rfl) (by decide) (fun K hK => ?_)
     refine call_ 18 #[.string ⟨#[110, 111, 110, 99, 101]⟩, .pointer (some ⟨g7, 0, none⟩)] (by rfl) rfl (by go_simp) ?_
     refine (ask_get l ⟨#[110, 111, 110, 99, 101]⟩ A2 c2 g7 _ (Kd.F_now HF.out) hl2 ((blk_cell BK7.out 0).trans rfl)).mono ?_
     rw [← G_no.out]
     rintro e_ w_ ⟨rfl, hb⟩
     refine ⟨_, rfl, ?_⟩
     have n_BK0 := Aside0.mk (blk_below BK0.out hb)
     have n_BK4 := Aside0.mk (blk_below BK4.out hb)
     have n_BK7 := Aside0.mk (blk_below BK7.out hb)
     have n_BK10 := Aside0.mk (blk_below BK10.out hb)
     have n_HB := Aside0.mk (below_step HB.out hb)
     have n_HF := Aside0.mk (Kd.F_below HF.out hb)
     have n_HZ := Aside0.mk (Nat.le_trans HZ.out hb.size)
     have n_HV := Aside0.mk (Kd.V_below HV.out hb)
     clear BK0 BK4 BK7 BK10 HB HF HZ HV
     have BK0 := n_BK0
     have BK4 := n_BK4
     have BK7 := n_BK7
     have BK10 := n_BK10
     have HB := n_HB
     have HF := n_HF
     have HZ := n_HZ
     have HV := n_HV
     clear n_BK0 n_BK4 n_BK7 n_BK10 n_HB n_HF n_HZ n_HV hb
     refine hK.out _ _ (((blk_cell BK10.out 0).trans rfl)) (fun hHeld => ?_)
     clear hK K
     refine norm_ (a' := ?_) ?_ ?_
     rotate_left
     ·show Act.put _ (some 48) _ = _
      simp only [Act.put, List.setIfInBounds_toArray, List.set_cons_zero, List.set_cons_succ, i64_w, i32_w]
      rfl
     refine one_ (i := 9) (N := some 50) #[true, true, true, true, true, true, true, true, true, true, true, false, false, false] rfl rfl (by kernel_rfl) (by decide) (fun K hK => ?_)
     refine call_ 18 #[.string ⟨#[115, 99, 111, 112, 101]⟩, .pointer (some ⟨g7, 0, none⟩)] (by rfl) rfl (by go_simp) ?_
     refine (ask_get l ⟨#[115, 99, 111, 112, 101]⟩ A2 c2 g7 _ (Kd.F_now HF.out) hl2 ((blk_cell BK7.out 0).trans rfl)).mono ?_
     rw [← G_sc.out]
     rintro e_ w_ ⟨rfl, hb⟩
     refine ⟨_, rfl, ?_⟩
     have n_BK0 := Aside0.mk (blk_below BK0.out hb)
     have n_BK4 := Aside0.mk (blk_below BK4.out hb)
     have n_BK7 := Aside0.mk (blk_below BK7.out hb)
     have n_BK10 := Aside0.mk (blk_below BK10.out hb)
     have n_HB := Aside0.mk (below_step HB.out hb)
     have n_HF := Aside0.mk (Kd.F_below HF.out hb)
     have n_HZ := Aside0.mk (Nat.le_trans HZ.out hb.size)
     have n_HV := Aside0.mk (Kd.V_below HV.out hb)
     clear BK0 BK4 BK7 BK10 HB HF HZ HV
     have BK0 := n_BK0
     have BK4 := n_BK4
     have BK7 := n_BK7
     have BK10 := n_BK10
     have HB := n_HB
     have HF := n_HF
     have HZ := n_HZ
     have HV := n_HV
     clear n_BK0 n_BK4 n_BK7 n_BK10 n_HB n_HF n_HZ n_HV hb
     refine hK.out _ _ (((blk_cell BK10.out 0).trans rfl)) (fun hHeld => ?_)
     clear hK K
     refine norm_ (a' := ?_) ?_ ?_
     rotate_left
     ·show Act.put _ (some 50) _ = _
      simp only [Act.put, List.setIfInBounds_toArray, List.set_cons_zero, List.set_cons_succ, i64_w, i32_w]
      rfl
     refine one_ (i := 11) (N := some 52) #[true, true, true, true, true, true, true, true, true, true, true, true, false, false] rfl rfl (by kernel_rfl) (by decide) (fun K hK => ?_)
     refine call_ 18 #[.string ⟨#[99, 111, 100, 101, 95, 99, 104, 97, 108, 108, 101, 110, 103, 101]⟩, .pointer (some ⟨g7, 0, none⟩)] (by rfl) rfl (by go_simp) ?_
     refine (ask_get l ⟨#[99, 111, 100, 101, 95, 99, 104, 97, 108, 108, 101, 110, 103, 101]⟩ A2 c2 g7 _ (Kd.F_now HF.out) hl2 ((blk_cell BK7.out 0).trans rfl)).mono ?_
     rw [← G_ch.out]
     rintro e_ w_ ⟨rfl, hb⟩
     refine ⟨_, rfl, ?_⟩
     have n_BK0 := Aside0.mk (blk_below BK0.out hb)
     have n_BK4 := Aside0.mk (blk_below BK4.out hb)
     have n_BK7 := Aside0.mk (blk_below BK7.out hb)
     have n_BK10 := Aside0.mk (blk_below BK10.out hb)
     have n_HB := Aside0.mk (below_step HB.out hb)
     have n_HF := Aside0.mk (Kd.F_below HF.out hb)
     have n_HZ := Aside0.mk (Nat.le_trans HZ.out hb.size)
     have n_HV := Aside0.mk (Kd.V_below HV.out hb)
     clear BK0 BK4 BK7 BK10 HB HF HZ HV
     have BK0 := n_BK0
     have BK4 := n_BK4
     have BK7 := n_BK7
     have BK10 := n_BK10
     have HB := n_HB
     have HF := n_HF
     have HZ := n_HZ
     have HV := n_HV
     clear n_BK0 n_BK4 n_BK7 n_BK10 n_HB n_HF n_HZ n_HV hb
     refine hK.out _ _ (((blk_cell BK10.out 0).trans rfl)) (fun hHeld => ?_)
     clear hK K
     refine norm_ (a' := ?_) ?_ ?_
     rotate_left
     ·show Act.put _ (some 52) _ = _
      simp only [Act.put, List.setIfInBounds_toArray, List.set_cons_zero, List.set_cons_succ, i64_w, i32_w]
      rfl
     refine pure_ (i := 12) (N := some 53) (v := ?_) (a' := ?_) #[true, true, true, true, true, true, true, true, true, true, true, true, true, false] rfl rfl (by kernel_rfl) (fun _ _ _ h => h) (Or.inl ⟨by rfl, ?_⟩) ?_ ?_
     rotate_left
     ·intro w'
      go_simp
      with_reducible rfl
     rotate_left
     ·simp only [Act.put, List.setIfInBounds_toArray, List.set_cons_zero, List.set_cons_succ, i64_w, i32_w]
      rfl
     refine one_ (i := 13) (N := none) #[true, true, true, true, true, true, true, true, true, true, true, true, true, true] rfl rfl (by kernel_rfl) (by decide) (fun K hK => ?_)
     obtain ⟨d_0, d_1, d_2, d_3, d_4, d_5⟩ := cl6 BK4.out
     obtain ⟨e_0, e_1, e_2, e_3, e_4, e_5⟩ := fz6 BK4.out
     refine skip_ (w1 := ?_) (by rfl) rfl ?_ ?_
     rotate_left
     ·go_simp
      rfl
     clear d_0 d_1 d_2 d_3 d_4 d_5 e_0 e_1 e_2 e_3 e_4 e_5
     have n_BK4 := Aside0.mk (fill6 (u0 := .string id) (u1 := .string re) (u2 := .string st) (u3 := .string no) (u4 := .string sc) (u5 := .string ch) BK4.out)
     have n_BK0 := Aside0.mk (far6 (u0 := .string id) (u1 := .string re) (u2 := .string st) (u3 := .string no) (u4 := .string sc) (u5 := .string ch) (g := (w.heap.size + 1)) BK0.out (by omega))
     have n_BK7 := Aside0.mk (far6 (u0 := .string id) (u1 := .string re) (u2 := .string st) (u3 := .string no) (u4 := .string sc) (u5 := .string ch) (g := (w.heap.size + 1)) BK7.out (by omega))
     have n_BK10 := Aside0.mk (far6 (u0 := .string id) (u1 := .string re) (u2 := .string st) (u3 := .string no) (u4 := .string sc) (u5 := .string ch) (g := (w.heap.size + 1)) BK10.out (by omega))
     have n_HB := Aside0.mk (bel6 (u0 := .string id) (u1 := .string re) (u2 := .string st) (u3 := .string no) (u4 := .string sc) (u5 := .string ch) (g := (w.heap.size + 1)) HB.out (by omega))
     have n_HF := Aside0.mk (Ff6 (u0 := .string id) (u1 := .string re) (u2 := .string st) (u3 := .string no) (u4 := .string sc) (u5 := .string ch) (g := (w.heap.size + 1)) HF.out (fun k hk => by omega))
     have n_HZ := Aside0.mk (siz6 (u0 := .string id) (u1 := .string re) (u2 := .string st) (u3 := .string no) (u4 := .string sc) (u5 := .string ch) (g := (w.heap.size + 1)) HZ.out)
     have n_HV := Aside0.mk (Vf6 (u0 := .string id) (u1 := .string re) (u2 := .string st) (u3 := .string no) (u4 := .string sc) (u5 := .string ch) (g := (w.heap.size + 1)) HV.out (fun k hk => by have := hk.1; omega))
     clear BK4 BK0 BK7 BK10 HB HF HZ HV
     have BK4 := n_BK4
     have BK0 := n_BK0
     have BK7 := n_BK7
     have BK10 := n_BK10
     have HB := n_HB
     have HF := n_HF
     have HZ := n_HZ
     have HV := n_HV
     clear n_BK4 n_BK0 n_BK7 n_BK10 n_HB n_HF n_HZ n_HV
     refine hK.out _ _ (((blk_cell BK10.out 0).trans rfl)) (fun hHeld => ?_)
     clear hK K
     refine done_ (by kernel_rfl) ?_
     generalize ((((((w_.setCell ⟨w.heap.size + 1, 0, none⟩ (.string id)).setCell ⟨w.heap.size + 1, 1, none⟩ (.string re)).setCell ⟨w.heap.size + 1, 2, none⟩ (.string st)).setCell ⟨w.heap.size + 1, 3, none⟩ (.string no)).setCell ⟨w.heap.size + 1, 4, none⟩ (.string sc)).setCell ⟨w.heap.size + 1, 5, none⟩ (.string ch)) = w9 at BK0 BK4 BK7 BK10 HB HF HV HZ ⊢
     obtain ⟨d_0, d_1, d_2, d_3, d_4, d_5⟩ := cl6 BK4.out
     obtain ⟨e_0, e_1, e_2, e_3, e_4, e_5⟩ := fz6 BK4.out
     go_wp2_with fail
     refine (ask_problem id re st no sc ch l A2 c2 g7 w9 (Kd.F_now HF.out) hl2 ((blk_cell BK7.out 0).trans rfl) (GOK.below HGK.out HB.out) (by omega) (by omega) (by omega) (by omega)).mono ?_
     rw [← HPR.out]
     rintro e_ w_ ⟨rfl, hb⟩
     clear d_0 d_1 d_2 d_3 d_4 d_5 e_0 e_1 e_2 e_3 e_4 e_5
     have n_BK0 := Aside0.mk (blk_below BK0.out hb)
     have n_BK4 := Aside0.mk (blk_below BK4.out hb)
     have n_BK7 := Aside0.mk (blk_below BK7.out hb)
     have n_BK10 := Aside0.mk (blk_below BK10.out hb)
     have n_HB := Aside0.mk (below_step HB.out hb)
     have n_HF := Aside0.mk (Kd.F_below HF.out hb)
     have n_HZ := Aside0.mk (Nat.le_trans HZ.out hb.size)
     have n_HV := Aside0.mk (Kd.V_below HV.out hb)
     clear BK0 BK4 BK7 BK10 HB HF HZ HV
     have BK0 := n_BK0
     have BK4 := n_BK4
     have BK7 := n_BK7
     have BK10 := n_BK10
     have HB := n_HB
     have HF := n_HF
     have HZ := n_HZ
     have HV := n_HV
     clear n_BK0 n_BK4 n_BK7 n_BK10 n_HB n_HF n_HZ n_HV hb
     obtain ⟨d_0, d_1, d_2, d_3, d_4, d_5⟩ := cl6 BK4.out
     obtain ⟨e_0, e_1, e_2, e_3, e_4, e_5⟩ := fz6 BK4.out
     by_cases hp0 : pr.toList = []
     ·have q1 : (pr.toList == []) = true := beq_iff_eq.mpr hp0
      have q2 : pr.toList.isEmpty = true := by rw [hp0]; rfl
      have H5 := Aside0.mk (show r = (id, re, st, no, sc, ch, ⟨#[]⟩, false) from by have := HQ5.out; rw [if_pos hp0] at this; exact (Option.some.inj this).symm)
      clear hp0
      go_wp2
      obtain rfl := H5.out
      refine ret6 (fill6 BK4.out) rfl rfl rfl ?_
      exact ⟨rfl, bel6 HB.out (by omega)⟩
     ·have q1 : (pr.toList == []) = false := beq_eq_false_iff_ne.mpr hp0
      have q2 : pr.toList.isEmpty = false := by simpa using hp0
      have H5 := Aside0.mk (show r = (id, re, if 256 < st.size then ⟨#[]⟩ else st, ⟨#[]⟩, ⟨#[]⟩, ⟨#[]⟩, pr, true) from by have := HQ5.out; rw [if_neg hp0] at this; exact (Option.some.inj this).symm)
      clear hp0
      by_cases hs : 256 < st.size
      ·have q3 : decide ((256 : Int) < (st.size : Int)) = true := decide_eq_true (by omega)
       have H6 := Aside0.mk hs
       clear hs
       go_wp2
       obtain rfl := H5.out
       have hs := H6.out
       refine ret6 (fill6 (put2 BK4.out)) rfl rfl rfl ?_
       exact ⟨by rw [if_pos hs]; rfl, bel6 (below_set HB.out (by omega)) (by omega)⟩
      ·have q3 : decide ((256 : Int) < (st.size : Int)) = false := decide_eq_false (by omega)
       have H6 := Aside0.mk hs
       clear hs
       go_wp2
       obtain rfl := H5.out
       have hs := H6.out
       refine ret6 (fill6 BK4.out) rfl rfl rfl ?_
       exact ⟨by rw [if_neg hs]; rfl, bel6 HB.out (by omega)⟩
 ·have H3 := Aside0.mk (show r = askNo ⟨#[105, 110, 118, 97, 108, 105, 100, 95, 114, 101, 113, 117, 101, 115, 116]⟩ from by have := H.out; rw [if_neg he] at this; exact (Option.some.inj this).symm)
  have heb : (e == 0) = false := beq_eq_false_iff_ne.mpr he
  have heb2 : (e != 0) = true := bne_iff_ne.mpr he
  obtain ⟨d40, d41, d42, d43, d44, d45⟩ := cl6 BK4.out
  obtain ⟨f40, f41, f42, f43, f44, f45⟩ := fz6 BK4.out
  clear he H
  go_wp2
  obtain rfl := H3.out
  refine ret6 (blk_alloc (fill6 BK4.out) _) rfl rfl rfl ?_
  exact ⟨rfl, below_alloc (bel6 HB.out (Nat.le_succ _)) _⟩
theorem ask_Check.calls (a0_0 a0_1 a0_2 : ByteArray) (A0_3 : Option Addr) (c0_3 : Nat) (l0_3 : List (S43)) (A0_4 : Option Addr) (c0_4 : Nat) (l0_4 : List (S129)) (a1 : ByteArray) (r1 r2 r3 r4 r5 r6 r7 : ByteArray) (r8 : Bool) (w : World) (hr0_3 : Kd.C k43 w A0_3 l0_3.length l0_3) (hc0_3 : l0_3.length ≤ c0_3) (hr0_4 : Kd.C k129 w A0_4 l0_4.length l0_4) (hc0_4 : l0_4.length ≤ c0_4)
  (h : ask_Check.f a0_0 a0_1 a0_2 l0_3 l0_4 a1 = some (r1, r2, r3, r4, r5, r6, r7, r8)) (hG : GOK w := by first | assumption | exact hG | exact GOK.drewN _ hG | exact GOK.below hG (by repeat (first | (with_reducible first | exact HB.out | apply below_alloc | apply pw_below_drewN | apply below_drew1 | refine below_set ?_ (Aside0.out (by assumption))) | exact HB.out))) :
  Calls Tryd.prog 8 #[.agg #[.string a0_0, .string a0_1, .string a0_2, .slice A0_3 l0_3.length c0_3, .slice A0_4 l0_4.length c0_4], .string a1] w fun e w' => e = .returned (.tuple #[.agg #[.string r1, .string r2, .string r3, .string r4, .string r5, .string r6], .string r7, .bool r8]) ∧ Below w.heap.size w w' :=
 ask_Check.calls_ a0_0 a0_1 a0_2 A0_3 c0_3 l0_3 A0_4 c0_4 l0_4 a1 _ w hr0_3 hc0_3 hr0_4 hc0_4 h hG
end Go.Proofs.YtmhaaggmfgojbaaDoor.X

/-! HAskG -/
namespace Go.Proofs.YtmhaaggmfgojbaaDoor.X
open Go.RowKit Go.Proofs.YtmhaaggmfgojbaaDoorW.PrintWords Go.Proofs.YtmhaaggmfgojbaaDoor.Spec
set_option linter.unusedVariables false
set_option linter.unusedSimpArgs false
theorem hasB_eq (x : ByteArray) (l : List ByteArray) : hasB x l = hasT x l := by
 unfold hasB hasT
 congr 1
 funext y
 rw [Bool.eq_iff_iff, beq_iff_eq, beq_iff_eq]
 exact eq_comm
end Go.Proofs.YtmhaaggmfgojbaaDoor.X

/-! HPfm -/
namespace Go.Proofs.YtmhaaggmfgojbaaDoor.X
open Go.RowKit Go.Proofs.YtmhaaggmfgojbaaDoorW.PrintWords Go.Proofs.YtmhaaggmfgojbaaDoor.Spec
set_option linter.unusedVariables false
set_option linter.unusedSimpArgs false
def formFin (r : Option (List Pr)) : List Pr × Int := match r with | none => ([], 2) | some l => if 64 < l.length then ([], 3) else (l, 0)
theorem parse_f (s : ByteArray) : pairs_Parse.f s = some (if 4096 < s.size then ([], 3) else formFin (formOf (spParts 38 s))) := rfl
theorem parse_small (s : ByteArray) (r : List Pr × Int) (h : pairs_Parse.f s = some r) : r.1.length ≤ 64 := by
 rw [parse_f] at h
 obtain rfl := Option.some.inj h
 split
 ·simp
 ·unfold formFin
  split
  ·simp
  ·split
   ·simp
   ·simp only; omega
end Go.Proofs.YtmhaaggmfgojbaaDoor.X
