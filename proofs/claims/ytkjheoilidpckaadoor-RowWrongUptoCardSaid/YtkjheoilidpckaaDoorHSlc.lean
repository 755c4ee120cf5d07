/- slices.Clone, slices.Clip, slices.Grow of nothing, slices.Concat at []string, in the printer's form. -/
import Derived.Test.YtkjheoilidpckaaDoorX0
import Derived.Test.YtkjheoilidpckaaDoorHSpec
import Derived.WalkKit
import Derived.Deep.LoopGhost
import Derived.Lib.LazyBuf
namespace Go.Proofs.YtkjheoilidpckaaDoor.X
open Go.RowKit Go.Proofs.YtkjheoilidpckaaDoorW.PrintWords Go.Proofs.YtkjheoilidpckaaDoorW.PrintLast Go.Proofs.YtkjheoilidpckaaDoorW.PrintMore Go.Proofs.YtkjheoilidpckaaDoor.Spec
set_option linter.unusedVariables false
set_option linter.unusedSimpArgs false

theorem slc_info : (Tryd.prog.info? 9).map (fun i => (i.zero, i.size, i.bytes)) = some (some (.string ⟨#[]⟩), 1, 16) := by kernel_rfl
theorem slc_eq (w : World) (a : Option Addr) (n c : Nat) : (binOp .eql 22 (.slice a n c) (.slice none 0 0)).run Tryd.prog w = .ok (.bool a.isNone) w := run_eql_slice_nil w _ _ a n c Tryd.underlying22
theorem slc_made (w : World) (base : Nat) (hb : base ≤ w.heap.size) : Kd.R Kd.string 9 (w.alloc (.cells #[] 9)) base (fun _ => True) (.slice (some ⟨w.heap.size, 0, none⟩) 0 0) [] :=
  Kd.R_of_own (World.ownsRow_made w #[] 0 hb (Nat.zero_le _) rfl) (fun _ _ => trivial)

def slices_Clone_string_string.f (l : List ByteArray) : Option (List ByteArray) := if l.length ≤ 1000000000 then some l else none
set_option maxHeartbeats 2000000 in
set_option maxRecDepth 100000 in
theorem slices_Clone_string_string.calls (A0 : Option Addr) (c0 : Nat) (l0 : List ByteArray) (r : List ByteArray) (w : World) (hr0 : Kd.C Kd.string w A0 l0.length l0) (hc0 : l0.length ≤ c0) (h : slices_Clone_string_string.f l0 = some r) :
    Calls Tryd.prog 38 #[.slice A0 l0.length c0] w fun e w' => ∃ v0_ : Value, e = .returned v0_ ∧ Kd.R Kd.string 9 w' w.heap.size (fun _ => True) v0_ r ∧ Below w.heap.size w w' := by
  unfold slices_Clone_string_string.f at h
  split at h
  case isFalse => cases h
  rename_i hs
  obtain rfl := Option.some.inj h
  clear h
  have hq := slc_eq
  cases A0 with
  | none =>
    have hl : l0 = [] := by
      rcases Nat.eq_zero_or_pos l0.length with h0 | h0
      · exact List.length_eq_zero_iff.1 h0
      · obtain ⟨ad, h, _⟩ := hr0.2.2 h0
        cases h
    subst hl
    go_enter Tryd.func38, Tryd.ntmps38
    go_wp2
    go_ret
    exact ⟨_, rfl, Kd.R_nil _ _ _ _ _, Below.refl _ _⟩
  | some ad =>
    have HR := Aside0.mk hr0
    clear hr0
    have hl1 : l0.length ≤ 1000000000 := hs
    go_enter Tryd.func38, Tryd.ntmps38
    go_wp2_with (at_builtin; refine Kd.R_append_rows Kd.string (w0 := w) w.heap.size rfl (.tmp 5) (.tmp 6) 22 9 (.string ⟨#[]⟩) 16 rfl Tryd.underlying22 slc_info rfl (by decide) (by omega) _ [] l0 _ _ _ (fun _ => True) (fun _ => False) rfl rfl (slc_made w _ (Nat.le_refl _)) (Kd.C_alloc HR.out _) (fun _ _ h => h) (fun _ h => h.elim) (fun _ _ => trivial) ((Below.refl _ w).alloc (Nat.le_refl _) _) (by simp) (by simp; omega) ?_; intro v1 w1 ho hb hg hat)
    have HO := Aside0.mk ho
    have HB := Aside0.mk hb
    clear ho hb hg hat
    go_wp2
    go_ret
    exact ⟨_, rfl, HO.out, HB.out⟩

def slices_Clip_string_string.f (l : List ByteArray) : Option (List ByteArray) := some l
set_option maxHeartbeats 2000000 in
set_option maxRecDepth 100000 in
theorem slices_Clip_string_string.calls (P0_ : Nat → Prop) (A0 : Option Addr) (c0 : Nat) (l0 : List ByteArray) (r : List ByteArray) (w : World) (hs0 : Kd.V Kd.string 9 w w.heap.size (fun k_ => P0_ k_) (.slice A0 l0.length c0) l0) (h : slices_Clip_string_string.f l0 = some r) :
    Calls Tryd.prog 37 #[.slice A0 l0.length c0] w fun e w' => ∃ v0_ : Value, e = .returned v0_ ∧ Kd.V Kd.string 9 w' w.heap.size (fun k_ => (P0_ k_ ∨ w.heap.size ≤ k_)) v0_ r ∧ Below w.heap.size w w' := by
  obtain rfl := Option.some.inj h
  clear h
  obtain ⟨_, hl, hf⟩ := Kd.V_at hs0
  have h63 := (Kd.F_now hf).2.1
  have HV := Aside0.mk (Kd.V_mk (e := 9) (base := w.heap.size) (Nat.le_refl l0.length) (Kd.F_mono hf (fun k hk => (.inl hk : P0_ k ∨ w.heap.size ≤ k))))
  have hnil : A0 = none → l0.length = 0 := by
    intro he
    rcases Nat.eq_zero_or_pos l0.length with h0 | h0
    · exact h0
    · obtain ⟨ad, h, _⟩ := (Kd.F_now hf).2.2 h0
      rw [he] at h
      cases h
  clear hs0 hf
  cases A0 with
  | none =>
    have h0 : l0 = [] := List.length_eq_zero_iff.1 (hnil rfl)
    subst h0
    go_enter Tryd.func37, Tryd.ntmps37
    go_wp2
    go_ret
    exact ⟨_, rfl, HV.out, Below.refl _ _⟩
  | some ad =>
    obtain ⟨ab, ao, asp⟩ := ad
    go_enter Tryd.func37, Tryd.ntmps37
    go_wp2
    go_ret
    exact ⟨_, rfl, HV.out, Below.refl _ _⟩

set_option maxHeartbeats 4000000 in
set_option maxRecDepth 100000 in
theorem slc_grow (n : Nat) (hn : n ≤ 1000000000) (w : World) :
    Calls Tryd.prog 46 #[.slice none 0 0, .int .i64 n] w fun e w' => ∃ v0_ : Value, e = .returned v0_ ∧ Kd.R Kd.string 9 w' w.heap.size (fun _ => True) v0_ [] ∧ Below w.heap.size w w' := by
  have h1 : ¬ ((n : Int) < 0) := by omega
  have h3 : wrap64 ((n : Int) - 0) = (n : Int) := by unfold wrap64; omega
  have h2 : wrap64 ((0 : Int) - 0) = 0 := by unfold wrap64; omega
  rcases Nat.eq_zero_or_pos n with h0 | h0
  · subst h0
    go_enter Tryd.func46, Tryd.ntmps46
    go_wp2
    go_ret
    exact ⟨_, rfl, Kd.R_nil _ _ _ _ _, Below.refl _ _⟩
  · have h4 : (n : Int) > 0 := by omega
    go_enter Tryd.func46, Tryd.ntmps46
    go_wp2_with (at_builtin; refine Kd.R_append_zeros Kd.string (w0 := w) w.heap.size rfl (.tmp 20) (.tmp 21) 22 3 9 (.string ⟨#[]⟩) 16 rfl Tryd.underlying22 Tryd.underlying3 slc_info rfl (by decide) (by omega) _ [] (⟨#[]⟩ : ByteArray) (kx := .i64) (n : Int) (fun _ => True) rfl rfl rfl (fun _ _ => trivial) (Kd.R_nil _ _ _ _ _) (by omega) (Below.refl _ _) (Nat.le_refl _) (by simp; omega) ?_; intro v1 w1 ho hb hg hat; rw [List.nil_append, Int.toNat_natCast] at ho; obtain ⟨ad, c, rfl⟩ := Kd.R_slice1 ho (by simp; omega); rw [List.length_replicate] at ho ⊢; have HO := Aside0.mk ho; have HB := Aside0.mk hb; clear ho hb hg hat; obtain ⟨ab, ao, asp⟩ := ad)
    go_ret
    exact ⟨_, rfl, by simpa using Kd.R_take (m := 0) HO.out (by simp), HB.out⟩

def slices_Concat_string_string.f (l : List (List ByteArray)) : Option (List ByteArray) := if l.flatten.length ≤ 1000000000 ∧ l.length ≤ 1000000000 then some l.flatten else none
theorem slc_part (l : List (List ByteArray)) (k : Nat) : (l.take k).flatten.length ≤ l.flatten.length := by
  have h : (l.take k ++ l.drop k).flatten.length = l.flatten.length := by rw [List.take_append_drop]
  rw [List.flatten_append, List.length_append] at h
  omega
theorem slc_next (l : List (List ByteArray)) (k : Nat) (h : k < l.length) : (l.take (k + 1)).flatten = (l.take k).flatten ++ l[k] := by
  rw [List.take_succ_eq_append_getElem h, List.flatten_append]
  simp

set_option maxHeartbeats 4000000 in
set_option maxRecDepth 100000 in
theorem slices_Concat_string_string.calls (A0 : Option Addr) (c0 : Nat) (l0 : List (List ByteArray)) (r : List ByteArray) (w : World) (hr0 : Kd.C (Kd.slice 9 Kd.string) w A0 l0.length l0) (hc0 : l0.length ≤ c0) (h : slices_Concat_string_string.f l0 = some r) :
    Calls Tryd.prog 36 #[.slice A0 l0.length c0] w fun e w' => ∃ v0_ : Value, e = .returned v0_ ∧ Kd.R Kd.string 9 w' w.heap.size (fun _ => True) v0_ r ∧ Below w.heap.size w w' := by
  unfold slices_Concat_string_string.f at h
  split at h
  case isFalse => cases h
  rename_i hs
  obtain rfl := Option.some.inj h
  clear h
  have HS := Aside0.mk hs.1
  have hl1 : l0.length ≤ 1000000000 := hs.2
  have HR := Aside0.mk hr0
  clear hs hr0
  go_enter Tryd.func36, Tryd.ntmps36
  go_wp2
  go_loopw [3, 11] (fun vs vi wr => ∃ k : Nat, k ≤ l0.length ∧ vi = .int .i64 k ∧ vs = .int .i64 ((l0.take k).flatten.length : Nat) ∧ Aside0 (Below w.heap.size w wr)) (fun _ vi _ => l0.length - (intOf vi).toNat)
  case atStart => exact ⟨0, Nat.zero_le _, rfl, rfl, ⟨Below.refl _ _⟩⟩
  case round =>
    obtain ⟨k, hk, rfl, rfl, HB⟩ := hrel
    by_cases hlt : k < l0.length
    · obtain ⟨x, hx⟩ : ∃ x, l0[k]'hlt = x := ⟨_, rfl⟩
      obtain ⟨ad, cs, rfl, _, ⟨A, c, rfl, hc, hC⟩, hcell⟩ := Kd.C_get (Kd.C_below HR.out HB.out) [] (k : Int) (by omega) (by omega)
      have hg : l0.getD (k : Int).toNat [] = x := by simp [List.getD_eq_getElem?_getD, List.getElem?_eq_getElem hlt, hx]
      rw [hg] at hC hc hcell
      have hcl := hcell 0 _ rfl
      rw [show (k : Int).toNat * (Kd.slice 9 Kd.string).sz + 0 = k from by show (k : Int).toNat * 1 + 0 = k; omega] at hcl
      have hn := slc_next l0 k hlt
      have hnl : (l0.take (k + 1)).flatten.length = (l0.take k).flatten.length + x.length := by rw [hn, List.length_append, hx]
      have hp := slc_part l0 (k + 1)
      have hb := HS.out
      have hw : wrap64 (((l0.take k).flatten.length : Int) + (x.length : Int)) = ((l0.take (k + 1)).flatten.length : Nat) := by unfold wrap64; omega
      obtain ⟨m1, hm1⟩ : ∃ m, m = (l0.take (k + 1)).flatten.length := ⟨_, rfl⟩
      obtain ⟨m0, hm0⟩ : ∃ m, m = (l0.take k).flatten.length := ⟨_, rfl⟩
      have hwk : wrap64 ((k : Int) + 1) = (k : Int) + 1 := by unfold wrap64; omega
      rw [← hm1, ← hm0] at hw
      rw [← hm0]
      have HM := Aside0.mk hm1
      have hw0 : ¬ ((m1 : Int) < 0) := Int.not_lt.2 (Int.natCast_nonneg _)
      clear hcell hn hp hb hnl hC hx hm1 hm0 hg
      go_wp2
      go_roundw
      case rel => exact ⟨k + 1, by omega, by go_num, by rw [hw, HM.out], HB⟩
      case measure => simp [intOf]; omega
    · have hkl : k = l0.length := by omega
      subst hkl
      rw [List.take_length]
      have hmm := HS.out
      obtain ⟨m0, hm0⟩ : ∃ m, m = l0.flatten.length := ⟨_, rfl⟩
      rw [← hm0] at hmm ⊢
      clear hm0
      go_wp2_with fail
      refine (slc_grow m0 hmm wr).mono ?_
      rintro e w2 ⟨v, rfl, ho, hb⟩
      have HO := Aside0.mk (Kd.R_lower ho HB.out.size)
      have HB2 := Aside0.mk (below_step HB.out hb)
      clear ho hb hmm
      go_wp2
      go_loopw [6, 27] (fun vs vi wr => ∃ k : Nat, k ≤ l0.length ∧ vi = .int .i64 k ∧ Aside0 (Kd.R Kd.string 9 wr w.heap.size (fun _ => True) vs (l0.take k).flatten) ∧ Aside0 (Below w.heap.size w wr)) (fun _ vi _ => l0.length - (intOf vi).toNat)
      case atStart => exact ⟨0, Nat.zero_le _, rfl, HO, HB2⟩
      case round =>
        clear HO HB2
        obtain ⟨k, hk, rfl, HO, HB⟩ := hrel
        have hwk : wrap64 ((k : Int) + 1) = (k : Int) + 1 := by unfold wrap64; omega
        by_cases hlt : k < l0.length
        · obtain ⟨x, hx⟩ : ∃ x, l0[k]'hlt = x := ⟨_, rfl⟩
          obtain ⟨ad, cs, rfl, _, ⟨A, c, rfl, hc, hC⟩, hcell⟩ := Kd.C_get (Kd.C_below HR.out HB.out) [] (k : Int) (by omega) (by omega)
          have hg : l0.getD (k : Int).toNat [] = x := by simp [List.getD_eq_getElem?_getD, List.getElem?_eq_getElem hlt, hx]
          rw [hg] at hC hc hcell
          have hcl := hcell 0 _ rfl
          rw [show (k : Int).toNat * (Kd.slice 9 Kd.string).sz + 0 = k from by show (k : Int).toNat * 1 + 0 = k; omega] at hcl
          have hn := slc_next l0 k hlt
          have hnl : (l0.take (k + 1)).flatten.length = (l0.take k).flatten.length + x.length := by rw [hn, List.length_append, hx]
          have hp := slc_part l0 (k + 1)
          have hb := HS.out
          have HL := Aside0.mk (show ((l0.take k).flatten.length + x.length) * 16 ≤ 140737488355328 by omega)
          have HN := Aside0.mk (show (l0.take (k + 1)).flatten = (l0.take k).flatten ++ x by rw [hn, hx])
          have HC := Aside0.mk hC
          clear hcell hn hp hb hnl hC hx hg
          go_wp2_with (at_builtin; refine Kd.R_append_rows Kd.string (w0 := w) w.heap.size rfl (.tmp 31) (.tmp 32) 22 9 (.string ⟨#[]⟩) 16 rfl Tryd.underlying22 slc_info rfl (by decide) (by omega) _ _ x _ _ _ (fun _ => True) (fun _ => False) rfl rfl HO.out HC.out (fun _ _ h => h) (fun _ h => h.elim) (fun _ _ => trivial) HB.out HB.out.size HL.out ?_; intro v1 w1 ho hb hg hat)
          have HO1 := Aside0.mk ho
          have HB1 := Aside0.mk hb
          clear ho hb hg hat
          go_wp2
          go_roundw
          case rel => exact ⟨k + 1, by omega, by go_num, ⟨by rw [HN.out]; exact HO1.out⟩, HB1⟩
          case measure => simp [intOf]; omega
        · have hkl : k = l0.length := by omega
          subst hkl
          rw [List.take_length] at HO
          go_wp2
          go_ret
          exact ⟨_, rfl, HO.out, HB.out⟩
end Go.Proofs.YtkjheoilidpckaaDoor.X
