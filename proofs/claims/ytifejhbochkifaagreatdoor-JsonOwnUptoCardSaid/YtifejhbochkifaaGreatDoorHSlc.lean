/- slices.Clone, slices.Clip, slices.Grow of nothing, slices.Concat at []string, in the printer's form. -/
import Derived.Test.YtifejhbochkifaaGreatDoorX0
import Derived.Test.YtifejhbochkifaaGreatDoorHSpec
import Derived.WalkKit
import Derived.Deep.LoopGhost
import Derived.Lib.LazyBuf
namespace Go.Proofs.YtifejhbochkifaaGreatDoor.X
open Go.RowKit Go.Proofs.YtifejhbochkifaaGreatDoorW.PrintWords Go.Proofs.YtifejhbochkifaaGreatDoorW.PrintLast Go.Proofs.YtifejhbochkifaaGreatDoorW.PrintMore Go.Proofs.YtifejhbochkifaaGreatDoor.Spec
set_option linter.unusedVariables false
set_option linter.unusedSimpArgs false

theorem slc_info : (Tryz.prog.info? 9).map (fun i => (i.zero, i.size, i.bytes)) = some (some (.string ⟨#[]⟩), 1, 16) := by kernel_rfl
theorem slc_eq (w : World) (a : Option Addr) (n c : Nat) : (binOp .eql 23 (.slice a n c) (.slice none 0 0)).run Tryz.prog w = .ok (.bool a.isNone) w := run_eql_slice_nil w _ _ a n c Tryz.underlying23
theorem slc_made (w : World) (base : Nat) (hb : base ≤ w.heap.size) : Kd.R Kd.string 9 (w.alloc (.cells #[] 9)) base (fun _ => True) (.slice (some ⟨w.heap.size, 0, none⟩) 0 0) [] :=
 Kd.R_of_own (World.ownsRow_made w #[] 0 hb (Nat.zero_le _) rfl) (fun _ _ => trivial)

def slices_Clone_string_string.f (l : List ByteArray) : Option (List ByteArray) := if l.length ≤ 1000000000 then some l else none
set_option maxHeartbeats 2000000 in
set_option maxRecDepth 100000 in
theorem slices_Clone_string_string.calls (A0 : Option Addr) (c0 : Nat) (l0 : List ByteArray) (r : List ByteArray) (w : World) (hr0 : Kd.C Kd.string w A0 l0.length l0) (hc0 : l0.length ≤ c0) (h : slices_Clone_string_string.f l0 = some r) :
  Calls Tryz.prog 57 #[.slice A0 l0.length c0] w fun e w' => ∃ v0_ : Value, e = .returned v0_ ∧ Kd.R Kd.string 9 w' w.heap.size (fun _ => True) v0_ r ∧ Below w.heap.size w w' := by
 unfold slices_Clone_string_string.f at h
 split at h
 case isFalse => cases h
 rename_i hs
 obtain rfl := Option.some.inj h
 clear h
 have hq := slc_eq
 cases A0 with
 | none =>
  have hl : l0 = [] := by
   rcases Nat.eq_zero_or_pos l0.length with h0 | h0
   ·exact List.length_eq_zero_iff.1 h0
   ·obtain ⟨ad, h, _⟩ := hr0.2.2 h0
    cases h
  subst hl
  go_enter Tryz.func57, Tryz.ntmps57
  go_wp2
  go_ret
  exact ⟨_, rfl, Kd.R_nil _ _ _ _ _, Below.refl _ _⟩
 | some ad =>
  have HR := Aside0.mk hr0
  clear hr0
  have hl1 : l0.length ≤ 1000000000 := hs
  go_enter Tryz.func57, Tryz.ntmps57
  go_wp2_with (at_builtin; refine Kd.R_append_rows Kd.string (w0 := w) w.heap.size rfl (.tmp 5) (.tmp 6) 23 9 (.string ⟨#[]⟩) 16 rfl Tryz.underlying23 slc_info rfl (by decide) (by omega) _ [] l0 _ _ _ (fun _ => True) (fun _ => False) rfl rfl (slc_made w _ (Nat.le_refl _)) (Kd.C_alloc HR.out _) (fun _ _ h => h) (fun _ h => h.elim) (fun _ _ => trivial) ((Below.refl _ w).alloc (Nat.le_refl _) _) (by simp) (by simp; omega) ?_; intro v1 w1 ho hb hg hat)
  have HO := Aside0.mk ho
  have HB := Aside0.mk hb
  clear ho hb hg hat
  go_wp2
  go_ret
  exact ⟨_, rfl, HO.out, HB.out⟩

def slices_Clip_string_string.f (l : List ByteArray) : Option (List ByteArray) := some l
set_option maxHeartbeats 2000000 in
set_option maxRecDepth 100000 in
theorem slices_Clip_string_string.calls (P0_ : Nat → Prop) (A0 : Option Addr) (c0 : Nat) (l0 : List ByteArray) (r : List ByteArray) (w : World) (hs0 : Kd.V Kd.string 9 w w.heap.size (fun k_ => P0_ k_) (.slice A0 l0.length c0) l0) (h : slices_Clip_string_string.f l0 = some r) :
  Calls Tryz.prog 56 #[.slice A0 l0.length c0] w fun e w' => ∃ v0_ : Value, e = .returned v0_ ∧ Kd.V Kd.string 9 w' w.heap.size (fun k_ => (P0_ k_ ∨ w.heap.size ≤ k_)) v0_ r ∧ Below w.heap.size w w' := by
 obtain rfl := Option.some.inj h
 clear h
 obtain ⟨_, hl, hf⟩ := Kd.V_at hs0
 have h63 := (Kd.F_now hf).2.1
 have HV := Aside0.mk (Kd.V_mk (e := 9) (base := w.heap.size) (Nat.le_refl l0.length) (Kd.F_mono hf (fun k hk => (.inl hk : P0_ k ∨ w.heap.size ≤ k))))
 have hnil : A0 = none → l0.length = 0 := by
  intro he
  rcases Nat.eq_zero_or_pos l0.length with h0 | h0
  ·exact h0
  ·obtain ⟨ad, h, _⟩ := (Kd.F_now hf).2.2 h0
   rw [he] at h
   cases h
 clear hs0 hf
 cases A0 with
 | none =>
  have h0 : l0 = [] := List.length_eq_zero_iff.1 (hnil rfl)
  subst h0
  go_enter Tryz.func56, Tryz.ntmps56
  go_wp2
  go_ret
  exact ⟨_, rfl, HV.out, Below.refl _ _⟩
 | some ad =>
  obtain ⟨ab, ao, asp⟩ := ad
  go_enter Tryz.func56, Tryz.ntmps56
  go_wp2
  go_ret
  exact ⟨_, rfl, HV.out, Below.refl _ _⟩

end Go.Proofs.YtifejhbochkifaaGreatDoor.X
