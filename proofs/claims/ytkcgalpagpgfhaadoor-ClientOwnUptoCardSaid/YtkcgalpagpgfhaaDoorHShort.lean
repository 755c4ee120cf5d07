/- client.short: no text empty, or too long; over slices.ContainsFunc at texts. -/
import Derived.Test.YtkcgalpagpgfhaaDoorHIdx
import Derived.Test.YtkcgalpagpgfhaaDoorHSpec
import Derived.WalkKit
import Derived.Deep.LoopGhost
namespace Go.Proofs.YtkcgalpagpgfhaaDoor.X
open Go.RowKit Go.Proofs.YtkcgalpagpgfhaaDoorW.PrintWords Go.Proofs.YtkcgalpagpgfhaaDoorW.PrintLast Go.Proofs.YtkcgalpagpgfhaaDoorW.PrintMore Go.Proofs.YtkcgalpagpgfhaaDoor.Spec
set_option linter.unusedVariables false
set_option linter.unusedSimpArgs false

theorem idxOf_any {α : Type} (p : α → Bool) (l : List α) : decide (0 ≤ idxOf p l) = l.any p := by
  induction l with
  | nil => simp [idxOf]
  | cons x r ih =>
    rw [List.any_cons, idxOf]
    by_cases hx : p x = true
    · rw [if_pos hx, hx]; rfl
    · have h1 := idxOf_range p r
      rw [if_neg hx, Bool.eq_false_iff.2 hx, Bool.false_or, ← ih]
      by_cases h : idxOf p r < 0
      · rw [if_pos h]
        exact decide_eq_decide.2 (by omega)
      · rw [if_neg h]
        exact decide_eq_decide.2 (by omega)
def oddT (x : ByteArray) : Bool := decide (x.size = 0 ∨ 256 < x.size)
def shortL (l : List ByteArray) : Bool := !(l.any oddT)
theorem toList_nil (x : ByteArray) : (x.toList == ([] : List UInt8)) = decide (x.size = 0) := by
  have h : x.toList.length = x.size := by rw [toList_bl, bl_length]
  by_cases h0 : x.size = 0
  · rw [decide_eq_true h0]
    have : x.toList = [] := List.length_eq_zero_iff.1 (by omega)
    rw [this]; rfl
  · rw [decide_eq_false h0, beq_eq_false_iff_ne]
    intro e
    rw [e] at h
    simp at h
    omega
set_option maxHeartbeats 1000000 in
theorem short_closure (x : ByteArray) (w : World) : Calls Tryd.prog 44 #[.string x] w fun e w' => e = .returned (.bool (oddT x)) ∧ Below w.heap.size w w' := by
  have hn := toList_nil x
  unfold oddT
  by_cases h0 : x.size = 0
  · rw [decide_eq_true h0] at hn
    rw [decide_eq_true (Or.inl h0)]
    have hl : x.toList = [] := beq_iff_eq.1 hn
    have hl2 : x.toList.isEmpty = true := by rw [hl]; rfl
    clear h0
    go_enter Tryd.func44, Tryd.ntmps44
    go_wp2
    go_ret
    exact ⟨rfl, Below.refl _ _⟩
  · rw [decide_eq_false h0] at hn
    have hl : ¬ x.toList = [] := beq_eq_false_iff_ne.1 hn
    have hl2 : x.toList.isEmpty = false := by simpa using hl
    by_cases h1 : 256 < x.size
    · rw [decide_eq_true (Or.inr h1)]
      have hd : decide ((256 : Int) < (x.size : Int)) = true := decide_eq_true (by omega)
      clear h0 h1
      go_enter Tryd.func44, Tryd.ntmps44
      go_wp2
      go_ret
      exact ⟨rfl, Below.refl _ _⟩
    · rw [decide_eq_false (by omega : ¬ (x.size = 0 ∨ 256 < x.size))]
      have hd : decide ((256 : Int) < (x.size : Int)) = false := decide_eq_false (by omega)
      clear h0 h1
      go_enter Tryd.func44, Tryd.ntmps44
      go_wp2
      go_ret
      exact ⟨rfl, Below.refl _ _⟩
set_option maxHeartbeats 2000000 in
set_option maxRecDepth 100000 in
theorem find_short (p : ByteArray → Bool) (A0 : Option Addr) (c0 : Nat) (l0 : List ByteArray) (w : World) (hr0 : Kd.C Kd.string w A0 l0.length l0) (hc0 : l0.length ≤ c0) (hcl : ∀ x ∈ l0, ∀ W : World, Below w.heap.size w W → Calls Tryd.prog 44 #[.string x] W fun e w' => e = .returned (.bool (p x)) ∧ Below W.heap.size W w') :
    Calls Tryd.prog 57 #[.slice A0 l0.length c0, .func (.func 44) #[] #[]] w fun e w' => e = .returned (.int .i64 (idxOf p l0)) ∧ Below w.heap.size w w' := by
  have HR := Aside0.mk hr0
  have HCL := Aside0.mk hcl
  have hmax := hr0.2.1
  clear hr0 hcl
  go_enter Tryd.func57, Tryd.ntmps57
  go_wp2
  go_loopw [8] (fun i wr => ∃ k : Nat, k ≤ l0.length ∧ i = .int .i64 k ∧ Aside0 (∀ j (hj : j < k) (hjl : j < l0.length), p (l0[j]'hjl) = false) ∧ Aside0 (Below w.heap.size w wr)) (fun i _ => l0.length - (intOf i).toNat)
  case atStart => exact ⟨0, Nat.zero_le _, rfl, ⟨fun j hj => absurd hj (Nat.not_lt_zero _)⟩, ⟨Below.refl _ w⟩⟩
  case round =>
    obtain ⟨k, hkl, rfl, HM, HB⟩ := hrel
    by_cases hlt : k < l0.length
    · have p0 : (0 : Int) ≤ (k : Int) := by omega
      have q0 : (k : Int) < (l0.length : Int) := by omega
      obtain ⟨ad, rfl, hx0⟩ := Kd.at_string (Kd.C_below HR.out HB.out) (k : Int) p0 q0
      have hrd : rdOf ByteArray.empty l0 (k : Int) = l0[k]'hlt := by simp [rdOf, List.getD_eq_getElem?_getD, List.getElem?_eq_getElem hlt]
      rw [hrd] at hx0
      simp only [Int.toNat_natCast] at hx0
      clear hrd
      have hcl := Aside0.mk (HCL.out (l0[k]'hlt) (List.getElem_mem hlt) wr HB.out)
      by_cases hp : p (l0[k]'hlt) = true
      · have hfin := Aside0.mk (idxOf_hit p k l0 hlt (fun j hj => HM.out j hj (by omega)) hp)
        rw [hp] at hcl
        clear hp
        go_wp2_with fail
        refine hcl.out.mono ?_
        rintro e w2 ⟨rfl, hb2⟩
        have HB2 := Aside0.mk (below_then HB.out HB.out.size hb2)
        clear hb2
        go_wp2
        go_ret
        exact ⟨by rw [hfin.out]; rfl, HB2.out⟩
      · have hp' := Bool.eq_false_iff.2 hp
        rw [hp'] at hcl
        have hnext := Aside0.mk (show ∀ j (hj : j < k + 1) (hjl : j < l0.length), p (l0[j]'hjl) = false from fun j hj hjl => by
          by_cases h : j = k
          · subst h; exact hp'
          · exact HM.out j (by omega) hjl)
        clear hp hp'
        go_wp2_with fail
        refine hcl.out.mono ?_
        rintro e w2 ⟨rfl, hb2⟩
        have HB2 := Aside0.mk (below_then HB.out HB.out.size hb2)
        clear hb2
        go_wp2
        go_roundw
        case rel => exact ⟨k + 1, by omega, by go_num, hnext, HB2⟩
        case measure => simp [intOf]; omega
    · have hfin := Aside0.mk (idxOf_all p l0 (fun x hx => by
        obtain ⟨j, hj, rfl⟩ := List.getElem_of_mem hx
        exact HM.out j (by omega) hj))
      go_wp2
      go_ret
      exact ⟨by rw [hfin.out]; rfl, HB.out⟩
set_option maxHeartbeats 2000000 in
theorem any_short (p : ByteArray → Bool) (A0 : Option Addr) (c0 : Nat) (l0 : List ByteArray) (w : World) (hr0 : Kd.C Kd.string w A0 l0.length l0) (hc0 : l0.length ≤ c0) (hcl : ∀ x ∈ l0, ∀ W : World, Below w.heap.size w W → Calls Tryd.prog 44 #[.string x] W fun e w' => e = .returned (.bool (p x)) ∧ Below W.heap.size W w') :
    Calls Tryd.prog 43 #[.slice A0 l0.length c0, .func (.func 44) #[] #[]] w fun e w' => e = .returned (.bool (l0.any p)) ∧ Below w.heap.size w w' := by
  have HF := Aside0.mk (find_short p A0 c0 l0 w hr0 hc0 hcl)
  have hA := idxOf_any p l0
  obtain ⟨i, hi⟩ : ∃ i, idxOf p l0 = i := ⟨_, rfl⟩
  obtain ⟨b, hb⟩ : ∃ b, l0.any p = b := ⟨_, rfl⟩
  rw [hi] at HF hA
  rw [hb] at hA ⊢
  clear hr0 hcl hi hb
  go_enter Tryd.func43, Tryd.ntmps43
  go_wp2_with fail
  refine HF.out.mono ?_
  rintro e w2 ⟨rfl, hb2⟩
  have HB2 := Aside0.mk hb2
  clear hb2
  go_wp2
  go_ret
  exact ⟨rfl, HB2.out⟩
def client_short.f (l : List ByteArray) : Option Bool := some (shortL l)
theorem client_short.calls (A0 : Option Addr) (c0 : Nat) (l0 : List ByteArray) (r : Bool) (w : World) (hr0 : Kd.C Kd.string w A0 l0.length l0) (hc0 : l0.length ≤ c0) (h : client_short.f l0 = some r) :
    Calls Tryd.prog 28 #[.slice A0 l0.length c0] w fun e w' => e = .returned (.bool r) ∧ Below w.heap.size w w' := by
  obtain rfl := Option.some.inj h
  have HA := Aside0.mk (any_short oddT A0 c0 l0 w hr0 hc0 (fun x _ W _ => short_closure x W))
  unfold shortL
  obtain ⟨b, hb⟩ : ∃ b, l0.any oddT = b := ⟨_, rfl⟩
  rw [hb] at HA ⊢
  clear hr0 hb h
  go_enter Tryd.func28, Tryd.ntmps28
  go_wp2_with fail
  refine HA.out.mono ?_
  rintro e w2 ⟨rfl, hb2⟩
  have HB2 := Aside0.mk hb2
  clear hb2
  go_wp2
  go_ret
  exact ⟨rfl, HB2.out⟩
end Go.Proofs.YtkcgalpagpgfhaaDoor.X
