/- pairs.Get: the first value of a key; slices.IndexFunc at pairs by its closure. -/
import Derived.Test.YtibfhaekomflpaaDoorX0
import Derived.Test.YtibfhaekomflpaaDoorHSpec
import Derived.WalkKit
import Derived.Deep.LoopGhost
namespace Go.Proofs.YtibfhaekomflpaaDoor.X
open Go.RowKit Go.Proofs.YtibfhaekomflpaaDoorW.PrintWords Go.Proofs.YtibfhaekomflpaaDoorW.PrintLast Go.Proofs.YtibfhaekomflpaaDoorW.PrintMore Go.Proofs.YtibfhaekomflpaaDoor.Spec
set_option linter.unusedVariables false
set_option linter.unusedSimpArgs false

/-- where a predicate holds first; -1: nowhere -/
def idxOf {α : Type} (p : α → Bool) : List α → Int
  | [] => -1
  | x :: r => if p x then 0 else if idxOf p r < 0 then -1 else idxOf p r + 1
theorem idxOf_range {α : Type} (p : α → Bool) (l : List α) : -1 ≤ idxOf p l ∧ idxOf p l < l.length := by
  induction l with
  | nil => simp [idxOf]
  | cons x r ih => simp only [idxOf, List.length_cons]; split <;> (try split) <;> omega

/-- after k misses -/
theorem idxOf_all {α : Type} (p : α → Bool) (l : List α) (h : ∀ x ∈ l, p x = false) : idxOf p l = -1 := by
  induction l with
  | nil => rfl
  | cons x r ih =>
    rw [idxOf, h x (List.mem_cons_self ..), ih (fun y hy => h y (List.mem_cons_of_mem _ hy))]
    simp
theorem idxOf_hit {α : Type} (p : α → Bool) : ∀ (k : Nat) (l : List α) (hk : k < l.length), (∀ j (hj : j < k), p (l[j]'(by omega)) = false) → p (l[k]'hk) = true → idxOf p l = k
  | 0, x :: r, _, _, h => by
    have : p x = true := h
    simp [idxOf, this]
  | k + 1, x :: r, hk, hm, h => by
    have h0 : p x = false := hm 0 (by omega)
    have := idxOf_hit p k r (by simpa using hk) (fun j hj => hm (j + 1) (by omega)) h
    simp [idxOf, h0, this]
    omega

set_option maxHeartbeats 2000000 in
set_option maxRecDepth 100000 in
theorem get_closure (x : S30) (key : ByteArray) (b : Nat) (w : World) (hk : w.cell? ⟨b, 0, none⟩ = some (.string key)) :
    Calls Tryd.prog 27 #[.agg #[.string x.f0, .string x.f1], .pointer (some ⟨b, 0, none⟩)] w fun e w' => e = .returned (.bool (x.f0.toList == key.toList)) ∧ Below w.heap.size w w' := by
  have hb : b < w.heap.size := World.block_lt_of_cell? w _ hk
  have hk2 : (w.alloc (.cells #[.string x.f0, .string x.f1] 30)).cell? ⟨b, 0, none⟩ = some (.string key) := by
    rw [(below_alloc (Below.refl _ w) _).cell (p := ⟨b, 0, none⟩) hb]; exact hk
  go_enter Tryd.func27, Tryd.ntmps27
  go_wp2
  go_ret
  exact ⟨rfl, below_alloc (Below.refl _ w) _⟩

set_option maxHeartbeats 2000000 in
set_option maxRecDepth 100000 in
theorem find_func (A0 : Option Addr) (c0 : Nat) (l0 : List S30) (key : ByteArray) (b : Nat) (w : World) (hr0 : Kd.C k30 w A0 l0.length l0) (hc0 : l0.length ≤ c0) (hk : w.cell? ⟨b, 0, none⟩ = some (.string key)) :
    Calls Tryd.prog 26 #[.slice A0 l0.length c0, .func (.func 27) #[] #[.pointer (some ⟨b, 0, none⟩)]] w fun e w' => e = .returned (.int .i64 (idxOf (fun x => x.f0.toList == key.toList) l0)) ∧ Below w.heap.size w w' := by
  have hu := Tryd.underlying30
  have hb : b < w.heap.size := World.block_lt_of_cell? w _ hk
  have HR := Aside0.mk hr0
  have HK := Aside0.mk hk
  have hmax := hr0.2.1
  clear hr0 hk
  go_enter Tryd.func26, Tryd.ntmps26
  go_wp2
  go_loopw [8] (fun i wr => ∃ k : Nat, k ≤ l0.length ∧ i = .int .i64 k ∧ Aside0 (∀ j (hj : j < k) (hjl : j < l0.length), ((l0[j]'hjl).f0.toList == key.toList) = false) ∧ Aside0 (Below w.heap.size w wr)) (fun i _ => l0.length - (intOf i).toNat)
  case atStart => exact ⟨0, Nat.zero_le _, rfl, ⟨fun j hj => absurd hj (Nat.not_lt_zero _)⟩, ⟨Below.refl _ w⟩⟩
  case round =>
    obtain ⟨k, hkl, rfl, HM, HB⟩ := hrel
    by_cases hlt : k < l0.length
    · have hK2 := Aside0.mk ((HB.out.cell (p := ⟨b, 0, none⟩) hb).trans HK.out)
      have p0 : (0 : Int) ≤ (k : Int) := by omega
      have q0 : (k : Int) < (l0.length : Int) := by omega
      obtain ⟨ad, rfl, hx0, hx1⟩ := at_T30 (Kd.C_below HR.out HB.out) (k : Int) p0 q0
      have hrd : rd_T30 l0 (k : Int) = l0[k]'hlt := by simp [rd_T30, List.getD_eq_getElem?_getD, List.getElem?_eq_getElem hlt]
      rw [hrd] at hx0 hx1
      simp only [Int.toNat_natCast] at hx0 hx1
      clear hrd
      have hcl := Aside0.mk (get_closure (l0[k]'hlt) key b wr hK2.out)
      by_cases hp : ((l0[k]'hlt).f0.toList == key.toList) = true
      · have hfin := Aside0.mk (idxOf_hit (fun x : S30 => x.f0.toList == key.toList) k l0 hlt (fun j hj => HM.out j hj (by omega)) hp)
        have HP := Aside0.mk hp
        clear hp
        go_wp2_with fail
        refine hcl.out.mono ?_
        rw [HP.out]
        rintro e w2 ⟨rfl, hb2⟩
        have HB2 := Aside0.mk (below_then HB.out HB.out.size hb2)
        clear hb2
        go_wp2
        go_ret
        exact ⟨by rw [hfin.out]; rfl, HB2.out⟩
      · have hp' := Bool.eq_false_iff.2 hp
        have HP := Aside0.mk hp'
        have hnext := Aside0.mk (show ∀ j (hj : j < k + 1) (hjl : j < l0.length), ((l0[j]'hjl).f0.toList == key.toList) = false from fun j hj hjl => by
          by_cases h : j = k
          · subst h; exact hp'
          · exact HM.out j (by omega) hjl)
        clear hp hp'
        go_wp2_with fail
        refine hcl.out.mono ?_
        rw [HP.out]
        rintro e w2 ⟨rfl, hb2⟩
        have HB2 := Aside0.mk (below_then HB.out HB.out.size hb2)
        clear hb2
        go_wp2
        go_roundw
        case rel => exact ⟨k + 1, by omega, by go_num, hnext, HB2⟩
        case measure => simp [intOf]; omega
    · have hfin := Aside0.mk (idxOf_all (fun x : S30 => x.f0.toList == key.toList) l0 (fun x hx => by
        obtain ⟨j, hj, rfl⟩ := List.getElem_of_mem hx
        exact HM.out j (by omega) hj))
      go_wp2
      go_ret
      exact ⟨by rw [hfin.out]; rfl, HB.out⟩

def pairs_Get.f (l0 : List S30) (a1 : ByteArray) : Option (ByteArray × Bool) :=
  some (if idxOf (fun x => x.f0.toList == a1.toList) l0 < 0 then (⟨#[]⟩, false) else ((rd_T30 l0 (idxOf (fun x => x.f0.toList == a1.toList) l0)).f1, true))
set_option maxHeartbeats 2000000 in
set_option maxRecDepth 100000 in
theorem pairs_Get.calls (A0 : Option Addr) (c0 : Nat) (l0 : List (S30)) (a1 : ByteArray) (r1 : ByteArray) (r2 : Bool) (w : World) (hr0 : Kd.C k30 w A0 l0.length l0) (hc0 : l0.length ≤ c0) (h : pairs_Get.f l0 a1 = some (r1, r2)) :
    Calls Tryd.prog 14 #[.slice A0 l0.length c0, .string a1] w fun e w' => e = .returned (.tuple #[.string r1, .bool r2]) ∧ Below w.heap.size w w' := by
  have hu := Tryd.underlying30
  have H := Aside0.mk (Option.some.inj h)
  clear h
  have hw2 : (w.alloc (.cells #[.string a1] 9)).cell? ⟨w.heap.size, 0, none⟩ = some (.string a1) := by simp
  have hff := find_func A0 c0 l0 a1 w.heap.size (w.alloc (.cells #[.string a1] 9)) (Kd.C_alloc hr0 _) hc0 hw2
  have HR := Aside0.mk hr0
  have HF := Aside0.mk hff
  have hir := idxOf_range (fun x : S30 => x.f0.toList == a1.toList) l0
  clear hr0 hff hw2
  generalize hi : idxOf (fun x : S30 => x.f0.toList == a1.toList) l0 = i at HF hir H
  clear hi
  go_enter Tryd.func14, Tryd.ntmps14
  go_wp2_with fail
  refine HF.out.mono ?_
  rintro e w2 ⟨rfl, hb2⟩
  have HB2 := Aside0.mk (below_then (below_alloc (Below.refl _ w) _) (by simp) hb2)
  clear hb2
  by_cases hneg : i < 0
  · go_wp2
    go_ret2
    exact ⟨by have := H.out; rw [if_pos hneg] at this; simp only [Prod.mk.injEq] at this; obtain ⟨rfl, rfl⟩ := this; rfl, HB2.out⟩
  · obtain ⟨ad, rfl, hx0, hx1⟩ := at_T30 (Kd.C_below HR.out HB2.out) i (by omega) (by omega)
    have p0 : 0 ≤ i := by omega
    have q0 : i < (l0.length : Int) := by omega
    go_wp2
    go_ret2
    exact ⟨by have := H.out; rw [if_neg (by omega)] at this; simp only [Prod.mk.injEq] at this; obtain ⟨rfl, rfl⟩ := this; rfl, HB2.out⟩
end Go.Proofs.YtibfhaekomflpaaDoor.X
