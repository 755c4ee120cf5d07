/- strings.Split at a separator of one byte, in the printer's form. -/
import Derived.Test.YtjfajkdamechiaaDoorHGokD
import Derived.Lib.SplitLaws
namespace Go.Proofs.YtjfajkdamechiaaDoor.X
open Go.RowKit Go.Proofs.YtjfajkdamechiaaDoorW.PrintWords Go.Proofs.YtjfajkdamechiaaDoorW.PrintLast Go.Proofs.YtjfajkdamechiaaDoorW.PrintMore Go.Proofs.YtjfajkdamechiaaDoor.Spec
set_option linter.unusedVariables false
set_option linter.unusedSimpArgs false

theorem spl_count (c : UInt8) (l : List UInt8) (h : c ∈ l) : l.count c = 1 + (post c l).count c := by
  have hp := pre_post h
  have hn := not_mem_pre c l
  have e : l.count c = (pre c l ++ c :: post c l).count c := congrArg (List.count c) hp
  rw [e, List.count_append, List.count_eq_zero.2 hn, List.count_cons_self]; omega
theorem spl_drop (c : UInt8) (l : List UInt8) (h : c ∈ l) : l.drop ((pre c l).length + 1) = post c l := by
  have hp := pre_post h
  have := congrArg (List.drop ((pre c l).length + 1)) hp
  rw [this, show (pre c l).length + 1 = (pre c l ++ [c]).length from by simp, show pre c l ++ c :: post c l = (pre c l ++ [c]) ++ post c l from by simp, List.drop_left]
theorem spl_take (c : UInt8) (l : List UInt8) (h : c ∈ l) : l.take (pre c l).length = pre c l := by
  have hp := pre_post h
  have := congrArg (List.take (pre c l).length) hp
  rw [this, List.take_left]
theorem spl_splitK (c : UInt8) : ∀ (k : Nat) (l : List UInt8), l.count c = k → Lib.splitK [c] 0 k l = splitL c l := by
  intro k
  induction k with
  | zero =>
    intro l h
    have hm : c ∉ l := List.count_eq_zero.1 h
    rw [splitL_eq, if_neg hm, pre_of_not_mem hm]; rfl
  | succ k ih =>
    intro l h
    have hm : c ∈ l := by
      by_cases hm : c ∈ l
      · exact hm
      · rw [List.count_eq_zero.2 hm] at h; cases h
    rw [splitL_eq, if_pos hm]
    unfold Lib.splitK
    have hi : Lib.index l [c] = ((pre c l).length : Int) := by rw [indexByte_index, indexByte_eq, if_pos hm]
    rw [if_neg (show ¬ ((Lib.index l [c] == -1) = true) from by rw [hi]; simp), hi]
    have et : (((pre c l).length : Int)).toNat = (pre c l).length := by omega
    rw [et, Nat.add_zero, List.length_singleton, spl_take c l hm, spl_drop c l hm, ih (post c l) (by have := spl_count c l hm; omega)]
theorem spl_all (s : ByteArray) (c : UInt8) : Lib.splitB ⟨#[c]⟩ 0 (Lib.countB s ⟨#[c]⟩) s = (splitL c (bl s)).map ba := by
  have h := Lib.splitB_data ⟨#[c]⟩ 0 (Lib.countB s ⟨#[c]⟩) s
  have hc : Lib.countB s ⟨#[c]⟩ = (bl s).count c := by
    show Lib.count s.data.toList [c] = _
    rw [Lib.count_one]; rfl
  rw [show (⟨#[c]⟩ : ByteArray).data.toList = [c] from rfl, show s.data.toList = bl s from rfl, hc, spl_splitK c _ _ rfl] at h
  rw [hc, ← h, List.map_map]
  have : ∀ x : List ByteArray, x = x.map (ba ∘ fun z : ByteArray => z.data.toList) := by
    intro x
    have e : (ba ∘ fun z : ByteArray => z.data.toList) = id := funext fun z => ba_bl z
    rw [e, List.map_id]
  exact this _
def oneSep (a : ByteArray) : UInt8 := (bl a).headD 0
def strings_Split.f (a0 a1 : ByteArray) : Option (List ByteArray) :=
  if a0.size < 4294967281 ∧ a1.size = 1 then some ((splitL (oneSep a1) (bl a0)).map ba) else none
theorem spl_row (w : World) (l : List ByteArray) (n : Nat) (hn : n = l.length) (hm : n ≤ 4294967281) : Kd.R Kd.string 9 (w.alloc (.cells (l.map Value.string).toArray 9)) w.heap.size (fun _ => True) (.slice (some ⟨w.heap.size, 0, none⟩) n n) l := by
  subst hn
  refine Kd.R_of_own (enc := Value.string) ⟨by simp [encs], .inr ⟨w.heap.size, l.length, (l.map Value.string).toArray, rfl, Nat.le_refl _, heap_alloc_new w _, Nat.le_refl _, ?_, by simp, ?_⟩⟩ (fun _ _ => trivial)
  · unfold maxLen; omega
  · simp [encs, List.take_of_length_le]
theorem strings_Split.calls (a0 : ByteArray) (a1 : ByteArray) (r : List ByteArray) (w : World) (h : strings_Split.f a0 a1 = some r) (hG : GOK w := by first | assumption | exact hG | exact GOK.drewN _ hG | exact GOK.below hG (by repeat (first | (with_reducible first | exact HB.out | apply below_alloc | apply pw_below_drewN | apply below_drew1 | refine below_set ?_ (Aside0.out (by assumption))) | exact HB.out))) :
    Calls Tryd.prog 26 #[.string a0, .string a1] w fun e w' => ∃ v0_ : Value, e = .returned v0_ ∧ Kd.R Kd.string 9 w' w.heap.size (fun _ => True) v0_ r ∧ Below w.heap.size w w' := by
  unfold strings_Split.f at h
  split at h
  case isFalse => cases h
  rename_i hs
  obtain rfl := Option.some.inj h
  obtain ⟨m, hm⟩ := hG.maxLen
  obtain ⟨c, rfl⟩ := Lib.one_byte a1 hs.2
  have hall := spl_all a0 c
  have hc1 : 1 ≤ (⟨#[c]⟩ : ByteArray).size := Nat.le_refl _
  have hle := Lib.countB_le ⟨#[c]⟩ hc1 a0.size a0 (Nat.le_refl _)
  have hlen := Lib.splitB_all ⟨#[c]⟩ hc1 0 _ a0 rfl
  have hone : oneSep ⟨#[c]⟩ = c := rfl
  rw [hone]
  refine (Tryd.strings_Split a0 ⟨#[c]⟩ m w hs.1 hm hc1).mono fun e w' ⟨he, hw⟩ => ⟨_, he, ?_, ?_⟩
  · rw [hw, hall]
    rw [hall] at hlen
    exact spl_row w _ _ hlen.symm (by omega)
  · rw [hw]; exact (Below.refl _ w).alloc (Nat.le_refl _) _
end Go.Proofs.YtjfajkdamechiaaDoor.X
