/- json.copied copies; where a key stands first. -/
import Derived.Test.YtifejhbochkifaaGreatDoorHRefS
import Derived.Test.YtifejhbochkifaaGreatDoorX11
import Derived.Test.YtifejhbochkifaaGreatDoorX10
namespace Go.Proofs.YtifejhbochkifaaGreatDoor.X
open Go.RowKit Go.Proofs.YtifejhbochkifaaGreatDoorW.PrintWords Go.Proofs.YtifejhbochkifaaGreatDoor.Spec
set_option linter.unusedVariables false
set_option linter.unusedSimpArgs false
theorem idx_l0 (l : List ByteArray) (key : ByteArray) (hl : l.length ≤ 1000000000) (r : Int) (t : Nat) (ht : t ≤ l.length) (hno : ∀ j, (h : j < l.length) → j < t → l[j] ≠ key)
  (hr : (t = l.length ∧ r = -1) ∨ (∃ h : t < l.length, l[t] = key ∧ r = t)) : ∀ n i, i + n = t → Ev (fun k => slices_Index_string_string.l0 k l key (l.length : Int) (i : Int)) r := by
 intro n
 induction n with
 | zero =>
  intro i hi
  obtain rfl : i = t := by omega
  refine Ev.step (fun k => by rw [slices_Index_string_string.l0]) ?_
  rcases hr with ⟨h1, rfl⟩ | ⟨h1, h2, rfl⟩
  ·exact Ev.if_neg (by omega) (Ev.some _)
  ·refine Ev.if_pos (by omega) (Ev.if_pos (by omega) (Ev.if_pos (by omega) ?_))
   rw [rdOf_at _ i h1, h2]
   exact Ev.if_pos rfl (Ev.some _)
 | succ n ih =>
  intro i hi
  have h1 : i < l.length := by omega
  refine Ev.step (fun k => by rw [slices_Index_string_string.l0]) ?_
  refine Ev.if_pos (by omega) (Ev.if_pos (by omega) (Ev.if_pos (by omega) ?_))
  rw [rdOf_at _ i h1]
  refine Ev.if_neg (fun h => hno i h1 (by omega) (toList_inj.1 h).symm) ?_
  rw [w64 (by omega) (by omega)]
  exact ih (i + 1) (by omega)
theorem idx_miss {l : List ByteArray} {key : ByteArray} (hl : l.length ≤ 1000000000) (h : key ∉ l) : Ev (fun k => slices_Index_string_string.f k l key) (-1) :=
 idx_l0 l key hl (-1) l.length (Nat.le_refl _) (fun j hj _ e => h (e ▸ List.getElem_mem hj)) (Or.inl ⟨rfl, rfl⟩) l.length 0 (by omega)
theorem idx_hit {l : List ByteArray} {key : ByteArray} {t : Nat} (hl : l.length ≤ 1000000000) (ht : t < l.length) (h : l[t] = key) (hno : ∀ j, (hj : j < l.length) → j < t → l[j] ≠ key) : Ev (fun k => slices_Index_string_string.f k l key) (t : Int) :=
 idx_l0 l key hl t t (by omega) hno (Or.inr ⟨ht, h, rfl⟩) t 0 (by omega)
/-- where a key stands first -/
theorem first_of {l : List ByteArray} {key : ByteArray} (h : key ∈ l) : ∃ t, ∃ ht : t < l.length, l[t] = key ∧ ∀ j, (hj : j < l.length) → j < t → l[j] ≠ key := by
 induction l with
 | nil => cases h
 | cons x l ih =>
  by_cases hx : x = key
  ·exact ⟨0, by simp, hx, fun j _ h => by omega⟩
  ·obtain ⟨t, ht, h1, h2⟩ := ih (by rcases List.mem_cons.1 h with e | e; exact absurd e.symm hx; exact e)
   refine ⟨t + 1, by simp; omega, by simpa using h1, fun j hj hlt => ?_⟩
   cases j with
   | zero => exact hx
   | succ j => simpa using h2 j (by simp at hj; omega) (by omega)
theorem copied_l0 (d : Nat) (IH : ∀ v : V, limB d v = true → Ev (fun k => json_copied.f k v.f0 v.f1 v.f2 v.f3 v.f4) (v.f0, v.f1, v.f2, v.f3, v.f4)) (v : V) (hl : limB (d + 1) v = true) :
  ∀ n i, i + n = v.f3.length → Ev (fun k => json_copied.l0 k (v.f3.take i) v.f3 (v.f3.length : Int) (i : Int) v.f0 v.f1 v.f2 v.f3 v.f4) (v.f0, v.f1, v.f2, v.f3, v.f4) := by
 obtain ⟨l3, l4, la⟩ := lim_succ hl
 intro n
 induction n with
 | zero =>
  intro i hi
  refine Ev.step (fun k => by rw [json_copied.l0]) ?_
  refine Ev.if_neg (by omega) ?_
  rw [List.take_of_length_le (by omega)]
  exact Ev.some _
 | succ n ih =>
  intro i hi
  have h1 : i < v.f3.length := by omega
  refine Ev.step (fun k => by rw [json_copied.l0]) ?_
  refine Ev.if_pos (by omega) (Ev.if_pos (by omega) (Ev.if_pos (by omega) ?_))
  rw [rd_at _ i h1]
  refine Ev.bind (IH _ (la _ (List.getElem_mem h1))) ?_
  refine Ev.if_pos (by rw [List.length_take]; omega) ?_
  rw [w64 (by omega) (by omega)]
  have h := ih (i + 1) (by omega)
  rw [List.take_succ_eq_append_getElem h1, show ((i + 1 : Nat) : Int) = (i : Int) + 1 from rfl] at h
  generalize v.f3[i] = y at h ⊢
  cases y
  exact h
theorem copied_ev : ∀ (d : Nat) (v : V), limB d v = true → Ev (fun k => json_copied.f k v.f0 v.f1 v.f2 v.f3 v.f4) (v.f0, v.f1, v.f2, v.f3, v.f4) := by
 intro d
 induction d with
 | zero => intro v h; simp [limB] at h
 | succ d IH =>
  intro v hl
  obtain ⟨l3, l4, la⟩ := lim_succ hl
  refine Ev.step (fun k => by rw [json_copied.f]) ?_
  refine Ev.bind (a := v.f4) (Ev.const (by unfold slices_Clone_string_string.f; rw [if_pos l4])) ?_
  refine Ev.bind (a := v.f4) (Ev.const rfl) ?_
  exact copied_l0 d IH v hl v.f3.length 0 (by omega)
end Go.Proofs.YtifejhbochkifaaGreatDoor.X
