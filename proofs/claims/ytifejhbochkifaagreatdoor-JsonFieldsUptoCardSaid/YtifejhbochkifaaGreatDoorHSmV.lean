/- The law's small; how long a good value's text can be. -/
import Derived.Test.YtifejhbochkifaaGreatDoorHRowN
import Derived.Test.YtifejhbochkifaaGreatDoorHLaw
import Derived.Test.YtifejhbochkifaaGreatDoorX15
namespace Go.Proofs.YtifejhbochkifaaGreatDoor.X
open Go.RowKit Go.Proofs.YtifejhbochkifaaGreatDoorW.PrintWords Go.Proofs.YtifejhbochkifaaGreatDoor.Spec
set_option linter.unusedVariables false
set_option linter.unusedSimpArgs false
def smallB : Nat → V → Bool
  | 0, _ => false
  | d + 1, v => decide (v.f3.length ≤ 200) && decide (v.f4.length ≤ 200) && decide (v.f2.size ≤ 1000) && v.f4.all (fun k => decide (k.size ≤ 200)) && v.f3.all (smallB d)
theorem small_succ {d : Nat} {v : V} : smallB (d + 1) v = true ↔ v.f3.length ≤ 200 ∧ v.f4.length ≤ 200 ∧ v.f2.size ≤ 1000 ∧ (∀ k ∈ v.f4, k.size ≤ 200) ∧ ∀ x ∈ v.f3, smallB d x = true := by
 simp only [smallB, Bool.and_eq_true, decide_eq_true_eq, List.all_eq_true]
 constructor
 ·rintro ⟨⟨⟨⟨a, b⟩, c⟩, e⟩, f⟩; exact ⟨a, b, c, e, f⟩
 ·rintro ⟨a, b, c, e, f⟩; exact ⟨⟨⟨⟨a, b⟩, c⟩, e⟩, f⟩
theorem small_no {d : Nat} {v : V} (h : smallB (d + 1) v = true → False) : smallB (d + 1) v = false := by
 cases e : smallB (d + 1) v with
 | false => rfl
 | true => exact (h e).elim
theorem lim_small : ∀ (d : Nat) (v : V), smallB d v = true → limB d v = true := by
 intro d
 induction d with
 | zero => intro v h; simp [smallB] at h
 | succ d ih =>
  intro v h
  obtain ⟨h1, h2, h3, h4, h5⟩ := small_succ.1 h
  exact lim_mk (by omega) (by omega) (fun x hx => ih x (h5 x hx))
theorem small_l1 (d : Nat) (hd : d ≤ 1000) (IH : ∀ v : V, Ev (fun k => exequaturlaw05_small.f k v.f0 v.f1 v.f2 v.f3 v.f4 (d : Int)) (smallB d v)) (v : V) (h3 : v.f3.length ≤ 200) (h4 : v.f4.length ≤ 200) (h2 : v.f2.size ≤ 1000) (hk : ∀ k ∈ v.f4, k.size ≤ 200) :
  ∀ n i, i + n = v.f3.length → (∀ j, (hj : j < v.f3.length) → j < i → smallB d v.f3[j] = true) → Ev (fun k => exequaturlaw05_small.l1 k ((d : Int) + 1) (i : Int) v.f0 v.f1 v.f2 v.f3 v.f4) (smallB (d + 1) v) := by
 intro n
 induction n with
 | zero =>
  intro i hi ha
  refine Ev.step (fun k => by rw [exequaturlaw05_small.l1]) ?_
  refine Ev.if_neg (by omega) ((Ev.some _).uni ?_)
  refine (small_succ.2 ⟨h3, h4, h2, hk, fun x hx => ?_⟩).symm
  obtain ⟨j, hj, rfl⟩ := List.getElem_of_mem hx
  exact ha j hj (by omega)
 | succ n ih =>
  intro i hi ha
  have h1 : i < v.f3.length := by omega
  refine Ev.step (fun k => by rw [exequaturlaw05_small.l1]) ?_
  refine Ev.if_pos (by omega) (Ev.if_pos (by omega) ?_)
  rw [rd_at _ i h1, w64 (n := (d : Int) + 1 - 1) (by omega) (by omega), show (d : Int) + 1 - 1 = (d : Int) by omega]
  refine Ev.bind (IH _) ?_
  cases e : smallB d v.f3[i] with
  | true =>
   refine Ev.if_pos rfl ?_
   rw [w64 (by omega) (by omega)]
   refine ih (i + 1) (by omega) (fun j hj hlt => ?_)
   by_cases hji : j = i
   ·subst hji; exact e
   ·exact ha j hj (by omega)
  | false =>
   refine Ev.if_neg (by decide) ((Ev.some _).uni (small_no fun hs => ?_).symm)
   have := (small_succ.1 hs).2.2.2.2 _ (List.getElem_mem h1)
   rw [e] at this; cases this
theorem small_l0 (d : Nat) (hd : d ≤ 1000) (IH : ∀ v : V, Ev (fun k => exequaturlaw05_small.f k v.f0 v.f1 v.f2 v.f3 v.f4 (d : Int)) (smallB d v)) (v : V) (h3 : v.f3.length ≤ 200) (h4 : v.f4.length ≤ 200) (h2 : v.f2.size ≤ 1000) :
  ∀ n i, i + n = v.f4.length → (∀ j, (hj : j < v.f4.length) → j < i → v.f4[j].size ≤ 200) → Ev (fun k => exequaturlaw05_small.l0 k ((d : Int) + 1) (i : Int) v.f0 v.f1 v.f2 v.f3 v.f4) (smallB (d + 1) v) := by
 intro n
 induction n with
 | zero =>
  intro i hi ha
  refine Ev.step (fun k => by rw [exequaturlaw05_small.l0]) ?_
  refine Ev.if_neg (by omega) ?_
  refine small_l1 d hd IH v h3 h4 h2 (fun k hk => ?_) v.f3.length 0 (by omega) (fun j hj h => by omega)
  obtain ⟨j, hj, rfl⟩ := List.getElem_of_mem hk
  exact ha j hj (by omega)
 | succ n ih =>
  intro i hi ha
  have h1 : i < v.f4.length := by omega
  refine Ev.step (fun k => by rw [exequaturlaw05_small.l0]) ?_
  refine Ev.if_pos (by omega) (Ev.if_pos (by omega) ?_)
  rw [rdOf_at _ i h1]
  by_cases hs : (v.f4[i].size : Int) > 200
  ·refine Ev.if_pos hs ((Ev.some _).uni (small_no fun h => ?_).symm)
   have := (small_succ.1 h).2.2.2.1 _ (List.getElem_mem h1)
   omega
  ·refine Ev.if_neg hs ?_
   rw [w64 (by omega) (by omega)]
   refine ih (i + 1) (by omega) (fun j hj hlt => ?_)
   by_cases hji : j = i
   ·subst hji; omega
   ·exact ha j hj (by omega)
theorem small_ev : ∀ (d : Nat), d ≤ 1000 → ∀ v : V, Ev (fun k => exequaturlaw05_small.f k v.f0 v.f1 v.f2 v.f3 v.f4 (d : Int)) (smallB d v) := by
 intro d
 induction d with
 | zero =>
  intro _ v
  refine Ev.step (fun k => by rw [exequaturlaw05_small.f]) ?_
  refine Ev.if_pos rfl ?_
  refine Ev.step (fun k => by rw [exequaturlaw05_small.j0]) ?_
  exact Ev.if_pos rfl ((Ev.some _).uni rfl)
 | succ d IH =>
  intro hd v
  have no : (smallB (d + 1) v = true → False) → Ev (fun k => exequaturlaw05_small.j0 k ((d : Int) + 1) true v.f0 v.f1 v.f2 v.f3 v.f4) (smallB (d + 1) v) := fun h => by
   refine Ev.step (fun k => by rw [exequaturlaw05_small.j0]) ?_
   exact Ev.if_pos rfl ((Ev.some _).uni (small_no h).symm)
  refine Ev.step (fun k => by rw [exequaturlaw05_small.f]) ?_
  rw [show (((d + 1 : Nat)) : Int) = (d : Int) + 1 from rfl]
  refine Ev.if_neg (by omega) ?_
  by_cases h3 : (v.f3.length : Int) > 200
  ·exact Ev.if_pos h3 (no fun h => by have := (small_succ.1 h).1; omega)
  refine Ev.if_neg h3 ?_
  by_cases h4 : (v.f4.length : Int) > 200
  ·exact Ev.if_pos h4 (no fun h => by have := (small_succ.1 h).2.1; omega)
  refine Ev.if_neg h4 ?_
  by_cases h2 : (v.f2.size : Int) > 1000
  ·rw [decide_eq_true h2]; exact no fun h => by have := (small_succ.1 h).2.2.1; omega
  rw [decide_eq_false h2]
  refine Ev.step (fun k => by rw [exequaturlaw05_small.j0]) ?_
  refine Ev.if_neg (by decide) ?_
  exact small_l0 d (by omega) (IH (by omega)) v (by omega) (by omega) (by omega) v.f4.length 0 (by omega) (fun j hj h => by omega)
theorem commas_le (l : List (List UInt8)) : (commas l).length ≤ (l.map (fun p => p.length + 1)).sum := by
 induction l with
 | nil => simp [commas]
 | cons x l ih =>
  rw [commas_cons, List.length_append, List.map_cons, List.sum_cons]
  split
  ·simp only [List.length_nil]; omega
  ·rw [List.length_cons]; omega
theorem zip_le (d : Nat) : ∀ (ks : List ByteArray) (ls : List V), (∀ x ∈ ls, (rend d x).length ≤ 30 * bulkN d x) → ((List.zipWith (fun k x => jq (bl k) ++ 58 :: rend d x) ks ls).map (fun p => p.length + 1)).sum ≤ 30 * (ls.map (bulkN d)).sum + 8 * (ks.map (fun k => k.size + 1)).sum + ls.length := by
 intro ks
 induction ks with
 | nil => intro ls _; simp
 | cons k ks ih =>
  intro ls h
  cases ls with
  | nil => simp
  | cons x ls =>
   have h1 := ih ls (fun y hy => h y (List.mem_cons_of_mem _ hy))
   have h2 := h x (List.mem_cons_self ..)
   have h3 := escL_len (bl k)
   rw [bl_length] at h3
   have h4 : (jq (bl k)).length ≤ 6 * k.size + 2 := by simp only [jq, List.length_append, List.length_cons, List.length_nil]; omega
   rw [List.zipWith_cons_cons, List.map_cons, List.sum_cons, List.map_cons, List.sum_cons, List.map_cons, List.sum_cons, List.length_cons, List.length_append, List.length_cons]
   omega
theorem map_le (d : Nat) : ∀ (ls : List V), (∀ x ∈ ls, (rend d x).length ≤ 30 * bulkN d x) → ((ls.map (rend d)).map (fun p => p.length + 1)).sum ≤ 30 * (ls.map (bulkN d)).sum + ls.length := by
 intro ls
 induction ls with
 | nil => intro _; simp
 | cons x ls ih =>
  intro h
  have h1 := ih (fun y hy => h y (List.mem_cons_of_mem _ hy))
  have h2 := h x (List.mem_cons_self ..)
  simp only [List.map_cons, List.sum_cons, List.length_cons]
  omega
theorem rend_bulk : ∀ (d : Nat) (v : V), fitsB d v = true → (rend d v).length ≤ 30 * bulkN d v := by
 intro d
 induction d with
 | zero => intro v h; simp [fitsB] at h
 | succ d ih =>
  intro v h
  obtain ⟨hk, hb, hkeys, ha⟩ := fits_succ h
  have hba := bare_all hb
  have h64 := hba.2.2.2
  simp only [bulkN]
  rw [rend]
  split
  ·simp [w_null]; omega
  ·split
   ·split <;> simp [w_true, w_false] <;> omega
   ·split
    ·have := Lib.itoa_length_le v.f1 (by omega) (by omega)
     omega
    ·split
     ·have h3 := escL_len (bl v.f2)
      rw [bl_length] at h3
      simp only [jq, List.length_cons, List.length_append, List.length_nil]
      omega
     ·split
      ·have h1 := commas_le (v.f3.map (rend d))
       have h2 := map_le d v.f3 (fun x hx => ih x (ha x hx))
       simp only [List.length_cons, List.length_append, List.length_nil]
       omega
      ·split
       ·have h1 := commas_le (List.zipWith (fun k x => jq (bl k) ++ 58 :: rend d x) v.f4 v.f3)
        have h2 := zip_le d v.f4 v.f3 (fun x hx => ih x (ha x hx))
        simp only [List.length_cons, List.length_append, List.length_nil]
        omega
       ·omega
theorem bulk_up : ∀ (d : Nat) (v : V), bulkN d v ≤ bulkN (d + 1) v := by
 intro d
 induction d with
 | zero => intro v; exact Nat.zero_le _
 | succ d ih =>
  intro v
  have h : ∀ l : List V, (l.map (bulkN d)).sum ≤ (l.map (bulkN (d + 1))).sum := by
   intro l
   induction l with
   | nil => simp
   | cons x l ihl => have := ih x; simp only [List.map_cons, List.sum_cons]; omega
  have := h v.f3
  rw [bulkN, bulkN]
  omega
end Go.Proofs.YtifejhbochkifaaGreatDoor.X
