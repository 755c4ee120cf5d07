/- The reference's Parse in plain Lean: it tells what json.Parse tells. -/
import Derived.Test.YtifejhbochkifaaGreatDoorHJrS
import Derived.Test.YtifejhbochkifaaGreatDoorHRefJ
import Derived.Test.YtifejhbochkifaaGreatDoorBC
namespace Go.Proofs.YtifejhbochkifaaGreatDoor.X
open Go.RowKit Go.Proofs.YtifejhbochkifaaGreatDoorW.PrintWords Go.Proofs.YtifejhbochkifaaGreatDoor.Spec
set_option linter.unusedVariables false
theorem lim_up : ∀ (d e : Nat) (v : V), d ≤ e → limB d v = true → limB e v = true := by
 intro d
 induction d with
 | zero => intro e v _ h; simp [limB] at h
 | succ d ih =>
  intro e v hde h
  obtain ⟨e, rfl⟩ : ∃ e', e = e' + 1 := ⟨e - 1, by omega⟩
  obtain ⟨h3, h4, ha⟩ := lim_succ h
  unfold limB
  rw [decide_eq_true h3, decide_eq_true h4]
  simp only [Bool.true_and, List.all_eq_true]
  exact fun x hx => ih e x (by omega) (ha x hx)
theorem lim_mk {d : Nat} {v : V} (h3 : v.f3.length ≤ 1000000000) (h4 : v.f4.length ≤ 1000000000) (ha : ∀ x ∈ v.f3, limB d x = true) : limB (d + 1) v = true := by
 unfold limB
 rw [decide_eq_true h3, decide_eq_true h4]
 simp only [Bool.true_and, List.all_eq_true]
 exact ha
theorem lim_fits : ∀ (d : Nat) (v : V), fitsB d v = true → limB d v = true := by
 intro d
 induction d with
 | zero => intro v h; simp [fitsB] at h
 | succ d ih =>
  intro v h
  obtain ⟨hk, hb, hkeys, ha⟩ := fits_succ h
  have hba := bare_all hb
  refine lim_mk (by omega) ?_ (fun x hx => ih x (ha x hx))
  split at hkeys
  ·rw [Bool.and_eq_true, beq_iff_eq] at hkeys; omega
  ·rw [beq_iff_eq] at hkeys; omega
theorem lim_z : limB 1 z_V = true := by decide
theorem rf_lim : ∀ k,
  (∀ s v r, s.length ≤ 1000000 → rfV k s = some (v, r) → limB k v = true) ∧
  (∀ obj s v r, s.length ≤ 1000000 → rfRow k obj s = some (v, r) → limB k v = true) ∧
  (∀ B obj ls ks s v r, k ≤ B → ls.length + s.length ≤ 1000000 → ks.length + s.length ≤ 1000000 → (∀ x ∈ ls, limB B x = true) → rfItems k obj ls ks s = some (v, r) → limB (B + 1) v = true) ∧
  (∀ B obj ls ks s v r, k ≤ B → ls.length + s.length ≤ 1000000 → ks.length + s.length ≤ 1000001 → (∀ x ∈ ls, limB B x = true) → rfItem k obj ls ks s = some (v, r) → limB (B + 1) v = true) := by
 intro k
 induction k with
 | zero =>
  refine ⟨?_, ?_, ?_, ?_⟩
  ·intro s v r _ h; rw [rfV] at h; cases h
  ·intro obj s v r _ h; rw [rfRow] at h; cases h
  ·intro B obj ls ks s v r _ _ _ _ h; rw [rfItems] at h; cases h
  ·intro B obj ls ks s v r _ _ _ _ h; rw [rfItem] at h; cases h
 | succ k ih =>
  obtain ⟨ihV, ihR, ihI, ihT⟩ := ih
  have lit : ∀ (a b : Int) (t : ByteArray) (v : V) (r r' : List UInt8), some ((⟨a, b, t, [], []⟩ : V), r') = some (v, r) → limB (k + 1) v = true := by
   intro a b t v r r' h
   simp only [Option.some.injEq, Prod.mk.injEq] at h
   rw [← h.1]
   exact lim_mk (by simp) (by simp) (fun x hx => by cases hx)
  refine ⟨?_, ?_, ?_, ?_⟩
  ·intro s v r hs h
   rw [rfV] at h
   split at h
   ·exact lit _ _ _ _ _ _ h
   ·split at h
    ·exact lit _ _ _ _ _ _ h
    ·split at h
     ·exact lit _ _ _ _ _ _ h
     ·split at h
      ·rw [Option.map_eq_some_iff] at h
       obtain ⟨⟨t, r'⟩, hq, he⟩ := h
       exact lit _ _ _ _ _ _ (congrArg some he)
      ·split at h
       ·exact lim_up _ _ _ (Nat.le_succ _) (ihR _ _ _ _ (by rw [List.length_drop]; omega) h)
       ·split at h
        ·exact lim_up _ _ _ (Nat.le_succ _) (ihR _ _ _ _ (by rw [List.length_drop]; omega) h)
        ·unfold rfNum at h
         split at h
         ·exact lit _ _ _ _ _ _ h
         ·split at h
          ·cases h
          ·exact lit _ _ _ _ _ _ h
  ·intro obj s v r hs h
   rw [rfRow] at h
   split at h
   ·simp only [Option.some.injEq, Prod.mk.injEq] at h
    rw [← h.1]
    exact lim_mk (by simp) (by simp) (fun x hx => by cases hx)
   ·exact ihI k obj [] [] s v r (Nat.le_refl _) (by simpa using hs) (by simpa using hs) (fun x hx => by cases hx) h
  ·intro B obj ls ks s v r hB h1 h2 ha h
   cases obj with
   | true =>
    rw [rfItems] at h
    split at h
    ·rename_i t r' hq
     have hl := (rfQ_len hq).1
     split at h
     ·exact ihT B true ls (ks ++ [ba t]) _ v r (by omega) (by rw [List.length_drop]; omega) (by rw [List.length_drop, List.length_append, List.length_singleton]; omega) ha h
     ·cases h
    ·cases h
   | false =>
    rw [rfItems] at h
    exact ihT B false ls ks s v r (by omega) h1 (by omega) ha h
  ·intro B obj ls ks s v r hB h1 h2 ha h
   rw [rfItem] at h
   split at h
   ·rename_i x r' hv
    have hl := ((rf_suf k).1 _ _ _ hv).2
    have hx := lim_up _ B _ (by omega) (ihV s x r' (by omega) hv)
    have ha' : ∀ y ∈ ls ++ [x], limB B y = true := by
     intro y hy
     rw [List.mem_append, List.mem_singleton] at hy
     rcases hy with hy | rfl
     ·exact ha y hy
     ·exact hx
    split at h
    ·simp only [Option.some.injEq, Prod.mk.injEq] at h
     rw [← h.1]
     exact lim_mk (by simp only [List.length_append, List.length_singleton]; omega) (by simp only []; omega) ha'
    ·split at h
     ·exact ihI B obj (ls ++ [x]) ks _ v r (by omega) (by rw [List.length_append, List.length_singleton, List.length_drop]; omega) (by rw [List.length_drop]; omega) ha' h
     ·cases h
   ·cases h
/-- a value is no deeper than its text is long -/
theorem fits_len : ∀ (d : Nat) (v : V), fitsB d v = true → fitsB ((rend d v).length + 1) v = true := by
 intro d
 induction d with
 | zero => intro v h; simp [fitsB] at h
 | succ d ih =>
  intro v h
  obtain ⟨hk, hb, hkeys, ha⟩ := fits_succ h
  have hba := bare_all hb
  unfold fitsB
  rw [decide_eq_true hk.1, decide_eq_true hk.2, hb, hkeys]
  simp only [Bool.true_and, List.all_eq_true]
  intro x hx
  have h1 := ih x (ha x hx)
  refine (fits_up _ _ x ?_ h1).1
  have hne : v.f3.length ≠ 0 := fun e => by rw [List.length_eq_zero_iff] at e; rw [e] at hx; cases hx
  have h5 : v.f0 = 5 ∨ v.f0 = 6 := by omega
  have hl : ∃ p ∈ partsV d v, (rend d x).length ≤ p.length := by
   unfold partsV
   split
   ·rename_i h6
    rw [if_pos h6, Bool.and_eq_true, beq_iff_eq] at hkeys
    obtain ⟨i, hi, rfl⟩ := List.getElem_of_mem hx
    have h4 : i < v.f4.length := by omega
    refine ⟨_, List.getElem_mem (l := List.zipWith (fun k x => jq (bl k) ++ 58 :: rend d x) v.f4 v.f3) (n := i) (by rw [List.length_zipWith]; omega), ?_⟩
    rw [List.getElem_zipWith, List.length_append, List.length_cons]
    omega
   ·exact ⟨_, List.mem_map_of_mem hx, Nat.le_refl _⟩
  obtain ⟨p, hp, hpl⟩ := hl
  have hc := part_le _ p hp
  have hr : (rend (d + 1) v).length = (commas (partsV d v)).length + 2 := by
   rw [rend, if_neg (by omega), if_neg (by omega), if_neg (by omega), if_neg (by omega)]
   unfold partsV
   rcases h5 with h | h
   ·rw [if_pos h, if_neg (by omega)]; simp
   ·rw [if_neg (by omega), if_pos h]; simp
  omega
def refL (s : List UInt8) : V × Int :=
  if 4096 < s.length then (z_V, 3) else
  match rfV (4 * s.length + 4) s with
  | some (v, []) => if fitsB 5000 v = true ∧ rend 5000 v = s then (if fitsB 8 v = true then (v, 0) else (z_V, 4)) else (z_V, 2)
  | _ => (z_V, 2)
theorem refL_eq (s : List UInt8) : refL s = parseL s := by
 unfold refL parseL
 by_cases hs : 4096 < s.length
 ·rw [if_pos hs, if_pos hs]
 rw [if_neg hs, if_neg hs]
 have hnn : nonum ([] : List UInt8) := fun c t e => by cases e
 by_cases H : ∃ d v, fitsB d v = true ∧ rend d v = s
 ·obtain ⟨d, v, hf, hr⟩ := H
  have h1 := readV_rend d v hf (4 * s.length + 4) [] (by rw [List.append_nil, hr]; omega) hnn
  have h2 := rfV_rend d v hf (4 * s.length + 4) [] (by rw [List.append_nil, hr]; omega) hnn
  rw [List.append_nil, hr] at h1 h2
  have hlen := fits_len d v hf
  rw [hr] at hlen
  have hR : ∀ e, fitsB e v = true → rend e v = s := fun e he => by
   have q1 := (fits_up d (max d e) v (by omega) hf).2
   have q2 := (fits_up e (max d e) v (by omega) he).2
   rw [← q2, q1, hr]
  have h5 := (fits_up _ 5000 v (by omega) hlen).1
  rw [h1, h2]
  simp only []
  have c1 : fitsB 5000 v = true ∧ rend 5000 v = s := ⟨h5, hR _ h5⟩
  have c2 : fitsB (s.length + 1) v = true ∧ rend (s.length + 1) v = s := ⟨hlen, hR _ hlen⟩
  rw [if_pos c1, if_pos c2]
 ·have h1 : ∀ (d : Nat) (v : V), ¬ (fitsB d v = true ∧ rend d v = s) := fun d v h => H ⟨d, v, h.1, h.2⟩
  have e1 : (match rfV (4 * s.length + 4) s with
   | some (v, []) => if fitsB 5000 v = true ∧ rend 5000 v = s then (if fitsB 8 v = true then (v, 0) else (z_V, 4)) else (z_V, 2)
   | _ => (z_V, 2)) = ((z_V, 2) : V × Int) := by
   split
   ·rw [if_neg (h1 _ _)]
   ·rfl
  have e2 : (match readV (4 * s.length + 4) s with
   | some (v, []) => if fitsB (s.length + 1) v = true ∧ rend (s.length + 1) v = s then (if fitsB 8 v = true then (v, 0) else (z_V, 4)) else (z_V, 2)
   | _ => (z_V, 2)) = ((z_V, 2) : V × Int) := by
   split
   ·rw [if_neg (h1 _ _)]
   ·rfl
  exact e1.trans e2.symm
end Go.Proofs.YtifejhbochkifaaGreatDoor.X
