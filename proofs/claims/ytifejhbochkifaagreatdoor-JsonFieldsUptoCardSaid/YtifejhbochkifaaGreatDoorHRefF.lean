/- The reference's Fits: it answers as fitsB. -/
import Derived.Test.YtifejhbochkifaaGreatDoorHRefS
import Derived.Test.YtifejhbochkifaaGreatDoorBB
import Derived.Test.YtifejhbochkifaaGreatDoorX4
namespace Go.Proofs.YtifejhbochkifaaGreatDoor.X
open Go.RowKit Go.Proofs.YtifejhbochkifaaGreatDoorW.PrintWords Go.Proofs.YtifejhbochkifaaGreatDoor.Spec
set_option linter.unusedVariables false
set_option linter.unusedSimpArgs false
theorem fits_no {d : Nat} {v : V} (h : fitsB (d + 1) v = true → False) : fitsB (d + 1) v = false := by
 cases e : fitsB (d + 1) v with
 | false => rfl
 | true => exact (h e).elim
theorem bare_all {v : V} (h : bareB v = true) : ((v.f0 = 3 ∧ -9007199254740992 ≤ v.f1 ∧ v.f1 ≤ 9007199254740992) ∨ (v.f0 = 2 ∧ 0 ≤ v.f1 ∧ v.f1 ≤ 1) ∨ v.f1 = 0) ∧ (v.f0 = 4 ∨ v.f2.size = 0) ∧ (v.f0 = 5 ∨ v.f0 = 6 ∨ v.f3.length = 0) ∧ v.f3.length ≤ 64 := by
 unfold bareB at h
 simp only [Bool.and_eq_true, Bool.or_eq_true, beq_iff_eq, decide_eq_true_eq] at h
 obtain ⟨⟨⟨h1, h2⟩, h3⟩, h4⟩ := h
 refine ⟨?_, h2, ?_, h4⟩
 ·rcases h1 with (⟨⟨a, b⟩, c⟩ | ⟨⟨a, b⟩, c⟩) | h
  ·exact Or.inl ⟨a, b, c⟩
  ·exact Or.inr (Or.inl ⟨a, b, c⟩)
  ·exact Or.inr (Or.inr h)
 ·rcases h3 with (h | h) | h
  ·exact Or.inl h
  ·exact Or.inr (Or.inl h)
  ·exact Or.inr (Or.inr h)
theorem bare_of {v : V} (h1 : (v.f0 = 3 ∧ -9007199254740992 ≤ v.f1 ∧ v.f1 ≤ 9007199254740992) ∨ (v.f0 = 2 ∧ 0 ≤ v.f1 ∧ v.f1 ≤ 1) ∨ v.f1 = 0) (h2 : v.f0 = 4 ∨ v.f2.size = 0) (h3 : v.f0 = 5 ∨ v.f0 = 6 ∨ v.f3.length = 0) (h4 : v.f3.length ≤ 64) : bareB v = true := by
 unfold bareB
 simp only [Bool.and_eq_true, Bool.or_eq_true, beq_iff_eq, decide_eq_true_eq]
 refine ⟨⟨⟨?_, h2⟩, ?_⟩, h4⟩
 ·rcases h1 with ⟨a, b, c⟩ | ⟨a, b, c⟩ | h
  ·exact Or.inl (Or.inl ⟨⟨a, b⟩, c⟩)
  ·exact Or.inl (Or.inr ⟨⟨a, b⟩, c⟩)
  ·exact Or.inr h
 ·rcases h3 with h | h | h
  ·exact Or.inl (Or.inl h)
  ·exact Or.inl (Or.inr h)
  ·exact Or.inr h
theorem size_toList {s : ByteArray} : s.toList = [] ↔ s.size = 0 := by
 rw [Lib.toList_data]
 constructor
 ·intro h
  have : s.data.toList.length = 0 := by rw [h]; rfl
  simpa using this
 ·intro h
  rw [ba_empty h]
theorem all_take {α : Type} {p : α → Bool} {l : List α} {i : Nat} (hi : i < l.length) (h : (l.take i).all p = true) : (l.take (i + 1)).all p = p l[i] := by
 rw [List.take_succ_eq_append_getElem hi, List.all_append, h]
 simp
def fitsR (d : Nat) (v : V) : Bool := decide v.f4.Nodup && v.f3.all (fitsB d)
theorem fits_l2 (d : Nat) (hd : d ≤ 1000000) (IH : ∀ (x : V) (D : Nat), limB D x = true → Ev (fun k => exequaturref01_Fits.f k x.f0 x.f1 x.f2 x.f3 x.f4 (d : Int)) (fitsB d x)) (v : V) (D : Nat) (hl : limB (D + 1) v = true) (hn : v.f4.Nodup) :
  ∀ n i, i + n = v.f3.length → (v.f3.take i).all (fitsB d) = true → Ev (fun k => exequaturref01_Fits.l2 k ((d : Int) + 1) (i : Int) v.f0 v.f1 v.f2 v.f3 v.f4) (fitsR d v) := by
 obtain ⟨l3, l4, la⟩ := lim_succ hl
 intro n
 induction n with
 | zero =>
  intro i hi ha
  refine Ev.step (fun k => by rw [exequaturref01_Fits.l2]) ?_
  refine Ev.if_neg (by omega) ((Ev.some _).uni ?_)
  rw [List.take_of_length_le (by omega)] at ha
  unfold fitsR
  rw [ha, decide_eq_true hn]
  rfl
 | succ n ih =>
  intro i hi ha
  have h1 : i < v.f3.length := by omega
  refine Ev.step (fun k => by rw [exequaturref01_Fits.l2]) ?_
  refine Ev.if_pos (by omega) (Ev.if_pos (by omega) ?_)
  rw [rd_at _ i h1, w64 (n := (d : Int) + 1 - 1) (by omega) (by omega), show (d : Int) + 1 - 1 = (d : Int) by omega]
  refine Ev.bind (IH _ D (la _ (List.getElem_mem h1))) ?_
  have hs := all_take (p := fitsB d) h1 ha
  cases e : fitsB d v.f3[i] with
  | true =>
   refine Ev.if_pos rfl ?_
   rw [w64 (by omega) (by omega)]
   exact ih (i + 1) (by omega) (by rw [hs, e])
  | false =>
   refine Ev.if_neg (by decide) ((Ev.some _).uni ?_)
   unfold fitsR
   have : v.f3.all (fitsB d) = false := by
    rw [List.all_eq_false]
    exact ⟨_, List.getElem_mem h1, by rw [e]; decide⟩
   rw [this, Bool.and_false]
theorem fits_l1 (d : Nat) (v : V) (l4 : v.f4.length ≤ 1000000000) (i : Nat) (hi : i < v.f4.length) (hnext : v.f4[i] ∉ v.f4.take i → Ev (fun k => exequaturref01_Fits.l0 k ((d : Int) + 1) ((i : Int) + 1) v.f0 v.f1 v.f2 v.f3 v.f4) (fitsR d v)) :
  ∀ n j, j + n = i → v.f4[i] ∉ v.f4.take j → Ev (fun k => exequaturref01_Fits.l1 k ((d : Int) + 1) (i : Int) (j : Int) v.f0 v.f1 v.f2 v.f3 v.f4) (fitsR d v) := by
 intro n
 induction n with
 | zero =>
  intro j hj hn
  refine Ev.step (fun k => by rw [exequaturref01_Fits.l1]) ?_
  refine Ev.if_neg (by omega) ?_
  rw [w64 (by omega) (by omega)]
  obtain rfl : j = i := by omega
  exact hnext hn
 | succ n ih =>
  intro j hj hn
  have hjl : j < v.f4.length := by omega
  refine Ev.step (fun k => by rw [exequaturref01_Fits.l1]) ?_
  refine Ev.if_pos (by omega) (Ev.if_pos (by omega) (Ev.if_pos (by omega) (Ev.if_pos (by omega) (Ev.if_pos (by omega) ?_))))
  rw [rdOf_at _ i hi, rdOf_at _ j hjl]
  by_cases he : v.f4[i] = v.f4[j]
  ·refine Ev.if_pos (by rw [he]) ((Ev.some _).uni ?_)
   unfold fitsR
   have : ¬ v.f4.Nodup := fun hd => by
    have := (List.getElem_inj hd).1 he
    omega
   rw [decide_eq_false this]
   rfl
  ·refine Ev.if_neg (fun h => he (toList_inj.1 h)) ?_
   rw [w64 (by omega) (by omega)]
   refine ih (j + 1) (by omega) ?_
   rw [List.take_succ_eq_append_getElem hjl, List.mem_append, List.mem_singleton, not_or]
   exact ⟨hn, he⟩
theorem fits_l0 (d : Nat) (hd : d ≤ 1000000) (IH : ∀ (x : V) (D : Nat), limB D x = true → Ev (fun k => exequaturref01_Fits.f k x.f0 x.f1 x.f2 x.f3 x.f4 (d : Int)) (fitsB d x)) (v : V) (D : Nat) (hl : limB (D + 1) v = true) :
  ∀ n i, i + n = v.f4.length → (v.f4.take i).Nodup → Ev (fun k => exequaturref01_Fits.l0 k ((d : Int) + 1) (i : Int) v.f0 v.f1 v.f2 v.f3 v.f4) (fitsR d v) := by
 obtain ⟨l3, l4, la⟩ := lim_succ hl
 intro n
 induction n with
 | zero =>
  intro i hi hn
  refine Ev.step (fun k => by rw [exequaturref01_Fits.l0]) ?_
  refine Ev.if_neg (by omega) ?_
  rw [List.take_of_length_le (by omega)] at hn
  exact fits_l2 d hd IH v D hl hn v.f3.length 0 (by omega) rfl
 | succ n ih =>
  intro i hi hn
  have h1 : i < v.f4.length := by omega
  refine Ev.step (fun k => by rw [exequaturref01_Fits.l0]) ?_
  refine Ev.if_pos (by omega) ?_
  refine fits_l1 d v l4 i h1 (fun hm => ?_) i 0 (by omega) (by simp)
  refine ih (i + 1) (by omega) ?_
  rw [List.take_succ_eq_append_getElem h1, List.nodup_append]
  refine ⟨hn, by simp, fun a ha b hb e => ?_⟩
  rw [List.mem_singleton] at hb
  rw [e, hb] at ha
  exact hm ha
theorem fits_ev : ∀ (d : Nat), d ≤ 1000000 → ∀ (v : V) (D : Nat), limB D v = true → Ev (fun k => exequaturref01_Fits.f k v.f0 v.f1 v.f2 v.f3 v.f4 (d : Int)) (fitsB d v) := by
 intro d
 induction d with
 | zero =>
  intro _ v D hl
  refine Ev.step (fun k => by rw [exequaturref01_Fits.f]) ?_
  refine Ev.if_pos (by decide) ?_
  refine Ev.step (fun k => by rw [exequaturref01_Fits.j0]) ?_
  exact Ev.if_pos rfl ((Ev.some _).uni rfl)
 | succ d IH =>
  intro hd v D hl
  obtain ⟨D, rfl⟩ : ∃ D', D = D' + 1 := by
   cases D with
   | zero => simp [limB] at hl
   | succ D => exact ⟨D, rfl⟩
  have hq : ∀ h : fitsB (d + 1) v = true → False, Ev (fun k : Nat => some false) (fitsB (d + 1) v) := fun h => (Ev.some false).uni (fits_no h).symm
  refine Ev.step (fun k => by rw [exequaturref01_Fits.f]) ?_
  rw [show (((d + 1 : Nat)) : Int) = (d : Int) + 1 from rfl]
  refine Ev.if_neg (by omega) ?_
  have j0f : (v.f0 < 1 ∨ v.f0 > 6) → Ev (fun k => exequaturref01_Fits.j0 k ((d : Int) + 1) true v.f0 v.f1 v.f2 v.f3 v.f4) (fitsB (d + 1) v) := fun h => by
   refine Ev.step (fun k => by rw [exequaturref01_Fits.j0]) ?_
   refine Ev.if_pos rfl (hq fun hf => ?_)
   have := (fits_succ hf).1
   omega
  by_cases h1 : v.f0 < 1
  ·exact Ev.if_pos h1 (j0f (Or.inl h1))
  refine Ev.if_neg h1 ?_
  by_cases h6 : v.f0 > 6
  ·rw [decide_eq_true h6]; exact j0f (Or.inr h6)
  rw [decide_eq_false h6]
  refine Ev.step (fun k => by rw [exequaturref01_Fits.j0]) ?_
  refine Ev.if_neg (by decide) ?_
  obtain ⟨m, hm⟩ : ∃ m : Bool, m = decide (v.f0 = 5 ∨ v.f0 = 6) := ⟨_, rfl⟩
  -- from j1 on
  have j1e : Ev (fun k => exequaturref01_Fits.j1 k ((d : Int) + 1) m v.f0 v.f1 v.f2 v.f3 v.f4) (fitsB (d + 1) v) := by
   refine Ev.step (fun k => by rw [exequaturref01_Fits.j1]) ?_
   have j2e : ∀ b : Bool, (b = true ↔ v.f0 = 2 ∧ v.f1 ≠ 0 ∧ v.f1 ≠ 1) → Ev (fun k => exequaturref01_Fits.j2 k ((d : Int) + 1) m b v.f0 v.f1 v.f2 v.f3 v.f4) (fitsB (d + 1) v) := by
    intro b hb
    refine Ev.step (fun k => by rw [exequaturref01_Fits.j2]) ?_
    by_cases hb1 : b = true
    ·refine Ev.if_pos hb1 (hq fun hf => ?_)
     have := (bare_all (fits_succ hf).2.1).1
     have := hb.1 hb1
     omega
    refine Ev.if_neg hb1 ?_
    have hnb : ¬ (v.f0 = 2 ∧ v.f1 ≠ 0 ∧ v.f1 ≠ 1) := fun h => hb1 (hb.2 h)
    have j3e : ∀ b : Bool, (b = true ↔ v.f0 = 3 ∧ (v.f1 < -9007199254740992 ∨ v.f1 > 9007199254740992)) → Ev (fun k => exequaturref01_Fits.j3 k ((d : Int) + 1) m b v.f0 v.f1 v.f2 v.f3 v.f4) (fitsB (d + 1) v) := by
     intro b hb
     refine Ev.step (fun k => by rw [exequaturref01_Fits.j3]) ?_
     by_cases hb1 : b = true
     ·refine Ev.if_pos hb1 (hq fun hf => ?_)
      have := (bare_all (fits_succ hf).2.1).1
      have := hb.1 hb1
      omega
     refine Ev.if_neg hb1 ?_
     have hnc : ¬ (v.f0 = 3 ∧ (v.f1 < -9007199254740992 ∨ v.f1 > 9007199254740992)) := fun h => hb1 (hb.2 h)
     have j4e : ∀ b : Bool, (b = true ↔ v.f0 ≠ 2 ∧ v.f0 ≠ 3 ∧ v.f1 ≠ 0) → Ev (fun k => exequaturref01_Fits.j4 k ((d : Int) + 1) m b v.f0 v.f1 v.f2 v.f3 v.f4) (fitsB (d + 1) v) := by
      intro b hb
      refine Ev.step (fun k => by rw [exequaturref01_Fits.j4]) ?_
      by_cases hb1 : b = true
      ·refine Ev.if_pos hb1 (hq fun hf => ?_)
       have := (bare_all (fits_succ hf).2.1).1
       have := hb.1 hb1
       omega
      refine Ev.if_neg hb1 ?_
      have hnd : ¬ (v.f0 ≠ 2 ∧ v.f0 ≠ 3 ∧ v.f1 ≠ 0) := fun h => hb1 (hb.2 h)
      have hc1 : (v.f0 = 3 ∧ -9007199254740992 ≤ v.f1 ∧ v.f1 ≤ 9007199254740992) ∨ (v.f0 = 2 ∧ 0 ≤ v.f1 ∧ v.f1 ≤ 1) ∨ v.f1 = 0 := by omega
      have j6f : ((¬ (v.f0 = 4) ∧ v.f2.size ≠ 0) ∨ (m = false ∧ v.f3.length ≠ 0) ∨ 64 < v.f3.length) → Ev (fun k => exequaturref01_Fits.j6 k ((d : Int) + 1) true v.f0 v.f1 v.f2 v.f3 v.f4) (fitsB (d + 1) v) := by
       intro h
       refine Ev.step (fun k => by rw [exequaturref01_Fits.j6]) ?_
       refine Ev.if_pos rfl (hq fun hf => ?_)
       have hba := bare_all (fits_succ hf).2.1
       rcases h with h | h | h
       ·omega
       ·have : ¬ (v.f0 = 5 ∨ v.f0 = 6) := by
         have h2 := h.1
         rw [hm] at h2
         exact of_decide_eq_false h2
        omega
       ·omega
      have j7e : ∀ b : Bool, (b = true ↔ v.f0 = 6 ∧ v.f4.length ≠ v.f3.length) → ((v.f0 = 4 ∨ v.f2.size = 0) ∧ (m = true ∨ v.f3.length = 0) ∧ v.f3.length ≤ 64) → Ev (fun k => exequaturref01_Fits.j7 k ((d : Int) + 1) b v.f0 v.f1 v.f2 v.f3 v.f4) (fitsB (d + 1) v) := by
       intro b hb ⟨g1, g2, g3⟩
       refine Ev.step (fun k => by rw [exequaturref01_Fits.j7]) ?_
       by_cases hb1 : b = true
       ·refine Ev.if_pos hb1 (hq fun hf => ?_)
        have hk := (fits_succ hf).2.2.1
        have h2 := hb.1 hb1
        rw [if_pos h2.1, Bool.and_eq_true, beq_iff_eq] at hk
        exact h2.2 hk.1
       refine Ev.if_neg hb1 ?_
       have hne : ¬ (v.f0 = 6 ∧ v.f4.length ≠ v.f3.length) := fun h => hb1 (hb.2 h)
       have hbare : bareB v = true := bare_of hc1 g1 (by
        rcases g2 with g2 | g2
        ·rw [hm] at g2
         rcases of_decide_eq_true g2 with h | h
         ·exact Or.inl h
         ·exact Or.inr (Or.inl h)
        ·exact Or.inr (Or.inr g2)) g3
       have j8e : (v.f0 = 6 ∨ v.f4.length = 0) → Ev (fun k => exequaturref01_Fits.j8 k ((d : Int) + 1) v.f0 v.f1 v.f2 v.f3 v.f4) (fitsB (d + 1) v) := by
        intro h8
        refine Ev.step (fun k => by rw [exequaturref01_Fits.j8]) ?_
        refine (fits_l0 d (by omega) (fun x D hx => IH (by omega) x D hx) v D hl v.f4.length 0 (by omega) (by simp)).uni ?_
        unfold fitsB fitsR
        rw [decide_eq_true (show (1 : Int) ≤ v.f0 by omega), decide_eq_true (show v.f0 ≤ 6 by omega), hbare]
        by_cases h0 : v.f0 = 6
        ·rw [if_pos h0, show (v.f4.length == v.f3.length) = true from beq_iff_eq.2 (by omega)]
         rfl
        ·rw [if_neg h0]
         have h9 : v.f4 = [] := List.eq_nil_of_length_eq_zero (by omega)
         rw [h9]
         rfl
       by_cases h0 : v.f0 = 6
       ·exact Ev.if_pos h0 (j8e (Or.inl h0))
       ·refine Ev.if_neg h0 ?_
        by_cases h4 : (v.f4.length : Int) > 0
        ·refine Ev.if_pos h4 (hq fun hf => ?_)
         have hk := (fits_succ hf).2.2.1
         rw [if_neg h0, beq_iff_eq] at hk
         omega
        ·exact Ev.if_neg h4 (j8e (Or.inr (by omega)))
      have j6e : ((v.f0 = 4 ∨ v.f2.size = 0) ∧ (m = true ∨ v.f3.length = 0) ∧ v.f3.length ≤ 64) → Ev (fun k => exequaturref01_Fits.j6 k ((d : Int) + 1) false v.f0 v.f1 v.f2 v.f3 v.f4) (fitsB (d + 1) v) := by
       intro g
       refine Ev.step (fun k => by rw [exequaturref01_Fits.j6]) ?_
       refine Ev.if_neg (by decide) ?_
       by_cases h0 : v.f0 = 6
       ·exact Ev.if_pos h0 (j7e _ (by rw [bne_iff_ne]; omega) g)
       ·exact Ev.if_neg h0 (j7e _ (by constructor; (intro h; cases h); (intro h; exact absurd h.1 h0)) g)
      have j5e : ∀ b : Bool, (b = true ↔ v.f0 ≠ 4 ∧ v.f2.size ≠ 0) → Ev (fun k => exequaturref01_Fits.j5 k ((d : Int) + 1) m b v.f0 v.f1 v.f2 v.f3 v.f4) (fitsB (d + 1) v) := by
       intro b hb
       refine Ev.step (fun k => by rw [exequaturref01_Fits.j5]) ?_
       by_cases hb1 : b = true
       ·rw [hb1]
        exact Ev.if_pos rfl (j6f (Or.inl (hb.1 hb1)))
       have hg1 : v.f0 = 4 ∨ v.f2.size = 0 := by
        have : ¬ (v.f0 ≠ 4 ∧ v.f2.size ≠ 0) := fun h => hb1 (hb.2 h)
        omega
       refine Ev.if_neg hb1 ?_
       by_cases hmm : m = true
       ·refine Ev.if_pos hmm ?_
        by_cases h64 : (v.f3.length : Int) > 64
        ·rw [decide_eq_true h64]; exact j6f (Or.inr (Or.inr (by omega)))
        ·rw [decide_eq_false h64]; exact j6e ⟨hg1, Or.inl hmm, by omega⟩
       ·have hmf : m = false := by simpa using hmm
        refine Ev.if_neg hmm ?_
        by_cases h0 : (v.f3.length : Int) > 0
        ·refine Ev.if_pos h0 ?_
         rw [decide_eq_true h0]; exact j6f (Or.inr (Or.inl ⟨hmf, by omega⟩))
        ·refine Ev.if_neg h0 ?_
         rw [decide_eq_false (show ¬ (v.f3.length : Int) > 64 by omega)]
         exact j6e ⟨hg1, Or.inr (by omega), by omega⟩
      by_cases h4 : v.f0 = 4
      ·exact Ev.if_pos h4 (j5e false (by constructor; (intro h; cases h); (intro h; exact absurd h4 h.1)))
      ·refine Ev.if_neg h4 (j5e _ ?_)
       rw [bne_iff_ne, ne_eq, size_toList]
       exact ⟨fun h => ⟨h4, h⟩, fun h => h.2⟩
     by_cases h2 : v.f0 = 2
     ·exact Ev.if_pos h2 (j4e false (by constructor; (intro h; cases h); (intro h; exact absurd h2 h.1)))
     refine Ev.if_neg h2 ?_
     by_cases h3 : v.f0 = 3
     ·exact Ev.if_pos h3 (j4e false (by constructor; (intro h; cases h); (intro h; exact absurd h3 h.2.1)))
     ·exact Ev.if_neg h3 (j4e _ (by rw [bne_iff_ne]; exact ⟨fun h => ⟨h2, h3, h⟩, fun h => h.2.2⟩))
    by_cases h3 : v.f0 = 3
    ·refine Ev.if_pos h3 ?_
     by_cases hlo : v.f1 < -9007199254740992
     ·exact Ev.if_pos hlo (j3e true ⟨fun _ => ⟨h3, Or.inl hlo⟩, fun _ => rfl⟩)
     ·exact Ev.if_neg hlo (j3e _ (by rw [decide_eq_true_iff]; omega))
    ·exact Ev.if_neg h3 (j3e false (by constructor; (intro h; cases h); (intro h; exact absurd h.1 h3)))
   by_cases h2 : v.f0 = 2
   ·refine Ev.if_pos h2 ?_
    by_cases h0 : v.f1 = 0
    ·exact Ev.if_pos h0 (j2e false (by constructor; (intro h; cases h); (intro h; exact absurd h0 h.2.1)))
    ·exact Ev.if_neg h0 (j2e _ (by rw [bne_iff_ne]; exact ⟨fun h => ⟨h2, h0, h⟩, fun h => h.2.2⟩))
   ·exact Ev.if_neg h2 (j2e false (by constructor; (intro h; cases h); (intro h; exact absurd h.1 h2)))
  by_cases h5 : v.f0 = 5
  ·refine Ev.if_pos h5 ?_
   rw [show (true : Bool) = m by rw [hm, decide_eq_true (Or.inl h5)]]
   exact j1e
  ·refine Ev.if_neg h5 ?_
   rw [show (v.f0 == 6) = m by rw [hm, Bool.eq_iff_iff, beq_iff_eq, decide_eq_true_iff]; omega]
   exact j1e
end Go.Proofs.YtifejhbochkifaaGreatDoor.X
