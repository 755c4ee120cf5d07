/- The reference's Same: are two values the same? -/
import Derived.Test.YtifejhbochkifaaGreatDoorHEv
import Derived.Test.YtifejhbochkifaaGreatDoorBB
import Derived.Test.YtifejhbochkifaaGreatDoorX9
namespace Go.Proofs.YtifejhbochkifaaGreatDoor.X
open Go.RowKit Go.Proofs.YtifejhbochkifaaGreatDoorW.PrintWords Go.Proofs.YtifejhbochkifaaGreatDoor.Spec
set_option linter.unusedVariables false
set_option linter.unusedSimpArgs false
/-- rows of a size that can be -/
def limB : Nat → V → Bool
  | 0, _ => false
  | d + 1, v => decide (v.f3.length ≤ 1000000000) && decide (v.f4.length ≤ 1000000000) && v.f3.all (limB d)
theorem lim_succ {d : Nat} {v : V} (h : limB (d + 1) v = true) : v.f3.length ≤ 1000000000 ∧ v.f4.length ≤ 1000000000 ∧ ∀ x ∈ v.f3, limB d x = true := by
 simp only [limB, Bool.and_eq_true, decide_eq_true_eq, List.all_eq_true] at h
 exact ⟨h.1.1, h.1.2, h.2⟩
noncomputable def eqB (v w : V) : Bool := @decide (v = w) (Classical.propDecidable _)
theorem eqB_true {v w : V} (h : v = w) : eqB v w = true := @decide_eq_true _ (Classical.propDecidable _) h
theorem eqB_false {v w : V} (h : v ≠ w) : eqB v w = false := @decide_eq_false _ (Classical.propDecidable _) h
theorem eqB_iff {v w : V} : eqB v w = true ↔ v = w := ⟨fun h => @of_decide_eq_true _ (Classical.propDecidable _) h, eqB_true⟩
theorem rd_at (xs : List V) (i : Nat) (h : i < xs.length) : rd_T25 xs (i : Int) = xs[i]'h := by
 simp [rd_T25, List.getD_eq_getElem?_getD, List.getElem?_eq_getElem h]
theorem rdOf_at (xs : List ByteArray) (i : Nat) (h : i < xs.length) : rdOf ByteArray.empty xs (i : Int) = xs[i]'h := by
 simp [rdOf, List.getD_eq_getElem?_getD, List.getElem?_eq_getElem h]
theorem toList_inj {a b : ByteArray} : a.toList = b.toList ↔ a = b := by
 constructor
 ·intro h
  rw [Lib.toList_data, Lib.toList_data] at h
  exact bl_inj h
 ·rintro rfl; rfl
theorem take_succ_eq {α : Type} {a b : List α} {i : Nat} (ha : i < a.length) (hb : i < b.length) (h : a.take i = b.take i) (he : a[i]'ha = b[i]'hb) : a.take (i + 1) = b.take (i + 1) := by
 rw [List.take_succ_eq_append_getElem ha, List.take_succ_eq_append_getElem hb, h, he]
theorem same_l1 (d : Nat) (IH : ∀ v w : V, limB d v = true → Ev (fun k => exequaturref01_Same.f k v.f0 v.f1 v.f2 v.f3 v.f4 w.f0 w.f1 w.f2 w.f3 w.f4) (eqB v w)) (v w : V) (hl : limB (d + 1) v = true)
  (h0 : v.f0 = w.f0) (h1 : v.f1 = w.f1) (h2 : v.f2 = w.f2) (h4 : v.f4 = w.f4) (h3 : v.f3.length = w.f3.length) :
  ∀ n i, i + n = v.f3.length → v.f3.take i = w.f3.take i → Ev (fun k => exequaturref01_Same.l1 k (i : Int) v.f0 v.f1 v.f2 v.f3 v.f4 w.f0 w.f1 w.f2 w.f3 w.f4) (eqB v w) := by
 obtain ⟨l3, l4, la⟩ := lim_succ hl
 intro n
 induction n with
 | zero =>
  intro i hi hp
  refine Ev.step (fun k => by rw [exequaturref01_Same.l1]) ?_
  refine Ev.if_neg (by omega) ?_
  refine (Ev.some _).uni (eqB_true ?_).symm
  rw [List.take_of_length_le (by omega), List.take_of_length_le (by omega)] at hp
  cases v; cases w
  simp only at h0 h1 h2 h4 hp
  subst h0 h1 h2 h4 hp
  rfl
 | succ n ih =>
  intro i hi hp
  refine Ev.step (fun k => by rw [exequaturref01_Same.l1]) ?_
  refine Ev.if_pos (by omega) (Ev.if_pos (by omega) (Ev.if_pos (by omega) ?_))
  have hv : i < v.f3.length := by omega
  have hw : i < w.f3.length := by omega
  rw [rd_at _ i hv, rd_at _ i hw]
  refine Ev.bind (IH _ _ (la _ (List.getElem_mem hv))) ?_
  by_cases he : v.f3[i]'hv = w.f3[i]'hw
  ·rw [eqB_true he]
   refine Ev.if_pos rfl ?_
   rw [w64 (by omega) (by omega)]
   exact ih (i + 1) (by omega) (take_succ_eq hv hw hp he)
  ·rw [eqB_false he]
   refine Ev.if_neg (by decide) ?_
   refine (Ev.some _).uni (eqB_false ?_).symm
   rintro rfl
   exact he rfl
theorem same_l0 (d : Nat) (IH : ∀ v w : V, limB d v = true → Ev (fun k => exequaturref01_Same.f k v.f0 v.f1 v.f2 v.f3 v.f4 w.f0 w.f1 w.f2 w.f3 w.f4) (eqB v w)) (v w : V) (hl : limB (d + 1) v = true)
  (h0 : v.f0 = w.f0) (h1 : v.f1 = w.f1) (h2 : v.f2 = w.f2) (h4 : v.f4.length = w.f4.length) (h3 : v.f3.length = w.f3.length) :
  ∀ n i, i + n = v.f4.length → v.f4.take i = w.f4.take i → Ev (fun k => exequaturref01_Same.l0 k (i : Int) v.f0 v.f1 v.f2 v.f3 v.f4 w.f0 w.f1 w.f2 w.f3 w.f4) (eqB v w) := by
 obtain ⟨l3, l4, la⟩ := lim_succ hl
 intro n
 induction n with
 | zero =>
  intro i hi hp
  refine Ev.step (fun k => by rw [exequaturref01_Same.l0]) ?_
  refine Ev.if_neg (by omega) ?_
  rw [List.take_of_length_le (by omega), List.take_of_length_le (by omega)] at hp
  exact same_l1 d IH v w hl h0 h1 h2 hp h3 v.f3.length 0 (by omega) rfl
 | succ n ih =>
  intro i hi hp
  refine Ev.step (fun k => by rw [exequaturref01_Same.l0]) ?_
  have hv : i < v.f4.length := by omega
  have hw : i < w.f4.length := by omega
  refine Ev.if_pos (by omega) (Ev.if_pos (by omega) (Ev.if_pos (by omega) ?_))
  rw [rdOf_at _ i hv, rdOf_at _ i hw]
  by_cases he : v.f4[i]'hv = w.f4[i]'hw
  ·refine Ev.if_pos (by rw [he]) ?_
   rw [w64 (by omega) (by omega)]
   exact ih (i + 1) (by omega) (take_succ_eq hv hw hp he)
  ·refine Ev.if_neg (fun h => he (toList_inj.1 h)) ?_
   refine (Ev.some _).uni (eqB_false ?_).symm
   rintro rfl
   exact he rfl
theorem same_j0 (v w : V) (h : v ≠ w) : Ev (fun k => exequaturref01_Same.j0 k true v.f0 v.f1 v.f2 v.f3 v.f4 w.f0 w.f1 w.f2 w.f3 w.f4) (eqB v w) := by
 refine Ev.step (fun k => by rw [exequaturref01_Same.j0]) ?_
 exact Ev.if_pos rfl ((Ev.some _).uni (eqB_false h).symm)
theorem same_ev : ∀ (d : Nat) (v w : V), limB d v = true → Ev (fun k => exequaturref01_Same.f k v.f0 v.f1 v.f2 v.f3 v.f4 w.f0 w.f1 w.f2 w.f3 w.f4) (eqB v w) := by
 intro d
 induction d with
 | zero => intro v w h; simp [limB] at h
 | succ d IH =>
  intro v w hl
  obtain ⟨l3, l4, la⟩ := lim_succ hl
  refine Ev.step (fun k => by rw [exequaturref01_Same.f]) ?_
  by_cases h0 : v.f0 = w.f0
  ·refine Ev.if_pos h0 ?_
   by_cases h1 : v.f1 = w.f1
   ·refine Ev.if_pos h1 ?_
    by_cases h2 : v.f2 = w.f2
    ·refine Ev.if_pos (by rw [h2]) ?_
     by_cases h3 : v.f3.length = w.f3.length
     ·refine Ev.if_pos (by rw [h3]) ?_
      by_cases h4 : v.f4.length = w.f4.length
      ·rw [show ((v.f4.length : Int) != (w.f4.length : Int)) = false by rw [h4]; simp]
       refine Ev.step (fun k => by rw [exequaturref01_Same.j0]) ?_
       refine Ev.if_neg (by decide) ?_
       exact same_l0 d IH v w hl h0 h1 h2 h4 h3 v.f4.length 0 (by omega) rfl
      ·rw [show ((v.f4.length : Int) != (w.f4.length : Int)) = true by rw [bne_iff_ne]; omega]
       exact same_j0 v w (fun e => h4 (by rw [e]))
     ·exact Ev.if_neg (by omega) (same_j0 v w (fun e => h3 (by rw [e])))
    ·exact Ev.if_neg (fun h => h2 (toList_inj.1 h)) (same_j0 v w (fun e => h2 (by rw [e])))
   ·exact Ev.if_neg h1 (same_j0 v w (fun e => h1 (by rw [e])))
  ·exact Ev.if_neg h0 (same_j0 v w (fun e => h0 (by rw [e])))
end Go.Proofs.YtifejhbochkifaaGreatDoor.X
