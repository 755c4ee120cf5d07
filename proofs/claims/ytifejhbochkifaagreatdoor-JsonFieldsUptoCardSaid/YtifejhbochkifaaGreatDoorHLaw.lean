/- What the laws of json share: limits, and the reference's Fits, show and Same at laid values. -/
import Derived.Test.YtifejhbochkifaaGreatDoorHRefJ
import Derived.Test.YtifejhbochkifaaGreatDoorHRefS
import Derived.Test.YtifejhbochkifaaGreatDoorBC
namespace Go.Proofs.YtifejhbochkifaaGreatDoor.X
open Go.RowKit Go.Proofs.YtifejhbochkifaaGreatDoorW.PrintWords Go.Proofs.YtifejhbochkifaaGreatDoorW.PrintLast Go.Proofs.YtifejhbochkifaaGreatDoorW.PrintMore Go.Proofs.YtifejhbochkifaaGreatDoor.Spec
set_option linter.unusedVariables false
set_option linter.unusedSimpArgs false
theorem lim_up : ∀ (d e : Nat) (v : V), d ≤ e → limB d v = true → limB e v = true := by
 intro d
 induction d with
 | zero => intro e v _ h; simp [limB] at h
 | succ d ih =>
  intro e v hde h
  obtain ⟨e, rfl⟩ : ∃ e', e = e' + 1 := ⟨e - 1, by omega⟩
  obtain ⟨h3, h4, ha⟩ := lim_succ h
  unfold limB
  rw [decide_eq_true h3, decide_eq_true h4]
  simp only [Bool.true_and, List.all_eq_true]
  exact fun x hx => ih e x (by omega) (ha x hx)
theorem lim_mk {d : Nat} {v : V} (h3 : v.f3.length ≤ 1000000000) (h4 : v.f4.length ≤ 1000000000) (ha : ∀ x ∈ v.f3, limB d x = true) : limB (d + 1) v = true := by
 unfold limB
 rw [decide_eq_true h3, decide_eq_true h4]
 simp only [Bool.true_and, List.all_eq_true]
 exact ha
theorem lim_fits : ∀ (d : Nat) (v : V), fitsB d v = true → limB d v = true := by
 intro d
 induction d with
 | zero => intro v h; simp [fitsB] at h
 | succ d ih =>
  intro v h
  obtain ⟨hk, hb, hkeys, ha⟩ := fits_succ h
  have hba := bare_all hb
  refine lim_mk (by omega) ?_ (fun x hx => ih x (ha x hx))
  split at hkeys
  ·rw [Bool.and_eq_true, beq_iff_eq] at hkeys; omega
  ·rw [beq_iff_eq] at hkeys; omega
theorem lim_z : limB 1 z_V = true := by decide
/-- a value is no deeper than its text is long -/
theorem fits_len : ∀ (d : Nat) (v : V), fitsB d v = true → fitsB ((rend d v).length + 1) v = true := by
 intro d
 induction d with
 | zero => intro v h; simp [fitsB] at h
 | succ d ih =>
  intro v h
  obtain ⟨hk, hb, hkeys, ha⟩ := fits_succ h
  have hba := bare_all hb
  unfold fitsB
  rw [decide_eq_true hk.1, decide_eq_true hk.2, hb, hkeys]
  simp only [Bool.true_and, List.all_eq_true]
  intro x hx
  have h1 := ih x (ha x hx)
  refine (fits_up _ _ x ?_ h1).1
  have hne : v.f3.length ≠ 0 := fun e => by rw [List.length_eq_zero_iff] at e; rw [e] at hx; cases hx
  have h5 : v.f0 = 5 ∨ v.f0 = 6 := by omega
  have hl : ∃ p ∈ partsV d v, (rend d x).length ≤ p.length := by
   unfold partsV
   split
   ·rename_i h6
    rw [if_pos h6, Bool.and_eq_true, beq_iff_eq] at hkeys
    obtain ⟨i, hi, rfl⟩ := List.getElem_of_mem hx
    have h4 : i < v.f4.length := by omega
    refine ⟨_, List.getElem_mem (l := List.zipWith (fun k x => jq (bl k) ++ 58 :: rend d x) v.f4 v.f3) (n := i) (by rw [List.length_zipWith]; omega), ?_⟩
    rw [List.getElem_zipWith, List.length_append, List.length_cons]
    omega
   ·exact ⟨_, List.mem_map_of_mem hx, Nat.le_refl _⟩
  obtain ⟨p, hp, hpl⟩ := hl
  have hc := part_le _ p hp
  have hr : (rend (d + 1) v).length = (commas (partsV d v)).length + 2 := by
   rw [rend, if_neg (by omega), if_neg (by omega), if_neg (by omega), if_neg (by omega)]
   unfold partsV
   rcases h5 with h | h
   ·rw [if_pos h, if_neg (by omega)]; simp
   ·rw [if_neg (by omega), if_pos h]; simp
  omega
theorem rfits_calls (d : Nat) (hd : d ≤ 1000000) (x : V) (D : Nat) (hl : limB D x = true) (A3 A4 : Option Addr) (q3 q4 : Nat) (w : World) (h3 : x.f3.length ≤ q3) (h4 : x.f4.length ≤ q4) (g3 : Kd.C k25 w A3 x.f3.length x.f3) (g4 : Kd.C Kd.string w A4 x.f4.length x.f4) :
  Calls Tryz.prog 19 #[.agg #[.int .i64 x.f0, .int .i64 x.f1, .string x.f2, .slice A3 x.f3.length q3, .slice A4 x.f4.length q4], .int .i64 (d : Int)] w fun e w' => e = .returned (.bool (fitsB d x)) ∧ Below w.heap.size w w' := by
 obtain ⟨k, hk⟩ := (fits_ev d hd x D hl).get
 exact exequaturref01_Fits.calls k x.f0 x.f1 x.f2 A3 q3 x.f3 A4 q4 x.f4 (d : Int) _ w g3 h3 g4 h4 hk
theorem rshow_calls (d : Nat) (x : V) (hf : fitsB d x = true) (hz : (rend d x).length ≤ 999999990) (A3 A4 : Option Addr) (q3 q4 : Nat) (w : World) (h3 : x.f3.length ≤ q3) (h4 : x.f4.length ≤ q4) (g3 : Kd.C k25 w A3 x.f3.length x.f3) (g4 : Kd.C Kd.string w A4 x.f4.length x.f4) :
  Calls Tryz.prog 27 #[.agg #[.int .i64 x.f0, .int .i64 x.f1, .string x.f2, .slice A3 x.f3.length q3, .slice A4 x.f4.length q4]] w fun e w' => e = .returned (.string (ba (rend d x))) ∧ Below w.heap.size w w' := by
 obtain ⟨k, hk⟩ := (show_ev d x hf hz).get
 exact exequaturref01_show.calls k x.f0 x.f1 x.f2 A3 q3 x.f3 A4 q4 x.f4 _ w g3 h3 g4 h4 hk
theorem rsame_calls (D : Nat) (v x : V) (hl : limB D v = true) (A3 A4 B3 B4 : Option Addr) (q3 q4 p3 p4 : Nat) (w : World)
  (h3 : v.f3.length ≤ q3) (g3 : Kd.C k25 w A3 v.f3.length v.f3) (h4 : v.f4.length ≤ q4) (g4 : Kd.C Kd.string w A4 v.f4.length v.f4)
  (h5 : x.f3.length ≤ p3) (g5 : Kd.C k25 w B3 x.f3.length x.f3) (h6 : x.f4.length ≤ p4) (g6 : Kd.C Kd.string w B4 x.f4.length x.f4) :
  Calls Tryz.prog 11 #[.agg #[.int .i64 v.f0, .int .i64 v.f1, .string v.f2, .slice A3 v.f3.length q3, .slice A4 v.f4.length q4], .agg #[.int .i64 x.f0, .int .i64 x.f1, .string x.f2, .slice B3 x.f3.length p3, .slice B4 x.f4.length p4]] w fun e w' => e = .returned (.bool (eqB v x)) ∧ Below w.heap.size w w' := by
 obtain ⟨k, hk⟩ := (same_ev D v x hl).get
 exact exequaturref01_Same.calls k v.f0 v.f1 v.f2 A3 q3 v.f3 A4 q4 v.f4 x.f0 x.f1 x.f2 B3 p3 x.f3 B4 p4 x.f4 _ w g3 h3 g4 h4 g5 h5 g6 h6 hk
theorem pout_at {P : V × Int} {w w' : World} {e : Ending} (h : POut P w e w') : ∃ A3 q3 A4 q4, e = .returned (.tuple #[.agg #[.int .i64 P.1.f0, .int .i64 P.1.f1, .string P.1.f2, .slice A3 P.1.f3.length q3, .slice A4 P.1.f4.length q4], .int .i64 P.2]) ∧ P.1.f3.length ≤ q3 ∧ Kd.C k25 w' A3 P.1.f3.length P.1.f3 ∧ P.1.f4.length ≤ q4 ∧ Kd.C Kd.string w' A4 P.1.f4.length P.1.f4 ∧ Below w.heap.size w w' := by
 obtain ⟨c3, c4, he, h3, h4, hb⟩ := h
 obtain ⟨A3, q3, rfl⟩ := Kd.R_slice h3
 obtain ⟨A4, q4, rfl⟩ := Kd.R_slice h4
 have r3 := Kd.R_reads' h3
 have r4 := Kd.R_reads' h4
 exact ⟨A3, q3, A4, q4, he, r3.2.1, r3.2.2, r4.2.1, r4.2.2, hb⟩
end Go.Proofs.YtifejhbochkifaaGreatDoor.X
