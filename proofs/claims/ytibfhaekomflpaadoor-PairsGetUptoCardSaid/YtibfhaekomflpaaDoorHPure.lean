/- Ours: the plain laws of chapter 2. -/
import Derived.Test.YtibfhaekomflpaaDoorHOps
import Derived.Test.YtibfhaekomflpaaDoorHRefP
import Derived.Test.YtibfhaekomflpaaDoorHTwice
import Derived.Test.YtibfhaekomflpaaDoorHGet
import Derived.Test.YtibfhaekomflpaaDoorX11
import Derived.Test.YtibfhaekomflpaaDoorX14
import Derived.Test.YtibfhaekomflpaaDoorX15
import Derived.Test.YtibfhaekomflpaaDoorX16
namespace Go.Proofs.YtibfhaekomflpaaDoor.X
open Go.RowKit Go.Proofs.YtibfhaekomflpaaDoorW.PrintWords Go.Proofs.YtibfhaekomflpaaDoor.Spec
set_option linter.unusedVariables false
set_option linter.unusedSimpArgs false

set_option maxRecDepth 100000 in
theorem answers_ok : Ev (fun k => exequaturlaw02_answers.f k) true :=
  Ev.of_mono (g := fun k => exequaturlaw02_answers.f k) (fun k => exequaturlaw02_answers.mono k) (K := 5) (by decide +kernel)

theorem same_from (l : List Pr) (hl : l.length ≤ 4611686018427387904) : ∀ n i, i + n = l.length → Ev (fun k => exequaturlaw02_same.l0 k l l (i : Int)) true := by
  intro n
  induction n with
  | zero => intro i hi; exact Ev.step (fun k => by rw [exequaturlaw02_same.l0]) (Ev.if_neg (by omega) (Ev.some _))
  | succ n ih =>
    intro i hi
    refine Ev.step (fun k => by rw [exequaturlaw02_same.l0]) ?_
    rw [w64 (by omega) (by omega)]
    exact Ev.if_pos (by omega) (Ev.if_pos (by omega) (Ev.if_pos (by omega) (Ev.if_neg (by simp) (ih (i + 1) (by omega)))))
theorem same_ok (l : List Pr) (hl : l.length ≤ 4611686018427387904) : Ev (fun k => exequaturlaw02_same.f k l l) true := by
  unfold exequaturlaw02_same.f
  exact Ev.if_pos rfl (same_from l hl l.length 0 (by simp))

theorem parse_small (s : ByteArray) (r : List Pr × Int) (h : pairs_Parse.f s = some r) : r.1.length ≤ 64 := by
  rw [parse_f] at h
  obtain rfl := Option.some.inj h
  split
  · simp
  · unfold formFin
    split
    · simp
    · split
      · simp
      · simp; omega

theorem pure_PairsParse (a0 : ByteArray) (hb : ((a0).size + 1) ≤ 1048576) : ∃ k, exequaturlaw02_PairsParse.f k a0 = some true := by
  refine Ev.get (g := fun k => exequaturlaw02_PairsParse.f k a0) ?_
  unfold exequaturlaw02_PairsParse.f
  obtain ⟨r, hr⟩ : ∃ r, pairs_Parse.f a0 = some r := ⟨_, parse_f a0⟩
  refine Ev.bind (Ev.const hr) (Ev.bind (ref_Form a0 r hr) (Ev.bind answers_ok (Ev.if_pos rfl (Ev.if_pos rfl ?_))))
  have := parse_small a0 r hr
  exact Ev.bind (same_ok r.1 (by omega)) (Ev.some _)

/-! what the bulk gives -/
theorem B_le {l : List Pr} {p : Pr} (h : p ∈ l) : B30 p ≤ (l.map fun x => B30 x).sum := by
  induction l with
  | nil => cases h
  | cons q r ih =>
    simp only [List.map_cons, List.sum_cons]
    rcases List.mem_cons.1 h with rfl | h
    · omega
    · have := ih h; omega
theorem len_le (l : List Pr) : l.length ≤ (l.map fun x => B30 x).sum := by
  induction l with
  | nil => simp
  | cons q r ih => simp only [List.map_cons, List.sum_cons, List.length_cons]; have : 1 ≤ B30 q := by unfold B30; omega
                   omega
theorem small_of {l : List Pr} (hb : B22 l ≤ 1048576) : (∀ p ∈ l, psz p ≤ 1048576) ∧ l.length ≤ 1048576 := by
  unfold B22 at hb
  constructor
  · intro p hp
    have := B_le hp
    have hB : B30 p = psz p + 3 := by unfold B30 psz; omega
    omega
  · have := len_le l; omega

theorem parse_build (l : List Pr) : pairs_Parse.f (ba (buildL l)) = some (if 4096 < (buildL l).length ∨ 64 < l.length then ([], 3) else (l, 0)) := by
  rw [parse_f, formOf_L, bl_ba, formL_build, size_ba, List.nil_append]
  unfold formFin
  by_cases h1 : 4096 < (buildL l).length <;> by_cases h2 : 64 < l.length <;> simp [h1, h2]

theorem back_from (l : List Pr) (hb : B22 l ≤ 1048576) : ∀ n i, i + n = l.length → Ev (fun k => exequaturlaw02_PairsBack.l0 k l (i : Int)) true := by
  have hsm := small_of hb
  intro n
  induction n with
  | zero =>
    intro i hi
    refine Ev.step (fun k => by rw [exequaturlaw02_PairsBack.l0]) (Ev.if_neg (by omega) ?_)
    refine Ev.bind (build_f l hsm.1 hsm.2) (Ev.bind (Ev.const (parse_build l)) (Ev.bind (ref_Build l hsm.1 hsm.2) (Ev.if_pos rfl ?_)))
    rw [size_ba]
    have done : ∀ c : Bool, Ev (fun k => exequaturlaw02_PairsBack.j1 k l (if 4096 < (buildL l).length ∨ 64 < l.length then (([] : List Pr), (3 : Int)) else (l, 0)).1 (if 4096 < (buildL l).length ∨ 64 < l.length then (([] : List Pr), (3 : Int)) else (l, 0)).2 (decide (4096 < (buildL l).length ∨ 64 < l.length))) true := by
      intro _
      by_cases h : 4096 < (buildL l).length ∨ 64 < l.length
      · simp only [h, if_true, decide_true]
        exact Ev.step (fun k => by rw [exequaturlaw02_PairsBack.j1]) (Ev.if_pos rfl (Ev.bind answers_ok (Ev.if_pos rfl (Ev.if_pos rfl (Ev.some _)))))
      · simp only [h, if_false, decide_false]
        exact Ev.step (fun k => by rw [exequaturlaw02_PairsBack.j1]) (Ev.if_neg (by simp) (Ev.bind answers_ok (Ev.if_pos rfl (Ev.if_pos rfl (Ev.bind (same_ok l (by omega)) (Ev.some _))))))
    by_cases h1 : 4096 < (buildL l).length
    · refine Ev.if_pos (by omega) ?_
      have := done true
      simp only [h1, true_or, decide_true] at this ⊢
      exact this
    · refine Ev.if_neg (by omega) ?_
      have := done true
      have e : decide ((l.length : Int) > 64) = decide (4096 < (buildL l).length ∨ 64 < l.length) := by
        simp only [h1, false_or]; exact decide_eq_decide.2 (by omega)
      rw [e]
      exact this
  | succ n ih =>
    intro i hi
    have hlt : i < l.length := by omega
    have hp := hsm.1 l[i] (List.getElem_mem hlt)
    unfold psz at hp
    refine Ev.step (fun k => by rw [exequaturlaw02_PairsBack.l0]) (Ev.if_pos (by omega) ?_)
    by_cases h1 : (l.length : Int) > 200
    · exact Ev.if_pos h1 (Ev.bind answers_ok (Ev.some _))
    refine Ev.if_neg h1 (Ev.if_pos (by omega) ?_)
    rw [rd_pr _ _ hlt]
    by_cases h2 : (wrap64 ((((l[i]).f0).size : Int) + (((l[i]).f1).size : Int))) > 1000
    · exact Ev.if_pos h2 (Ev.bind answers_ok (Ev.some _))
    refine Ev.if_neg h2 ?_
    rw [w64 (n := (i : Int) + 1) (by omega) (by omega)]
    exact ih (i + 1) (by omega)
theorem pure_PairsBack (l0 : List Pr) (hb : (B22 (l0)) ≤ 1048576) (g0 : G22 (l0)) : ∃ k, exequaturlaw02_PairsBack.f k l0 = some true :=
  Ev.get (g := fun k => exequaturlaw02_PairsBack.f k l0) (back_from l0 hb l0.length 0 (by simp))

/-! Limits -/
def ands (k : Nat) : List UInt8 := (List.replicate k [97, 38]).flatten
theorem ands_succ (k : Nat) : ands (k + 1) = ands k ++ [97, 38] := by simp [ands, List.replicate_succ']
theorem ands_len (k : Nat) : (ands k).length = 2 * k := by
  induction k with
  | zero => rfl
  | succ k ih => rw [ands_succ, List.length_append, ih]; simp; omega
theorem formL_ands (k : Nat) (acc : List Pr) : formL (some acc) (ands k) = some (acc ++ List.replicate k ⟨ba [97], ba []⟩) := by
  induction k generalizing acc with
  | zero => rw [show ands 0 = [] from rfl, formL_nil]; simp
  | succ k ih =>
    rw [show ands (k + 1) = [97] ++ 38 :: ands k from rfl, formL_hit acc [97] (ands k) ⟨ba [97], ba []⟩ (by decide) (by decide) (by unfold pair1; simp only [bl_ba]; rfl), ih]
    simp [List.replicate_succ]
theorem unq_zeros (m : Nat) : unquoteL (List.replicate m 0) = some (List.replicate m 0) := by
  induction m with
  | zero => rfl
  | succ m ih => rw [List.replicate_succ, unq_plain _ _ (by decide), ih]; rfl
theorem zeros_no (c : UInt8) (h : c ≠ 0) (m : Nat) : c ∉ List.replicate m 0 := by
  intro hm; exact h (List.eq_of_mem_replicate hm)
theorem parse_zeros (m : Nat) (h0 : 0 < m) : ∃ r, pairs_Parse.f (ba (List.replicate m 0)) = some r ∧ (r.2 = 0 ↔ m ≤ 4096) := by
  refine ⟨_, parse_f _, ?_⟩
  rw [size_ba, List.length_replicate, formOf_L, bl_ba]
  have hp : pair1 (ba (List.replicate m 0)) = some ⟨ba (List.replicate m 0), ba []⟩ := by
    unfold pair1
    rw [bl_ba, pre_of_not_mem (zeros_no 61 (by decide) m), post_of_not_mem (zeros_no 61 (by decide) m), unq_zeros]
    rfl
  rw [formL_last [] _ _ (zeros_no 38 (by decide) m) (by intro h; have := congrArg List.length h; simp at this; omega) hp]
  unfold formFin
  split
  · simp; omega
  · simp; omega
theorem strs_zero (m : Nat) : strOfNums (List.replicate m 0) = ba (List.replicate m 0) := by
  have : List.replicate m (0 : Int) = nb (List.replicate m 0) := by simp [nb]
  rw [this, str_nb]
theorem limits_from (c : Nat) (hc : c < 80) (a1 : Int) (h0 : 0 ≤ a1) (h1 : a1 < 65536) : ∀ n i, i + n = c → Ev (fun k => exequaturlaw02_PairsLimits.l0 k a1 (c : Int) (ba (ands i)) (i : Int)) true := by
  intro n
  induction n with
  | zero =>
    intro i hi
    have hi : i = c := by omega
    subst hi
    refine Ev.step (fun k => by rw [exequaturlaw02_PairsLimits.l0]) (Ev.if_neg (by omega) ?_)
    have ht : Int.tmod a1 200 = a1 % 200 := Int.tmod_eq_emod_of_nonneg h0
    have hm : wrap64 (4000 + wrap64 (Int.tmod a1 200)) = 4000 + a1 % 200 := by rw [ht, w64 (n := a1 % 200) (by omega) (by omega), w64 (by omega) (by omega)]
    rw [hm]
    have hp : pairs_Parse.f (ba (ands i)) = some (if 64 < i then ([], 3) else (List.replicate i ⟨ba [97], ba []⟩, 0)) := by
      rw [parse_f, size_ba, ands_len, if_neg (by omega), formOf_L, bl_ba, formL_ands]
      simp [formFin]
    obtain ⟨r, hr, hr2⟩ := parse_zeros (4000 + a1 % 200).toNat (by omega)
    refine Ev.bind (Ev.const hp) (Ev.if_pos (by omega) (Ev.if_pos (by omega) ?_))
    rw [strs_zero]
    refine Ev.bind (Ev.const hr) (Ev.bind answers_ok (Ev.if_pos rfl (Ev.if_pos ?_ (Ev.if_pos ?_ ?_))))
    · by_cases h : 64 < i
      · simp [h]; omega
      · simp [h]; omega
    · by_cases h : (4000 + a1 % 200).toNat ≤ 4096
      · have e := hr2.2 h
        simp [e]; omega
      · have e : r.2 ≠ 0 := fun e => h (hr2.1 e)
        have e1 : decide (4000 + a1 % 200 ≤ 4096) = false := decide_eq_false (by omega)
        have e2 : (r.2 == 0) = false := beq_eq_false_iff_ne.2 e
        rw [e1, e2]; rfl
    · by_cases h : 64 < i
      · simp only [h, if_true]; exact Ev.if_neg (by decide) (Ev.some _)
      · simp only [h, if_false]; exact Ev.if_pos (by simp) (Ev.some _)
  | succ n ih =>
    intro i hi
    refine Ev.step (fun k => by rw [exequaturlaw02_PairsLimits.l0]) (Ev.if_pos (by omega) (Ev.if_pos (by rw [size_ba, ands_len]; omega) ?_))
    rw [w64 (by omega) (by omega)]
    have e : ba (ands i) ++ (⟨#[97, 38]⟩ : ByteArray) = ba (ands (i + 1)) := by
      apply bl_inj
      rw [bl_append, bl_ba, bl_ba, ands_succ]; rfl
    rw [e]
    exact ih (i + 1) (by omega)
theorem pure_PairsLimits (a0 : Int) (a1 : Int) (hb : (1) + (1) ≤ 1048576) (g0 : (Lit.int .u8 a0).wf = true) (g1 : (Lit.int .u16 a1).wf = true) : ∃ k, exequaturlaw02_PairsLimits.f k a0 a1 = some true := by
  have b0 := bounds_u8 g0
  have b1 := bounds_u16 g1
  refine Ev.get (g := fun k => exequaturlaw02_PairsLimits.f k a0 a1) ?_
  unfold exequaturlaw02_PairsLimits.f
  have ht : Int.tmod a0 80 = a0 % 80 := Int.tmod_eq_emod_of_nonneg (by omega)
  have hm : wrap64 (Int.tmod a0 80) = ((a0 % 80).toNat : Int) := by rw [ht, w64 (by omega) (by omega)]; omega
  rw [hm]
  exact limits_from (a0 % 80).toNat (by omega) a1 (by omega) (by omega) _ 0 (by simp; rfl)

/-! Empty -/
def amps (m : Nat) : List UInt8 := List.replicate m 38
def strE (m : Nat) (l : List Pr) : List UInt8 := (l.map fun p => amps m ++ pairL p).flatten
theorem strE_snoc (m : Nat) (l : List Pr) (p : Pr) : strE m (l ++ [p]) = strE m l ++ amps m ++ pairL p := by simp [strE]
theorem formL_amps (acc : Option (List Pr)) (m : Nat) (r : List UInt8) : formL acc (amps m ++ r) = formL acc r := by
  induction m with
  | zero => rfl
  | succ m ih => rw [show amps (m + 1) ++ r = 38 :: (amps m ++ r) from by simp [amps, List.replicate_succ], formL_amp, ih]
theorem formL_strE (m : Nat) (hm : 0 < m) (l acc : List Pr) : formL (some acc) (strE m l) = some (acc ++ l) := by
  induction l generalizing acc with
  | nil => rw [show strE m [] = [] from rfl, formL_nil]; simp
  | cons p r ih =>
    rw [show strE m (p :: r) = amps m ++ (pairL p ++ strE m r) from by simp [strE], formL_amps]
    cases r with
    | nil => rw [show strE m [] = [] from rfl, List.append_nil, formL_last acc _ p (pairL_no p) (pairL_ne p) (pair1_pairL p)]
    | cons q r =>
      have e : strE m (q :: r) = 38 :: (amps (m - 1) ++ pairL q ++ strE m r) := by
        have : amps m = 38 :: amps (m - 1) := by
          obtain ⟨j, rfl⟩ : ∃ j, m = j + 1 := ⟨m - 1, by omega⟩
          simp [amps, List.replicate_succ]
        simp [strE, this]
      rw [e, formL_hit acc _ _ p (pairL_no p) (pairL_ne p) (pair1_pairL p), ← formL_amp, ← e, ih]
      simp
theorem amps_len (m : Nat) : (amps m).length = m := by simp [amps]
theorem strE_len (m M : Nat) (l : List Pr) (h : ∀ p ∈ l, psz p ≤ M) : (strE m l).length ≤ l.length * (3 * M + 1 + m) := by
  induction l with
  | nil => simp [strE]
  | cons p r ih =>
    have hp := pairL_length p
    have hm := h p List.mem_cons_self
    have := ih (fun p hp => h p (List.mem_cons_of_mem _ hp))
    rw [show strE m (p :: r) = amps m ++ (pairL p ++ strE m r) from by simp [strE]]
    have e : (r.length + 1) * (3 * M + 1 + m) = r.length * (3 * M + 1 + m) + (3 * M + 1 + m) := Nat.succ_mul _ _
    simp only [List.length_append, List.length_cons, amps_len]
    rw [e]
    omega
theorem empty_from (l : List Pr) (hl : l.length ≤ 20) (hs : ∀ p ∈ l, psz p ≤ 1048576) (a1 : Int) (h0 : 0 ≤ a1) (h1 : a1 < 256) : ∀ n i, i + n = l.length → Ev (fun k => exequaturlaw02_PairsEmpty.l0 k l a1 (ba (strE ((a1 % 3).toNat + 1) (l.take i))) (i : Int)) true := by
  have ht : wrap64 (Int.tmod a1 3) = ((a1 % 3).toNat : Int) := by rw [Int.tmod_eq_emod_of_nonneg h0, w64 (by omega) (by omega)]; omega
  obtain ⟨m, hm⟩ : ∃ m, (a1 % 3).toNat = m := ⟨_, rfl⟩
  have hm3 : m < 3 := by omega
  rw [hm] at ht ⊢
  intro n
  induction n with
  | zero =>
    intro i hi
    refine Ev.step (fun k => by rw [exequaturlaw02_PairsEmpty.l0]) (Ev.if_neg (by omega) ?_)
    rw [List.take_of_length_le (by omega)]
    have hp : pairs_Parse.f (ba (strE (m + 1) l)) = some (if 4096 < (strE (m + 1) l).length then ([], 3) else (l, 0)) := by
      rw [parse_f, size_ba, formOf_L, bl_ba, formL_strE _ (by omega), List.nil_append]
      simp only [formFin]
      rw [if_neg (show ¬ 64 < l.length by omega)]
    refine Ev.bind (Ev.const hp) (Ev.bind answers_ok (Ev.if_pos rfl ?_))
    rw [size_ba]
    by_cases h : 4096 < (strE (m + 1) l).length
    · exact Ev.if_pos (by omega) (Ev.some _)
    · refine Ev.if_neg (by omega) ?_
      simp only [h, if_false]
      exact Ev.if_pos (by simp) (Ev.bind (same_ok l (by omega)) (Ev.some _))
  | succ n ih =>
    intro i hi
    have hlt : i < l.length := by omega
    have hp := hs l[i] (List.getElem_mem hlt)
    obtain ⟨p, hpe⟩ : ∃ p, l[i] = p := ⟨_, rfl⟩
    rw [hpe] at hp
    refine Ev.step (fun k => by rw [exequaturlaw02_PairsEmpty.l0]) (Ev.if_pos (by omega) (Ev.if_pos (by omega) ?_))
    rw [rd_pr _ _ hlt, hpe]
    by_cases h2 : (wrap64 (((p.f0).size : Int) + ((p.f1).size : Int))) > 50
    · exact Ev.if_pos h2 (Ev.bind answers_ok (Ev.some _))
    refine Ev.if_neg h2 ?_
    have hlen := strE_len (m + 1) 1048576 (l.take i) (fun p hp => hs p (List.mem_of_mem_take hp))
    rw [List.length_take, Nat.min_eq_left (by omega)] at hlen
    have hlen2 : (strE (m + 1) (l.take i)).length ≤ 100000000 := by
      have : i * (3 * 1048576 + 1 + (m + 1)) ≤ 20 * (3 * 1048576 + 1 + (m + 1)) := Nat.mul_le_mul_right _ (by omega)
      omega
    clear hlen
    have inner : ∀ d j, j + d = m + 1 → Ev (fun k => exequaturlaw02_PairsEmpty.l1 k l a1 (ba (strE (m + 1) (l.take i) ++ amps j)) (i : Int) (j : Int)) true := by
      intro d
      induction d with
      | zero =>
        intro j hj
        have hj : j = m + 1 := by omega
        subst hj
        refine Ev.step (fun k => by rw [exequaturlaw02_PairsEmpty.l1]) (Ev.if_neg (by omega) (Ev.if_pos (by omega) (Ev.if_pos (by omega) ?_)))
        rw [rd_pr _ _ hlt, hpe]
        have hpp : (⟨p.f0, p.f1⟩ : Pr) = p := rfl
        rw [hpp]
        have hb := build_f [p] (fun q hq => by rw [List.mem_singleton.1 hq]; exact hp) (by simp)
        rw [buildL_one] at hb
        refine Ev.bind hb (Ev.if_pos ?_ ?_)
        · have := pairL_length p
          simp only [size_ba, List.length_append, amps_len]
          omega
        · have := ih (i + 1) (by omega)
          rw [List.take_succ_eq_append_getElem hlt, hpe, strE_snoc] at this
          rw [w64 (by omega) (by omega)]
          have e : ba (strE (m + 1) (l.take i) ++ amps (m + 1)) ++ ba (pairL p) = ba (strE (m + 1) (l.take i) ++ amps (m + 1) ++ pairL p) := by
            apply bl_inj
            rw [bl_append, bl_ba, bl_ba, bl_ba]
          rw [e]
          exact this
      | succ d ihd =>
        intro j hj
        refine Ev.step (fun k => by rw [exequaturlaw02_PairsEmpty.l1]) (Ev.if_pos (by omega) (Ev.if_pos ?_ ?_))
        · simp only [size_ba, List.length_append, amps_len]; omega
        · rw [w64 (by omega) (by omega)]
          have e : ba (strE (m + 1) (l.take i) ++ amps j) ++ (⟨#[38]⟩ : ByteArray) = ba (strE (m + 1) (l.take i) ++ amps (j + 1)) := by
            apply bl_inj
            rw [bl_append, bl_ba, bl_ba, show bl (⟨#[38]⟩ : ByteArray) = [38] from rfl]
            simp [amps, List.replicate_succ']
          rw [e]
          exact ihd (j + 1) (by omega)
    have := inner (m + 1) 0 (by omega)
    simpa [amps] using this
theorem pure_PairsEmpty (l0 : List Pr) (a1 : Int) (hb : (B22 (l0)) + (1) ≤ 1048576) (g0 : G22 (l0)) (g1 : (Lit.int .u8 a1).wf = true) : ∃ k, exequaturlaw02_PairsEmpty.f k l0 a1 = some true := by
  have b1 := bounds_u8 g1
  have hsm := small_of (l := l0) (by omega)
  refine Ev.get (g := fun k => exequaturlaw02_PairsEmpty.f k l0 a1) ?_
  unfold exequaturlaw02_PairsEmpty.f
  by_cases h : (l0.length : Int) > 20
  · exact Ev.if_pos h (Ev.bind answers_ok (Ev.some _))
  · exact Ev.if_neg h (empty_from l0 (by omega) hsm.1 a1 (by omega) (by omega) l0.length 0 (by simp))

/-! Get -/
def isKey (key : ByteArray) (x : Pr) : Bool := x.f0.toList == key.toList
theorem get_f (l : List Pr) (key : ByteArray) : pairs_Get.f l key = some (if idxOf (isKey key) l < 0 then (⟨#[]⟩, false) else ((rd_T30 l (idxOf (isKey key) l)).f1, true)) := rfl
theorem idx_none (p : Pr → Bool) (l : List Pr) (h : ∀ i (hi : i < l.length), p l[i] = false) : idxOf p l = -1 :=
  idxOf_all p l (fun x hx => by obtain ⟨i, hi, rfl⟩ := List.getElem_of_mem hx; exact h i hi)
theorem rget_from (l : List Pr) (hl : l.length ≤ 1048576) (key : ByteArray) : ∀ n i, i + n = l.length → (∀ j (hj : j < i) (hj2 : j < l.length), isKey key l[j] = false) → Ev (fun k => exequaturref01_Get.l0 k l key (i : Int)) (if idxOf (isKey key) l < 0 then (⟨#[]⟩ : ByteArray) else (rd_T30 l (idxOf (isKey key) l)).f1) := by
  intro n
  induction n with
  | zero =>
    intro i hi hm
    have : idxOf (isKey key) l = -1 := idx_none _ _ (fun j hj => hm j (by omega) hj)
    rw [this]
    refine Ev.step (fun k => by rw [exequaturref01_Get.l0]) (Ev.if_neg (by omega) ?_)
    rw [if_pos (by omega)]
    exact Ev.some _
  | succ n ih =>
    intro i hi hm
    have hlt : i < l.length := by omega
    refine Ev.step (fun k => by rw [exequaturref01_Get.l0]) (Ev.if_pos (by omega) (Ev.if_pos (by omega) ?_))
    by_cases h : isKey key l[i] = true
    · have hx : idxOf (isKey key) l = i := idxOf_hit _ i l hlt (fun j hj => hm j hj (by omega)) h
      rw [hx, if_neg (by omega), rd_pr _ _ hlt]
      exact Ev.if_pos (by simpa [isKey] using h) (Ev.some _)
    · have hf : isKey key l[i] = false := by simpa using h
      rw [rd_pr _ _ hlt, w64 (by omega) (by omega)]
      refine Ev.if_neg (by simpa [isKey] using hf) (ih (i + 1) (by omega) (fun j hj hj2 => ?_))
      by_cases e : j = i
      · subst e; exact hf
      · exact hm j (by omega) hj2
theorem ref_Get (l : List Pr) (hl : l.length ≤ 1048576) (key : ByteArray) : Ev (fun k => exequaturref01_Get.f k l key) (if idxOf (isKey key) l < 0 then (⟨#[]⟩ : ByteArray) else (rd_T30 l (idxOf (isKey key) l)).f1) :=
  rget_from l hl key l.length 0 (by simp) (fun j hj => by omega)

/-! Twice -/
theorem addNew_len {α : Type} [BEq α] (acc : List α) (x : α) : (addNew acc x).length ≤ acc.length + 1 := by unfold addNew; split <;> simp
theorem foldl_addNew_len {α : Type} [BEq α] (b acc : List α) : (b.foldl addNew acc).length ≤ acc.length + b.length := by
  induction b generalizing acc with
  | nil => simp
  | cons x r ih => have := ih (addNew acc x); have := addNew_len acc x; rw [List.foldl_cons, List.length_cons]; omega
theorem distinct_app {α : Type} [BEq α] (a b : List α) : (distinct (a ++ b)).length ≤ (distinct a).length + b.length := by
  unfold distinct; rw [List.foldl_append]; exact foldl_addNew_len _ _
def keysOf (l : List Pr) : List (List UInt8) := l.map (fun x => bl x.f0)
theorem twice_from (l : List Pr) (hl : l.length ≤ 1048576) : ∀ n i, i + n = l.length → distinct ((keysOf l).take i) = (keysOf l).take i → Ev (fun k => exequaturref01_Twice.l0 k l (i : Int)) ((distinct (keysOf l)).length != l.length) := by
  have hkl : (keysOf l).length = l.length := by simp [keysOf]
  intro n
  induction n with
  | zero =>
    intro i hi hd
    refine Ev.step (fun k => by rw [exequaturref01_Twice.l0]) (Ev.if_neg (by omega) ?_)
    rw [List.take_of_length_le (by omega)] at hd
    rw [hd, hkl]
    exact (Ev.some _).uni (by simp)
  | succ n ih =>
    intro i hi hd
    have hlt : i < l.length := by omega
    have hlk : i < (keysOf l).length := by omega
    have hki : (keysOf l)[i] = bl (l[i]).f0 := by simp [keysOf]
    refine Ev.step (fun k => by rw [exequaturref01_Twice.l0]) (Ev.if_pos (by omega) ?_)
    have inner : ∀ d j, j + d = i → (∀ q (hq : q < j) (hq2 : q < l.length), bl (l[i]).f0 ≠ bl (l[q]).f0) → Ev (fun k => exequaturref01_Twice.l1 k l (i : Int) (j : Int)) ((distinct (keysOf l)).length != l.length) := by
      intro d
      induction d with
      | zero =>
        intro j hj hm
        have hj : j = i := by omega
        subst hj
        refine Ev.step (fun k => by rw [exequaturref01_Twice.l1]) (Ev.if_neg (by omega) ?_)
        rw [w64 (by omega) (by omega)]
        refine ih (j + 1) (by omega) ?_
        rw [List.take_succ_eq_append_getElem hlk, distinct_snoc, hd]
        unfold addNew
        rw [if_neg]
        intro hc
        rw [List.contains_iff_mem] at hc
        obtain ⟨q, hq, hqe⟩ := List.getElem_of_mem hc
        rw [List.length_take] at hq
        rw [List.getElem_take, hki] at hqe
        have hq2 : q < l.length := by omega
        have : (keysOf l)[q]'(by omega) = bl (l[q]).f0 := by simp [keysOf]
        rw [this] at hqe
        exact hm q (by omega) hq2 hqe.symm
      | succ d ihd =>
        intro j hj hm
        have hjl : j < l.length := by omega
        refine Ev.step (fun k => by rw [exequaturref01_Twice.l1]) (Ev.if_pos (by omega) (Ev.if_pos (by omega) (Ev.if_pos (by omega) (Ev.if_pos (by omega) (Ev.if_pos (by omega) ?_)))))
        rw [rd_pr _ _ hlt, rd_pr _ _ hjl, toList_bl, toList_bl, w64 (by omega) (by omega)]
        by_cases h : bl (l[i]).f0 = bl (l[j]).f0
        · refine Ev.if_pos h ((Ev.some _).uni ?_)
          have h1 : (distinct ((keysOf l).take (i + 1))).length ≤ i := by
            rw [List.take_succ_eq_append_getElem hlk, distinct_snoc, hd]
            unfold addNew
            rw [if_pos]
            · rw [List.length_take]; omega
            · rw [List.contains_iff_mem, hki, h]
              have : (keysOf l)[j]'(by omega) = bl (l[j]).f0 := by simp [keysOf]
              rw [← this]
              exact List.mem_take_iff_getElem.2 ⟨j, by omega, rfl⟩
          have h2 := distinct_app ((keysOf l).take (i + 1)) ((keysOf l).drop (i + 1))
          rw [List.take_append_drop, List.length_drop, hkl] at h2
          symm
          rw [bne_iff_ne]
          omega
        · refine Ev.if_neg h (ihd (j + 1) (by omega) (fun q hq hq2 => ?_))
          by_cases e : q = j
          · subst e; exact h
          · exact hm q (by omega) hq2
    exact inner i 0 (by omega) (fun q hq => by omega)
theorem ref_Twice (l : List Pr) (hl : l.length ≤ 1048576) : Ev (fun k => exequaturref01_Twice.f k l) ((distinct (keysOf l)).length != l.length) :=
  twice_from l hl l.length 0 (by simp) (by simp [distinct])

theorem getlaw_from (l : List Pr) (hb : B22 l ≤ 1048576) (key : ByteArray) : ∀ n i (has : Bool), i + n = l.length → (has = false → ∀ j (hj : j < i) (hj2 : j < l.length), isKey key l[j] = false) → (has = true → 0 ≤ idxOf (isKey key) l) → Ev (fun k => exequaturlaw02_PairsGet.l0 k l key has (i : Int)) true := by
  have hsm := small_of hb
  intro n
  induction n with
  | zero =>
    intro i has hi h0 h1
    refine Ev.step (fun k => by rw [exequaturlaw02_PairsGet.l0]) (Ev.if_neg (by omega) ?_)
    refine Ev.bind (Ev.const (get_f l key)) (Ev.bind answers_ok (Ev.if_pos rfl (Ev.bind (ref_Get l hsm.2 key) (Ev.if_pos ?_ (Ev.if_pos ?_ ?_)))))
    · split <;> rfl
    · cases has with
      | true => rw [if_neg (by have := h1 rfl; omega)]; rfl
      | false =>
        rw [idx_none _ _ (fun j hj => h0 rfl j (by omega) hj)]; rfl
    · have ht : pairs_Twice.f l = some ((distinct (keysOf l)).length != l.length) := by
        unfold pairs_Twice.f
        rw [if_pos]
        · rfl
        · have hmx : (1048576 : Nat) < maxLen := by decide
          refine ⟨fun x hx => ?_, by omega⟩
          have := hsm.1 x hx
          unfold psz at this; omega
      exact Ev.bind (Ev.const ht) (Ev.bind (ref_Twice l hsm.2) ((Ev.some _).uni (by simp)))
  | succ n ih =>
    intro i has hi h0 h1
    have hlt : i < l.length := by omega
    refine Ev.step (fun k => by rw [exequaturlaw02_PairsGet.l0]) (Ev.if_pos (by omega) ?_)
    rw [rd_pr _ _ hlt, w64 (by have := hsm.2; omega) (by have := hsm.2; omega)]
    cases has with
    | true => exact Ev.if_pos rfl (ih (i + 1) true (by omega) (fun h => by cases h) h1)
    | false =>
      refine Ev.if_neg (by simp) (Ev.if_pos (by omega) ?_)
      have e : ((l[i]).f0.toList == key.toList) = isKey key l[i] := rfl
      rw [e]
      refine ih (i + 1) _ (by omega) (fun h j hj hj2 => ?_) (fun h => ?_)
      · by_cases e : j = i
        · subst e; exact h
        · exact h0 rfl j (by omega) hj2
      · rw [idxOf_hit _ i l hlt (fun j hj => h0 rfl j hj (by omega)) h]; omega
theorem pure_PairsGet (l0 : List Pr) (a1 : ByteArray) (hb : (B22 (l0)) + ((a1).size + 1) ≤ 1048576) (g0 : G22 (l0)) : ∃ k, exequaturlaw02_PairsGet.f k l0 a1 = some true := by
  refine Ev.get (g := fun k => exequaturlaw02_PairsGet.f k l0 a1) ?_
  unfold exequaturlaw02_PairsGet.f
  by_cases h : (l0.length : Int) > 100
  · exact Ev.if_pos h (Ev.bind answers_ok (Ev.some _))
  · exact Ev.if_neg h (getlaw_from l0 (by omega) a1 l0.length 0 false (by simp) (fun _ j hj => by omega) (fun h => by cases h))
end Go.Proofs.YtibfhaekomflpaaDoor.X
