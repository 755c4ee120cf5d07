/- Ours: the plain law of RowWrong. -/
import Derived.Test.YtkjheoilidpckaaDoorHTexts
import Derived.Test.YtkjheoilidpckaaDoorHSlc
import Derived.Test.YtkjheoilidpckaaDoorHFamC
import Derived.Test.YtkjheoilidpckaaDoorHScan
import Derived.Test.YtkjheoilidpckaaDoorX18
import Derived.Test.YtkjheoilidpckaaDoorX14
import Derived.Test.YtkjheoilidpckaaDoorX23
import Derived.Test.YtkjheoilidpckaaDoorX17
import Derived.Test.YtkjheoilidpckaaDoorX26
import Derived.Test.YtkjheoilidpckaaDoorX13
import Derived.Test.YtkjheoilidpckaaDoorX21
namespace Go.Proofs.YtkjheoilidpckaaDoor.X
open Go.RowKit Go.Proofs.YtkjheoilidpckaaDoorW.PrintWords Go.Proofs.YtkjheoilidpckaaDoor.Spec
set_option linter.unusedVariables false
set_option linter.unusedSimpArgs false
namespace RowWrong
/-- what a split text's parts are -/
structure Fits (s : ByteArray) (l : List ByteArray) : Prop where
  small : s.size ≤ 3000
  tx : txL l = bl s
theorem Fits.size {s : ByteArray} {l : List ByteArray} (h : Fits s l) (x : ByteArray) (hx : x ∈ l) : x.size ≤ 3000 := by
  have h1 := tx_mem l x hx
  rw [h.tx, bl_length] at h1
  have := h.small
  omega
theorem Fits.rd {s : ByteArray} {l : List ByteArray} (h : Fits s l) (i : Int) : (rdOf ByteArray.empty l i).size ≤ 3000 := by
  unfold rdOf
  rw [List.getD_eq_getElem?_getD]
  rcases Nat.lt_or_ge i.toNat l.length with hl | hl
  · rw [List.getElem?_eq_getElem hl]
    exact h.size _ (List.getElem_mem hl)
  · rw [List.getElem?_eq_none hl]
    exact Nat.zero_le _
theorem Fits.len {s : ByteArray} {l : List ByteArray} (h : Fits s l) : l.length ≤ 3000 := by
  have h1 := tx_count l
  rw [h.tx, bl_length] at h1
  have := h.small
  omega
theorem fields_f (s : ByteArray) (hs : s.size ≤ 3000) (least : Int) : ∃ l b, row_fields.f s least = some (l, b) ∧ (b = true → Fits s l ∧ least ≤ l.length) ∧ ((∀ l, txL l ≠ bl s) → b = false) := by
  unfold row_fields.f
  have e : row_Split.f s = some (splR s) := by
    unfold row_Split.f
    rw [if_pos (by omega)]
  rw [e, Option.bind_some]
  have hsp : (splR s).2 = 0 → txL (splR s).1 = bl s := by
    unfold splR
    split
    · split
      · rename_i h; intro _; exact h
      · intro h; exact absurd h (by decide)
    · intro h; exact absurd h (by decide)
  by_cases h0 : (splR s).2 = 0
  · rw [if_pos h0]
    refine ⟨_, _, rfl, fun hb => ⟨⟨hs, hsp h0⟩, ?_⟩, fun hno => absurd (hsp h0) (hno _)⟩
    exact of_decide_eq_true hb
  · rw [if_neg h0]
    exact ⟨_, _, rfl, fun h => absurd h (by decide), fun _ => rfl⟩
theorem number_f (x : ByteArray) (h : x.size ≤ 3000) : ∃ n b, row_number.f x = some (n, b) ∧ -9223372036854775808 ≤ n ∧ n ≤ 9223372036854775807 := by
  unfold row_number.f
  rw [if_pos (by omega)]
  exact ⟨_, _, rfl, atv_range _⟩
theorem itoa_size (n : Int) (h0 : -9223372036854775808 ≤ n) (h1 : n ≤ 9223372036854775807) : (ba (Lib.itoa n)).size ≤ 3000 := by
  have := Lib.itoa_length_le n h0 h1
  rw [size_ba]; omega
theorem texts_small (l : List ByteArray) (h : ∀ x ∈ l, x.size ≤ 3000) (hl : l.length ≤ 4000) : ∃ t, row_Texts.f l = some t := by
  refine ⟨_, texts_of l (tx_le l ?_)⟩
  have : (l.map fun x => x.size).sum ≤ 3000 * l.length := by
    clear hl
    induction l with
    | nil => simp
    | cons x r ih =>
      have h1 := h x (List.mem_cons_self ..)
      have h2 := ih (fun y hy => h y (List.mem_cons_of_mem _ hy))
      simp only [List.map_cons, List.sum_cons, List.length_cons]
      omega
  omega
theorem session_f (a0 a1 a2 a3 a4 a5 a6 : ByteArray) (a7 : Int) (a8 a9 a10 : ByteArray) (a11 : Int) (h : ∀ x ∈ [a0, a1, a2, a3, a4, a5, a6, a8, a9, a10], x.size ≤ 3000)
    (h70 : -9223372036854775808 ≤ a7) (h71 : a7 ≤ 9223372036854775807) (h110 : -9223372036854775808 ≤ a11) (h111 : a11 ≤ 9223372036854775807) : ∃ t, row_Session.f a0 a1 a2 a3 a4 a5 a6 a7 a8 a9 a10 a11 = some t := by
  obtain ⟨t, ht⟩ := texts_small [a0, a1, a2, a3, a4, a5, a6, ba (Lib.itoa a7), a8, a9, a10, ba (Lib.itoa a11)] (by
    have h1 := itoa_size a7 h70 h71
    have h2 := itoa_size a11 h110 h111
    simp only [List.mem_cons, List.not_mem_nil, or_false, forall_eq_or_imp, forall_eq] at h ⊢
    simp only [h, h1, h2, and_self]) (by simp)
  refine ⟨t, ?_⟩
  unfold row_Session.f
  rw [itoa_f a7 h70 h71, Option.bind_some, itoa_f a11 h110 h111, Option.bind_some, ht]
  rfl
theorem code_f (a0 a1 a2 a3 a4 a5 a6 a7 a8 a9 a10 : ByteArray) (a11 : Int) (a12 : ByteArray) (h : ∀ x ∈ [a0, a1, a2, a3, a4, a5, a6, a7, a8, a9, a10, a12], x.size ≤ 3000)
    (h110 : -9223372036854775808 ≤ a11) (h111 : a11 ≤ 9223372036854775807) : ∃ t, row_Code.f a0 a1 a2 a3 a4 a5 a6 a7 a8 a9 a10 a11 a12 = some t := by
  obtain ⟨t, ht⟩ := texts_small [a0, a1, a2, a3, a4, a5, a6, a7, a8, a9, a10, ba (Lib.itoa a11), a12] (by
    have h2 := itoa_size a11 h110 h111
    simp only [List.mem_cons, List.not_mem_nil, or_false, forall_eq_or_imp, forall_eq] at h ⊢
    simp only [h, h2, and_self]) (by simp)
  refine ⟨t, ?_⟩
  unfold row_Code.f
  rw [itoa_f a11 h110 h111, Option.bind_some, ht]
  rfl
theorem family_f (a0 a1 a2 a3 a4 a5 a6 a7 a8 a9 : ByteArray) (old : List ByteArray) (b : Bool) (h : ∀ x ∈ [a0, a1, a2, a3, a4, a5, a6, a7, a8, a9], x.size ≤ 3000) (ho : ∀ x ∈ old, x.size ≤ 3000) (hl : old.length ≤ 3000) : ∃ t, row_FamilyC.f a0 a1 a2 a3 a4 a5 a6 a7 a8 a9 old b = some t := by
  obtain ⟨f, hf, hfs⟩ : ∃ f, row_flag.f b = some f ∧ f.size ≤ 3000 := by cases b <;> exact ⟨_, rfl, by decide⟩
  have e : ([[a0, a1, a2, a3, a4, a5, a6, a7, a8, a9, f], old] : List (List ByteArray)).flatten = [a0, a1, a2, a3, a4, a5, a6, a7, a8, a9, f] ++ old := by simp
  have hln : ([a0, a1, a2, a3, a4, a5, a6, a7, a8, a9, f] ++ old).length = 11 + old.length := by simp only [List.length_append, List.length_cons, List.length_nil]
  obtain ⟨t, ht⟩ := texts_small ([a0, a1, a2, a3, a4, a5, a6, a7, a8, a9, f] ++ old) (by
    intro x hx
    rcases List.mem_append.1 hx with hx | hx
    · simp only [List.mem_cons, List.not_mem_nil, or_false, forall_eq_or_imp, forall_eq] at h hx
      obtain ⟨h0, h1, h2, h3, h4, h5, h6, h7, h8, h9⟩ := h
      rcases hx with rfl | rfl | rfl | rfl | rfl | rfl | rfl | rfl | rfl | rfl | rfl <;> assumption
    · exact ho x hx) (by omega)
  refine ⟨t, ?_⟩
  unfold row_FamilyC.f row_Family.f slices_Concat_string_string.f
  rw [hf, Option.bind_some, e, if_pos ⟨by omega, by simp⟩, Option.bind_some, ht]
  rfl
/-- read, and read right -/
theorem readSession (s : ByteArray) (hs : s.size ≤ 3000) : ∃ a0 a1 a2 a3 a4 a5 a6 a7 a8 a9 a10 a11 e, row_ReadSession.f s = some (a0, a1, a2, a3, a4, a5, a6, a7, a8, a9, a10, a11, e) ∧ (e = 0 ∧ (∃ t, row_Session.f a0 a1 a2 a3 a4 a5 a6 a7 a8 a9 a10 a11 = some t ∧ t.toList = s.toList) ∨ e = 2) ∧ ((∀ l, txL l ≠ bl s) → e = 2) := by
  obtain ⟨l, b, hf, hb, hno⟩ := fields_f s hs 12
  unfold row_ReadSession.f
  rw [hf, Option.bind_some]
  dsimp only
  cases b with
  | false => exact ⟨_, _, _, _, _, _, _, _, _, _, _, _, _, rfl, .inr rfl, fun _ => rfl⟩
  | true =>
    obtain ⟨hF, hl⟩ := hb rfl
    obtain ⟨n1, b1, e1, h70, h71⟩ := number_f _ (hF.rd 7)
    obtain ⟨n2, b2, e2, h110, h111⟩ := number_f _ (hF.rd 11)
    obtain ⟨t, ht⟩ := session_f (rdOf ByteArray.empty l 0) (rdOf ByteArray.empty l 1) (rdOf ByteArray.empty l 2) (rdOf ByteArray.empty l 3) (rdOf ByteArray.empty l 4) (rdOf ByteArray.empty l 5) (rdOf ByteArray.empty l 6) n1 (rdOf ByteArray.empty l 8) (rdOf ByteArray.empty l 9) (rdOf ByteArray.empty l 10) n2 (by
      have h0 := hF.rd 0; have h1 := hF.rd 1; have h2 := hF.rd 2; have h3 := hF.rd 3; have h4 := hF.rd 4; have h5 := hF.rd 5; have h6 := hF.rd 6; have h8 := hF.rd 8; have h9 := hF.rd 9; have h10 := hF.rd 10
      simp only [List.mem_cons, List.not_mem_nil, or_false, forall_eq_or_imp, forall_eq]
      exact ⟨h0, h1, h2, h3, h4, h5, h6, h8, h9, h10⟩) h70 h71 h110 h111
    rw [if_pos rfl, if_pos (by omega), e1, Option.bind_some, if_pos (by omega), e2, Option.bind_some]
    dsimp only
    iterate 10 rw [if_pos (by omega)]
    have hne : (∀ l, txL l ≠ bl s) → False := fun h => h l hF.tx
    cases b1 with
    | false => exact ⟨_, _, _, _, _, _, _, _, _, _, _, _, _, rfl, .inr rfl, fun _ => rfl⟩
    | true =>
      rw [if_pos rfl]
      cases b2 with
      | false => exact ⟨_, _, _, _, _, _, _, _, _, _, _, _, _, rfl, .inr rfl, fun _ => rfl⟩
      | true =>
        rw [if_pos rfl, ht, Option.bind_some]
        by_cases hts : t.toList = s.toList
        · rw [if_pos hts]
          exact ⟨_, _, _, _, _, _, _, _, _, _, _, _, _, rfl, .inl ⟨rfl, t, ht, hts⟩, fun h => (hne h).elim⟩
        · rw [if_neg hts]
          exact ⟨_, _, _, _, _, _, _, _, _, _, _, _, _, rfl, .inr rfl, fun _ => rfl⟩
theorem readCode (s : ByteArray) (hs : s.size ≤ 3000) : ∃ a0 a1 a2 a3 a4 a5 a6 a7 a8 a9 a10 a11 a12 e, row_ReadCode.f s = some (a0, a1, a2, a3, a4, a5, a6, a7, a8, a9, a10, a11, a12, e) ∧ (e = 0 ∧ (∃ t, row_Code.f a0 a1 a2 a3 a4 a5 a6 a7 a8 a9 a10 a11 a12 = some t ∧ t.toList = s.toList) ∨ e = 2) ∧ ((∀ l, txL l ≠ bl s) → e = 2) := by
  obtain ⟨l, b, hf, hb, hno⟩ := fields_f s hs 13
  unfold row_ReadCode.f
  rw [hf, Option.bind_some]
  dsimp only
  cases b with
  | false => exact ⟨_, _, _, _, _, _, _, _, _, _, _, _, _, _, rfl, .inr rfl, fun _ => rfl⟩
  | true =>
    obtain ⟨hF, hl⟩ := hb rfl
    obtain ⟨n2, b2, e2, h110, h111⟩ := number_f _ (hF.rd 11)
    obtain ⟨t, ht⟩ := code_f (rdOf ByteArray.empty l 0) (rdOf ByteArray.empty l 1) (rdOf ByteArray.empty l 2) (rdOf ByteArray.empty l 3) (rdOf ByteArray.empty l 4) (rdOf ByteArray.empty l 5) (rdOf ByteArray.empty l 6) (rdOf ByteArray.empty l 7) (rdOf ByteArray.empty l 8) (rdOf ByteArray.empty l 9) (rdOf ByteArray.empty l 10) n2 (rdOf ByteArray.empty l 12) (by
      have h0 := hF.rd 0; have h1 := hF.rd 1; have h2 := hF.rd 2; have h3 := hF.rd 3; have h4 := hF.rd 4; have h5 := hF.rd 5; have h6 := hF.rd 6; have h7 := hF.rd 7; have h8 := hF.rd 8; have h9 := hF.rd 9; have h10 := hF.rd 10; have h12 := hF.rd 12
      simp only [List.mem_cons, List.not_mem_nil, or_false, forall_eq_or_imp, forall_eq]
      exact ⟨h0, h1, h2, h3, h4, h5, h6, h7, h8, h9, h10, h12⟩) h110 h111
    rw [if_pos rfl, if_pos (by omega), e2, Option.bind_some]
    dsimp only
    iterate 12 rw [if_pos (by omega)]
    have hne : (∀ l, txL l ≠ bl s) → False := fun h => h l hF.tx
    cases b2 with
    | false => exact ⟨_, _, _, _, _, _, _, _, _, _, _, _, _, _, rfl, .inr rfl, fun _ => rfl⟩
    | true =>
      rw [if_pos rfl, ht, Option.bind_some]
      by_cases hts : t.toList = s.toList
      · rw [if_pos hts]
        exact ⟨_, _, _, _, _, _, _, _, _, _, _, _, _, _, rfl, .inl ⟨rfl, t, ht, hts⟩, fun h => (hne h).elim⟩
      · rw [if_neg hts]
        exact ⟨_, _, _, _, _, _, _, _, _, _, _, _, _, _, rfl, .inr rfl, fun _ => rfl⟩
theorem readFamily (s : ByteArray) (hs : s.size ≤ 3000) : ∃ a0 a1 a2 a3 a4 a5 a6 a7 a8 a9 old b e, row_ReadFamily.f s = some (a0, a1, a2, a3, a4, a5, a6, a7, a8, a9, old, b, e) ∧ (e = 0 ∧ (∃ t, row_FamilyC.f a0 a1 a2 a3 a4 a5 a6 a7 a8 a9 old b = some t ∧ t.toList = s.toList) ∨ e = 2) ∧ ((∀ l, txL l ≠ bl s) → e = 2) := by
  obtain ⟨l, b, hf, hb, hno⟩ := fields_f s hs 11
  unfold row_ReadFamily.f
  rw [hf, Option.bind_some]
  dsimp only
  cases b with
  | false => exact ⟨_, _, _, _, _, _, _, _, _, _, _, _, _, rfl, .inr rfl, fun _ => rfl⟩
  | true =>
    obtain ⟨hF, hl⟩ := hb rfl
    have hlen := hF.len
    have hdl : (l.drop 11).length ≤ 3000 := by rw [List.length_drop]; omega
    have hcl : slices_Clone_string_string.f (l.drop 11) = some (l.drop 11) := by
      unfold slices_Clone_string_string.f
      rw [if_pos (by omega)]
    obtain ⟨t, ht⟩ := family_f (rdOf ByteArray.empty l 0) (rdOf ByteArray.empty l 1) (rdOf ByteArray.empty l 2) (rdOf ByteArray.empty l 3) (rdOf ByteArray.empty l 4) (rdOf ByteArray.empty l 5) (rdOf ByteArray.empty l 6) (rdOf ByteArray.empty l 7) (rdOf ByteArray.empty l 8) (rdOf ByteArray.empty l 9) (l.drop 11) ((rdOf ByteArray.empty l 10).toList == ([49] : List UInt8)) (by
      have h0 := hF.rd 0; have h1 := hF.rd 1; have h2 := hF.rd 2; have h3 := hF.rd 3; have h4 := hF.rd 4; have h5 := hF.rd 5; have h6 := hF.rd 6; have h7 := hF.rd 7; have h8 := hF.rd 8; have h9 := hF.rd 9
      simp only [List.mem_cons, List.not_mem_nil, or_false, forall_eq_or_imp, forall_eq]
      exact ⟨h0, h1, h2, h3, h4, h5, h6, h7, h8, h9⟩) (fun x hx => hF.size x (List.mem_of_mem_drop hx)) hdl
    rw [if_pos rfl]
    iterate 12 rw [if_pos (by omega)]
    rw [hcl, Option.bind_some, show slices_Clip_string_string.f (l.drop 11) = some (l.drop 11) from rfl, Option.bind_some, ht, Option.bind_some]
    have hne : (∀ l, txL l ≠ bl s) → False := fun h => h l hF.tx
    by_cases hts : t.toList = s.toList
    · rw [if_pos hts]
      exact ⟨_, _, _, _, _, _, _, _, _, _, _, _, _, rfl, .inl ⟨rfl, t, ht, hts⟩, fun h => (hne h).elim⟩
    · rw [if_neg hts]
      exact ⟨_, _, _, _, _, _, _, _, _, _, _, _, _, rfl, .inr rfl, fun _ => rfl⟩
end RowWrong
open RowWrong
theorem pure_RowWrong (a0 : ByteArray) (hb : ((a0).size + 1) ≤ 1048576) : ∃ k, exequaturlaw13_RowWrong.f k a0 = some true := by
  refine Ev.get (g := fun k => exequaturlaw13_RowWrong.f k a0) ?_
  unfold exequaturlaw13_RowWrong.f
  by_cases h3 : (a0.size : Int) > 3000
  · exact Ev.if_pos h3 (Ev.bind (Ev.const answers_ok) (Ev.some _))
  · have hs : a0.size ≤ 3000 := by omega
    obtain ⟨s0, s1, s2, s3, s4, s5, s6, s7, s8, s9, s10, s11, e, hS, hS1, hS2⟩ := readSession a0 hs
    obtain ⟨c0, c1, c2, c3, c4, c5, c6, c7, c8, c9, c10, c11, c12, f, hC, hC1, hC2⟩ := readCode a0 hs
    obtain ⟨f0, f1, f2, f3, f4, f5, f6, f7, f8, f9, old, b, g, hF, hF1, hF2⟩ := readFamily a0 hs
    obtain ⟨res, hR, hres⟩ := ref_split a0 hs
    have hj : Ev (fun k => exequaturlaw13_RowWrong.j0 k a0 e f g false) true := by
      refine Ev.step (fun k => by rw [exequaturlaw13_RowWrong.j0]) (Ev.if_neg (by decide) (Ev.bind hR (Ev.bind (Ev.const answers_ok) (Ev.if_pos rfl ?_))))
      rcases hres with ⟨l, hl, rfl⟩ | ⟨rfl, hno⟩
      · exact Ev.if_pos rfl (Ev.some _)
      · refine Ev.if_neg (by decide) (Ev.if_pos (hS2 hno) (Ev.if_pos (hC2 hno) ((Ev.some _).uni ?_)))
        rw [hF2 hno]; rfl
    refine Ev.if_neg h3 (Ev.bind (Ev.const hS) (Ev.bind (Ev.const hC) (Ev.bind (Ev.const hF) ?_)))
    dsimp only
    have fam : Ev (fun k => if g = 0 then (row_FamilyC.f f0 f1 f2 f3 f4 f5 f6 f7 f8 f9 old b).bind fun t => exequaturlaw13_RowWrong.j0 k a0 e f g (t.toList != a0.toList) else exequaturlaw13_RowWrong.j0 k a0 e f g false) true := by
      rcases hF1 with ⟨h0, t, ht, hts⟩ | h2
      · refine Ev.if_pos h0 (Ev.bind (Ev.const ht) ?_)
        rw [hts, bne_self_eq_false]
        exact hj
      · exact Ev.if_neg (by omega) hj
    have cod : Ev (fun k => if f = 0 then (row_Code.f c0 c1 c2 c3 c4 c5 c6 c7 c8 c9 c10 c11 c12).bind fun t => (if t.toList = a0.toList then (if g = 0 then (row_FamilyC.f f0 f1 f2 f3 f4 f5 f6 f7 f8 f9 old b).bind fun t => exequaturlaw13_RowWrong.j0 k a0 e f g (t.toList != a0.toList) else exequaturlaw13_RowWrong.j0 k a0 e f g false) else exequaturlaw13_RowWrong.j0 k a0 e f g true) else (if g = 0 then (row_FamilyC.f f0 f1 f2 f3 f4 f5 f6 f7 f8 f9 old b).bind fun t => exequaturlaw13_RowWrong.j0 k a0 e f g (t.toList != a0.toList) else exequaturlaw13_RowWrong.j0 k a0 e f g false)) true := by
      rcases hC1 with ⟨h0, t, ht, hts⟩ | h2
      · exact Ev.if_pos h0 (Ev.bind (Ev.const ht) (Ev.if_pos hts fam))
      · exact Ev.if_neg (by omega) fam
    rcases hS1 with ⟨h0, t, ht, hts⟩ | h2
    · exact Ev.if_pos h0 (Ev.bind (Ev.const ht) (Ev.if_pos hts cod))
    · exact Ev.if_neg (by omega) cod
end Go.Proofs.YtkjheoilidpckaaDoor.X
