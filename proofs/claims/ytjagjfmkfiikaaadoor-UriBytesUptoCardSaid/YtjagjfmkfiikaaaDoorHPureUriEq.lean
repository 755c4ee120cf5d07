/- Ours: uri.Parse and the reference's URI answer the same. -/
import Derived.Test.YtjagjfmkfiikaaaDoorHPureUri
namespace Go.Proofs.YtjagjfmkfiikaaaDoor.X
open Go.RowKit Go.Proofs.YtjagjfmkfiikaaaDoorW.PrintWords Go.Proofs.YtjagjfmkfiikaaaDoor.Spec
set_option linter.unusedVariables false
set_option linter.unusedSimpArgs false
def http : List UInt8 := [104, 116, 116, 112]
def https : List UInt8 := [104, 116, 116, 112, 115]
def large : U := (⟨#[]⟩, ⟨#[]⟩, ⟨#[]⟩, ⟨#[]⟩, 3)
def uriU (l : List UInt8) : U :=
  if 4096 < l.length then large
  else if cleanL l = false then bad
  else if l.take 7 = http ++ css then tailU (ba http) (l.drop 7)
  else if l.take 8 = https ++ css then tailU (ba https) (l.drop 8)
  else bad
theorem bad_j0 (a b : ByteArray) : Ev (fun k => uri_Parse.j0 k a b true) bad := by
  refine Ev.step (fun k => by rw [uri_Parse.j0]) ?_
  exact Ev.if_pos rfl (Ev.some _)
theorem j0_clean (sch rest s : ByteArray) (hz : rest.size < 4294967281) : Ev (fun k => uri_Parse.j0 k sch rest (!cleanL (bl s))) (if cleanL (bl s) = false then bad else tailU sch (bl rest)) := by
  cases h : cleanL (bl s) with
  | true => rw [if_neg (by simp)]; exact tail_prog sch rest hz
  | false => rw [if_pos rfl]; exact bad_j0 _ _
theorem prog_f (s : ByteArray) : Ev (fun k => uri_Parse.f k s) (uriU (bl s)) := by
  unfold uri_Parse.f uriU
  rw [bl_length]
  by_cases h1 : 4096 < s.size
  · rw [if_pos h1]; exact Ev.if_pos (by omega) (Ev.some _)
  rw [if_neg h1]
  refine Ev.if_neg (by omega) ?_
  have hcut : strings_Cut.f s ⟨#[58, 47, 47]⟩ = some (ba (Lib.cut (bl s) css).1, ba (Lib.cut (bl s) css).2.1, (Lib.cut (bl s) css).2.2) := by
    unfold strings_Cut.f
    rw [if_pos (by omega)]; rfl
  refine Ev.bind (Ev.const hcut) ?_
  by_cases h2 : (bl s).take 7 = http ++ css
  · have e : bl s = http ++ (css ++ (bl s).drop 7) := by rw [← List.append_assoc, ← h2, List.take_append_drop]
    have hc := cut_front http ((bl s).drop 7) (by decide)
    rw [← e] at hc
    rw [hc]
    refine Ev.if_pos rfl (Ev.if_pos (by rw [toList_bl, bl_ba]; rfl) (Ev.bind (clean_f s (by omega)) ?_))
    rw [if_pos h2]
    have := j0_clean (ba http) (ba ((bl s).drop 7)) s (by rw [size_ba, List.length_drop, bl_length]; omega)
    rw [bl_ba] at this
    exact this
  by_cases h3 : (bl s).take 8 = https ++ css
  · have e : bl s = https ++ (css ++ (bl s).drop 8) := by rw [← List.append_assoc, ← h3, List.take_append_drop]
    have hc := cut_front https ((bl s).drop 8) (by decide)
    rw [← e] at hc
    rw [hc]
    refine Ev.if_pos rfl (Ev.if_neg (by rw [toList_bl, bl_ba]; exact (show ¬ (https = [104, 116, 116, 112]) by decide)) (Ev.if_pos (by rw [toList_bl, bl_ba]; rfl) (Ev.bind (clean_f s (by omega)) ?_)))
    rw [if_neg h2, if_pos h3]
    have := j0_clean (ba https) (ba ((bl s).drop 8)) s (by rw [size_ba, List.length_drop, bl_length]; omega)
    rw [bl_ba] at this
    exact this
  rw [if_neg h2, if_neg h3]
  have hbad : (if cleanL (bl s) = false then bad else bad) = bad := by split <;> rfl
  rw [hbad]
  obtain ⟨A, B, ok, hc⟩ : ∃ A B ok, Lib.cut (bl s) css = (A, B, ok) := ⟨_, _, _, rfl⟩
  rw [hc]
  cases ok with
  | false => exact Ev.if_neg (by simp) (bad_j0 _ _)
  | true =>
    have hl := cut_back _ _ _ hc
    refine Ev.if_pos rfl (Ev.if_neg ?_ (Ev.if_neg ?_ (bad_j0 _ _)))
    · rw [toList_bl, bl_ba]
      intro h; subst h
      exact h2 (by rw [hl]; rfl)
    · rw [toList_bl, bl_ba]
      intro h; subst h
      exact h3 (by rw [hl]; rfl)

/-! the reference -/
theorem j1_f (s : ByteArray) (hz : s.size ≤ 4096) (t : Bool) (ht : t = decide ((bl s).take 7 = http ++ css ∧ 7 < s.size)) : Ev (fun k => exequaturref01_URI.j1 k s t (⟨#[]⟩ : ByteArray) (⟨#[]⟩ : ByteArray) (⟨#[]⟩ : ByteArray) (⟨#[]⟩ : ByteArray)) (if (bl s).take 7 = http ++ css then tailU (ba http) ((bl s).drop 7) else if (bl s).take 8 = https ++ css then tailU (ba https) ((bl s).drop 8) else bad) := by
  refine Ev.step (fun k => by rw [exequaturref01_URI.j1]) ?_
  by_cases h : (bl s).take 7 = http ++ css ∧ 7 < s.size
  · rw [ht, decide_eq_true h, if_pos h.1]
    refine Ev.if_pos rfl (Ev.if_pos (by omega) ?_)
    refine (tail_ref (ba http) (s.extract 7 s.size) _ _ (by rw [ByteArray.size_extract]; omega)).uni ?_
    rw [bl_from]
  · rw [ht, decide_eq_false h]
    refine Ev.if_neg (by simp) ?_
    by_cases h7 : (bl s).take 7 = http ++ css
    · rw [if_pos h7]
      have hs : ¬ 7 < s.size := fun e => h ⟨h7, e⟩
      have hd : (bl s).drop 7 = [] := List.drop_of_length_le (by rw [bl_length]; omega)
      rw [hd]
      refine Ev.if_neg (by omega) ?_
      exact (Ev.some _).uni rfl
    · rw [if_neg h7]
      by_cases h8 : 8 < s.size
      · refine Ev.if_pos (by omega) (Ev.if_pos (by omega) (Ev.if_pos (by omega) ?_))
        rw [toList_bl, bl_take]
        by_cases he : (bl s).take 8 = https ++ css
        · rw [if_pos he]
          refine Ev.if_pos he ?_
          refine (tail_ref (ba https) (s.extract 8 s.size) _ _ (by rw [ByteArray.size_extract]; omega)).uni ?_
          rw [bl_from]
        · rw [if_neg he]
          exact Ev.if_neg he (Ev.some _)
      · have hd : (bl s).drop 8 = [] := List.drop_of_length_le (by rw [bl_length]; omega)
        refine Ev.if_neg (by omega) ?_
        rw [hd]
        refine (Ev.some _).uni ?_
        split <;> rfl
theorem uri_from (s : ByteArray) (hz : s.size ≤ 4096) : ∀ n i, i + n = s.size → Ev (fun k => exequaturref01_URI.l0 k s (i : Int)) (if cleanL ((bl s).drop i) = false then bad else if (bl s).take 7 = http ++ css then tailU (ba http) ((bl s).drop 7) else if (bl s).take 8 = https ++ css then tailU (ba https) ((bl s).drop 8) else bad) := by
  intro n
  induction n with
  | zero =>
    intro i hi
    refine Ev.step (fun k => by rw [exequaturref01_URI.l0]) (Ev.if_neg (by omega) ?_)
    rw [List.drop_of_length_le (show (bl s).length ≤ i by rw [bl_length]; omega), if_neg (show ¬ cleanL ([] : List UInt8) = false by decide)]
    by_cases h7 : (s.size : Int) > 7
    · refine Ev.if_pos h7 (Ev.if_pos (by omega) (Ev.if_pos (by omega) (j1_f s hz _ ?_)))
      rw [toList_bl, bl_take]
      have : 7 < s.size := by omega
      by_cases he : (bl s).take 7 = http ++ css
      · rw [decide_eq_true ⟨he, this⟩, beq_iff_eq]; exact he
      · rw [decide_eq_false (fun e => he e.1), beq_eq_false_iff_ne]; exact he
    · refine Ev.if_neg h7 (j1_f s hz _ ?_)
      exact (decide_eq_false (fun e => h7 (by omega))).symm
  | succ n ih =>
    intro i hi
    have hlt : i < s.size := by omega
    have hb : i < (bl s).length := by rw [bl_length]; exact hlt
    obtain ⟨c, hc⟩ : ∃ c, (bl s)[i] = c := ⟨_, rfl⟩
    have hbt : bt s (i : Int) = (c.toNat : Int) := by rw [bt_get s i hlt, hc]
    refine Ev.step (fun k => by rw [exequaturref01_URI.l0]) (Ev.if_pos (by omega) (Ev.if_pos (by omega) ?_))
    rw [hbt, List.drop_eq_getElem_cons hb, hc]
    have hcl : cleanL (c :: (bl s).drop (i + 1)) = (goodc c && cleanL ((bl s).drop (i + 1))) := rfl
    rw [hcl]
    by_cases h1 : (c.toNat : Int) < 33
    · have : goodc c = false := by unfold goodc; rw [decide_eq_false (by omega)]; rfl
      rw [this, Bool.false_and, if_pos rfl]
      exact Ev.if_pos h1 (Ev.some _)
    refine Ev.if_neg h1 ?_
    by_cases h2 : (c.toNat : Int) > 126
    · have : goodc c = false := by unfold goodc; rw [decide_eq_false (show ¬ c.toNat ≤ 126 by omega)]; simp
      rw [this, Bool.false_and, if_pos rfl]
      exact Ev.if_pos h2 (Ev.some _)
    refine Ev.if_neg h2 ?_
    refine Ev.bind (ref_at oddB c (by decide)) ?_
    have hlen : (bl oddB).length = 10 := rfl
    have hlt3 := @pre_lt_iff c (bl oddB)
    rw [hlen] at hlt3
    by_cases h3 : c ∈ bl oddB
    · have hl := hlt3.2 h3
      have : goodc c = false := by unfold goodc; rw [List.contains_iff_mem.2 h3]; simp
      rw [this, Bool.false_and, if_pos rfl]
      exact Ev.if_pos (by omega) (Ev.some _)
    · have hl : ¬ (pre c (bl oddB)).length < 10 := fun e => h3 (hlt3.1 e)
      have : goodc c = true := by
        unfold goodc
        have hf : (bl oddB).contains c = false := by
          cases h : (bl oddB).contains c with
          | false => rfl
          | true => exact absurd (List.contains_iff_mem.1 h) h3
        rw [hf, decide_eq_true (show 33 ≤ c.toNat by omega), decide_eq_true (show c.toNat ≤ 126 by omega)]; rfl
      rw [this, Bool.true_and, w64 (by omega) (by omega)]
      exact Ev.if_neg (by omega) (ih (i + 1) (by omega))
theorem ref_f (s : ByteArray) : Ev (fun k => exequaturref01_URI.f k s) (uriU (bl s)) := by
  unfold exequaturref01_URI.f uriU
  rw [bl_length]
  by_cases h1 : 4096 < s.size
  · rw [if_pos h1]; exact Ev.if_pos (by omega) (Ev.some _)
  rw [if_neg h1]
  exact Ev.if_neg (by omega) (uri_from s (by omega) s.size 0 (by simp))
end Go.Proofs.YtjagjfmkfiikaaaDoor.X
