/- Ours: what the reference's functions on texts answer. -/
import Derived.Test.YtjagjfmkfiikaaaDoorHEv
import Derived.Test.YtjagjfmkfiikaaaDoorHParts
import Derived.Test.YtjagjfmkfiikaaaDoorX7
import Derived.Test.YtjagjfmkfiikaaaDoorX12
namespace Go.Proofs.YtjagjfmkfiikaaaDoor.X
open Go.RowKit Go.Proofs.YtjagjfmkfiikaaaDoorW.PrintWords Go.Proofs.YtjagjfmkfiikaaaDoor.Spec
set_option linter.unusedVariables false
set_option linter.unusedSimpArgs false

theorem pre_extract_any (s : ByteArray) (c : UInt8) : bl (s.extract 0 (pre c (bl s)).length) = pre c (bl s) := by
  by_cases hm : c ∈ bl s
  · rw [← pre_extract s c hm, bl_ba]
  · rw [pre_of_not_mem hm, bl_length]
    rw [show bl (s.extract 0 s.size) = (s.extract 0 s.size).data.toList from rfl, Lib.extract_eq]
    simp only [Nat.sub_zero, List.drop_zero]
    rw [Lib.size_eq]; exact List.take_length

/-! at -/
theorem at_from (s : ByteArray) (c : UInt8) (hs : s.size ≤ 4611686018427387904) : ∀ n i, i + n = (pre c (bl s)).length → Ev (fun k => exequaturref01_at.l0 k s (c.toNat : Int) (i : Int)) ((pre c (bl s)).length : Int) := by
  have hp := pre_length_le c (bl s)
  rw [bl_length] at hp
  intro n
  induction n with
  | zero =>
    intro i hi
    simp only [Nat.add_zero] at hi
    refine Ev.step (fun k => by rw [exequaturref01_at.l0]) ?_
    by_cases hlt : i < s.size
    · refine Ev.if_pos (by omega) (Ev.if_pos (by omega) (Ev.if_pos ?_ ?_))
      · rw [bt_get s i hlt, toNat_inj]
        have := pre_at (c := c) (l := bl s) (by rw [bl_length]; omega)
        simp only [hi]; exact this
      · rw [hi]; exact Ev.some _
    · refine Ev.if_neg (by omega) ?_
      exact (Ev.some _).uni (by omega)
  | succ n ih =>
    intro i hi
    refine Ev.step (fun k => by rw [exequaturref01_at.l0]) ?_
    refine Ev.if_pos (by omega) (Ev.if_pos (by omega) (Ev.if_neg ?_ ?_))
    · rw [bt_get s i (by omega), toNat_inj]
      obtain ⟨_, h⟩ := pre_get (c := c) (l := bl s) (i := i) (by omega)
      exact h
    · rw [w64 (by omega) (by omega)]
      exact ih (i + 1) (by omega)
theorem ref_at (s : ByteArray) (c : UInt8) (hs : s.size ≤ 4611686018427387904) : Ev (fun k => exequaturref01_at.f k s (c.toNat : Int)) ((pre c (bl s)).length : Int) :=
  at_from s c hs (pre c (bl s)).length 0 (by simp)

/-! hex -/
theorem back8 (c : UInt8) : c.toNat.toUInt8 = c := by simp
/-! Quote -/
theorem rplain_fin : ∀ n : Fin 256, exequaturref01_plain.f (n.val : Int) = some (plainc n.val.toUInt8) := by decide +kernel
theorem ref_plain (c : UInt8) : exequaturref01_plain.f (c.toNat : Int) = some (plainc c) := by
  have h := rplain_fin ⟨c.toNat, c.toNat_lt⟩
  simp only [back8] at h
  exact h
theorem rgreat_fin : ∀ n : Fin 16, bt (⟨#[48, 49, 50, 51, 52, 53, 54, 55, 56, 57, 65, 66, 67, 68, 69, 70]⟩ : ByteArray) (n.val : Int) = ((greatc n.val).toNat : Int) := by decide +kernel
theorem great_bt (n : Nat) (h : n < 16) : bt (⟨#[48, 49, 50, 51, 52, 53, 54, 55, 56, 57, 65, 66, 67, 68, 69, 70]⟩ : ByteArray) (n : Int) = ((greatc n).toNat : Int) := rgreat_fin ⟨n, h⟩
theorem quote_from (s : ByteArray) (hs : s.size ≤ 35184372088832) : ∀ n i (A : List UInt8), i + n = s.size → A.length ≤ 3 * i → Ev (fun k => exequaturref01_Quote.l0 k s (nb A) (i : Int)) (ba (A ++ quoteL ((bl s).drop i))) := by
  intro n
  induction n with
  | zero =>
    intro i A hi hA
    refine Ev.step (fun k => by rw [exequaturref01_Quote.l0]) ?_
    refine Ev.if_neg (by omega) ?_
    rw [List.drop_of_length_le (by rw [bl_length]; omega), str_nb]
    exact (Ev.some _).uni (by simp [quoteL])
  | succ n ih =>
    intro i A hi hA
    refine Ev.step (fun k => by rw [exequaturref01_Quote.l0]) ?_
    refine Ev.if_pos (by omega) (Ev.if_pos (by omega) ?_)
    have hlt : i < s.size := by omega
    have hb : i < (bl s).length := by rw [bl_length]; exact hlt
    obtain ⟨c, hc⟩ : ∃ c, (bl s)[i] = c := ⟨_, rfl⟩
    have hbt : bt s (i : Int) = (c.toNat : Int) := by rw [bt_get s i hlt, hc]
    have h256 := c.toNat_lt
    rw [hbt, List.drop_eq_getElem_cons hb, hc]
    have hq : quoteL (c :: (bl s).drop (i + 1)) = quote1 c ++ quoteL ((bl s).drop (i + 1)) := by simp [quoteL]
    rw [hq, ← List.append_assoc]
    refine Ev.bind (Ev.const (ref_plain c)) ?_
    rw [w64 (by omega) (by omega)]
    cases hpl : plainc c with
    | true =>
      refine Ev.if_pos rfl (Ev.if_pos (by rw [nb_length]; omega) ?_)
      have := ih (i + 1) (A ++ quote1 c) (by omega) (by simp [quote1, hpl]; omega)
      rw [nb_append] at this
      rw [show quote1 c = [c] from by simp [quote1, hpl]] at this ⊢
      exact this
    | false =>
      refine Ev.if_neg (by simp) ?_
      have e1 : (Int.tdiv (c.toNat : Int) 16) % 256 = ((c.toNat / 16 : Nat) : Int) := by
        rw [Int.tdiv_eq_ediv_of_nonneg (by omega)]; omega
      have e2 : Int.tmod (c.toNat : Int) 16 = ((c.toNat % 16 : Nat) : Int) := by
        rw [Int.tmod_eq_emod_of_nonneg (by omega)]; omega
      rw [e1, e2, great_bt _ (by omega), great_bt _ (by omega)]
      refine Ev.if_pos (by omega) (Ev.if_pos (by omega) (Ev.if_pos (by omega) (Ev.if_pos (by omega) ?_)))
      refine Ev.bind (Ev.some _) (Ev.if_pos (by rw [nb_length]; simp; omega) ?_)
      have hq1 : quote1 c = [37, greatc (c.toNat / 16), greatc (c.toNat % 16)] := by simp [quote1, hpl]
      have := ih (i + 1) (A ++ quote1 c) (by omega) (by rw [hq1]; simp; omega)
      rw [nb_append] at this
      rw [hq1] at this ⊢
      exact this
theorem ref_Quote (s : ByteArray) (hs : s.size ≤ 35184372088832) : Ev (fun k => exequaturref01_Quote.f k s) (ba (quoteL (bl s))) :=
  (quote_from s hs s.size 0 [] (by simp) (by simp)).uni (by simp)
end Go.Proofs.YtjagjfmkfiikaaaDoor.X
