/- Ours: the plain law of ScriptReads. -/
import Derived.Test.YtjfajkdamechiaaDoorHPure
import Derived.Test.YtjfajkdamechiaaDoorX10
namespace Go.Proofs.YtjfajkdamechiaaDoor.X
open Go.RowKit Go.Proofs.YtjfajkdamechiaaDoorW.PrintWords Go.Proofs.YtjfajkdamechiaaDoor.Spec
set_option linter.unusedVariables false
set_option linter.unusedSimpArgs false

theorem pG_good : ∀ (f : Nat) (s : List UInt8) (acc : List S36) (n : Int), s.length < f → s.length ≤ 1000000000 → (∀ x ∈ acc, stOk x) →
    ((pG f s acc n).2.2 = 0 ∧ (pG f s acc n).2.1 = 0 ∧ textL (pG f s acc n).1 = textL acc ++ s ∧ (∀ x ∈ (pG f s acc n).1, stOk x) ∧ (pG f s acc n).1.length ≤ acc.length + s.length) ∨
    ((pG f s acc n).2.2 = 11 ∧ (pG f s acc n).1 = [] ∧ n ≤ (pG f s acc n).2.1 ∧ (pG f s acc n).2.1 ≤ n + s.count 10)
  | 0, s, acc, n, hf, _, _ => by omega
  | f + 1, s, acc, n, hf, hs, ha => by
    unfold pG
    by_cases h0 : s = []
    · rw [if_pos h0, h0]
      exact .inl ⟨rfl, rfl, by simp, ha, by simp⟩
    · rw [if_neg h0]
      by_cases h1 : (stepR (pre 10 s)).2 = true
      · rw [if_pos h1]
        by_cases h2 : (10 : UInt8) ∈ s
        · rw [if_pos h2]
          have hp := post_length 10 s h2
          have hpl := pre_length_le 10 s
          have hc := spl_count 10 s h2
          have hso := step_sound _ h1
          have hok := step_ok (pre 10 s) (by omega)
          have hpp := pre_post h2
          rcases pG_good f (post 10 s) (acc ++ [(stepR (pre 10 s)).1]) (n + 1) (by omega) (by omega) (by
            intro x hx
            rcases List.mem_append.1 hx with hx | hx
            · exact ha x hx
            · rw [List.mem_singleton.1 hx]; exact hok) with ⟨e1, e2, e3, e4, e5⟩ | ⟨e1, e2, e3, e4⟩
          · refine .inl ⟨e1, e2, ?_, e4, by rw [List.length_append] at e5; simp only [List.length_cons, List.length_nil] at e5; omega⟩
            rw [e3, textL_append]
            have : textL [(stepR (pre 10 s)).1] = pre 10 s ++ [10] := by simpa [textL] using hso
            rw [this, List.append_assoc]
            congr 1
            rw [List.append_assoc]
            exact hpp.symm
          · exact .inr ⟨e1, e2, by omega, by omega⟩
        · rw [if_neg h2]
          exact .inr ⟨rfl, rfl, Int.le_refl _, show n ≤ n + _ by omega⟩
      · rw [if_neg h1]
        exact .inr ⟨rfl, rfl, Int.le_refl _, show n ≤ n + _ by omega⟩
theorem reads_loop (a0 : ByteArray) (l : List S36) (n e : Int) (hs : a0.size ≤ 4000) (he : e = 11) (hl : l = []) (h1 : 1 ≤ n) (h2 : n ≤ 1 + (bl a0).count 10) : ∀ m i (c : Nat), i + m = a0.size → c + ((bl a0).drop i).count 10 = (bl a0).count 10 → Ev (fun k => exequaturlaw24_ScriptReads.l0 k a0 l n e (c : Int) (i : Int)) true := by
  have hcc : (bl a0).count 10 ≤ 4000 := by have := List.count_le_length (a := (10 : UInt8)) (l := bl a0); rw [bl_length] at this; omega
  intro m
  induction m with
  | zero =>
    intro i c hi hc
    rw [List.drop_of_length_le (by rw [bl_length]; omega)] at hc
    simp only [List.count_nil, Nat.add_zero] at hc
    refine Ev.step (fun k => by rw [exequaturlaw24_ScriptReads.l0]) ?_
    refine Ev.if_neg (by omega) (Ev.bind answers_ev (Ev.if_pos rfl (Ev.if_pos he (Ev.if_pos (by rw [hl]; rfl) (Ev.if_pos (by omega) ?_)))))
    rw [w64 (n := (c : Int) + 1) (by omega) (by omega)]
    exact Ev.const (by rw [decide_eq_true (by omega)])
  | succ m ih =>
    intro i c hi hc
    have hlt : i < a0.size := by omega
    have hd : (bl a0).drop i = (bl a0)[i]'(by rw [bl_length]; exact hlt) :: (bl a0).drop (i + 1) := List.drop_eq_getElem_cons (by rw [bl_length]; exact hlt)
    rw [hd, List.count_cons] at hc
    refine Ev.step (fun k => by rw [exequaturlaw24_ScriptReads.l0]) ?_
    refine Ev.if_pos (by omega) (Ev.if_pos (by omega) ?_)
    have hle : c ≤ 4000 := by omega
    rw [bt_get a0 i hlt, w64 (n := (i : Int) + 1) (by omega) (by omega), show (i : Int) + 1 = ((i + 1 : Nat) : Int) from by omega]
    by_cases h10 : (bl a0)[i]'(by rw [bl_length]; exact hlt) = 10
    · rw [if_pos (by rw [h10]; rfl)] at hc
      refine Ev.if_pos (by rw [h10]; rfl) ?_
      rw [w64 (n := (c : Int) + 1) (by omega) (by omega), show (c : Int) + 1 = ((c + 1 : Nat) : Int) from by omega]
      exact ih (i + 1) (c + 1) (by omega) (by omega)
    · rw [if_neg (by simpa using h10)] at hc
      refine Ev.if_neg (fun h => h10 (UInt8.toNat_inj.1 (by have : (10 : UInt8).toNat = 10 := rfl; omega))) ?_
      exact ih (i + 1) c (by omega) (by omega)
theorem pure_ScriptReads (a0 : ByteArray) (hb : ((a0).size + 1) ≤ 1048576) : ∃ k, exequaturlaw24_ScriptReads.f k a0 = some true := by
  refine Ev.get ?_
  unfold exequaturlaw24_ScriptReads.f
  by_cases h : (a0.size : Int) > 4000
  · exact Ev.if_pos h ends_ev
  · refine Ev.if_neg h ?_
    have hq := parse_f (bl a0) (by rw [bl_length]; omega)
    rw [ba_bl] at hq
    refine Ev.bind hq ?_
    unfold parseR
    rcases pG_good ((bl a0).length + 1) (bl a0) [] 1 (by omega) (by rw [bl_length]; omega) (fun x hx => by cases hx) with ⟨e1, e2, e3, e4, e5⟩ | ⟨e1, e2, e3, e4⟩
    · refine Ev.if_pos e1 (Ev.bind answers_ev (Ev.if_pos rfl (Ev.if_pos e2 ?_)))
      refine Ev.bind (text_f _ e4 (by have hbl := bl_length a0; simp only [List.length_nil] at e5; omega)) ?_
      refine Ev.const ?_
      rw [toList_ba, e3, toList_bl]
      simp [textL]
    · refine Ev.if_neg (by rw [e1]; decide) ?_
      exact reads_loop a0 _ _ _ (by omega) e1 e2 (by omega) e4 a0.size 0 0 (by omega) (by rw [List.drop_zero]; omega)
end Go.Proofs.YtjfajkdamechiaaDoor.X
