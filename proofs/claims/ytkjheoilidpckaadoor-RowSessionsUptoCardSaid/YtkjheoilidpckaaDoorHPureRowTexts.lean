/- Ours: the plain law of RowTexts. -/
import Derived.Test.YtkjheoilidpckaaDoorHPure
import Derived.Test.YtkjheoilidpckaaDoorX8
namespace Go.Proofs.YtkjheoilidpckaaDoor.X
open Go.RowKit Go.Proofs.YtkjheoilidpckaaDoorW.PrintWords Go.Proofs.YtkjheoilidpckaaDoor.Spec
set_option linter.unusedVariables false
set_option linter.unusedSimpArgs false

theorem dec_f (n : Nat) (h : n < 9223372036854775808) : exequaturref01_Dec.f (n : Int) = some (ba (Lib.itoa (n : Int))) := by
  unfold exequaturref01_Dec.f
  rw [if_pos (by omega)]
/-- the reference's texts as one -/
theorem ref_texts (l : List ByteArray) (hs : (txL l).length ≤ 1000000000) : Ev (fun k => exequaturref13_Texts.f k l) (ba (txL l)) := by
  have hc := tx_count l
  have key : ∀ (d i : Nat), i + d = l.length → Ev (fun k => exequaturref13_Texts.l0 k l (ba (txL (l.take i))) (i : Int)) (ba (txL l)) := by
    intro d
    induction d with
    | zero =>
      intro i hi
      refine Ev.step (fun k => by rw [exequaturref13_Texts.l0]) (Ev.if_neg (by omega) ((Ev.some _).uni ?_))
      rw [List.take_of_length_le (by omega)]
    | succ d ih =>
      intro i hi
      have h1 : i < l.length := by omega
      have ht := txL_take l i h1
      have hl1 := txL_part l (i + 1)
      have hlx : (tx1 l[i]).length = (Lib.itoa (l[i].size : Int)).length + 1 + l[i].size := by
        simp only [tx1, List.length_append, List.length_cons, bl_length]
        omega
      rw [ht, List.length_append, hlx] at hl1
      refine Ev.step (fun k => by rw [exequaturref13_Texts.l0]) (Ev.if_pos (by omega) (Ev.if_pos (by omega) ?_))
      rw [rd_nat l i h1]
      have e1 : ((ba (txL (l.take i)) ++ ba (Lib.itoa (l[i].size : Int))).size) = (txL (l.take i)).length + (Lib.itoa (l[i].size : Int)).length := by rw [ByteArray.size_append, size_ba, size_ba]
      have e2 : (((ba (txL (l.take i)) ++ ba (Lib.itoa (l[i].size : Int))) ++ (⟨#[58]⟩ : ByteArray)).size) = (txL (l.take i)).length + (Lib.itoa (l[i].size : Int)).length + 1 := by rw [ByteArray.size_append, e1]; rfl
      refine Ev.bind (Ev.const (dec_f l[i].size (by omega))) (Ev.if_pos (by rw [size_ba, size_ba]; omega) (Ev.if_pos (by rw [e1]; omega) (Ev.if_pos (by rw [e2]; omega) ?_)))
      rw [w64 (n := (i : Int) + 1) (by omega) (by omega)]
      have e3 : ((ba (txL (l.take i)) ++ ba (Lib.itoa (l[i].size : Int))) ++ (⟨#[58]⟩ : ByteArray)) ++ l[i] = ba (txL (l.take (i + 1))) := by
        apply bl_inj
        rw [ht, bl_append, bl_append, bl_append, bl_ba, bl_ba, bl_ba]
        simp [tx1, bl]
      rw [e3]
      exact ih (i + 1) (by omega)
  exact key l.length 0 (by omega)
theorem split_tx (l : List ByteArray) (hs : (txL l).length ≤ 1000000000) : row_Split.f (ba (txL l)) = some (l, 0) := by
  have hx : ∀ x ∈ l, x.size ≤ (txL l).length := by
    clear hs
    induction l with
    | nil => intro x hx; cases hx
    | cons y r ih =>
      intro x hx
      simp only [txL, tx1, List.length_append, List.length_cons, bl_length]
      rcases List.mem_cons.1 hx with rfl | hx
      · omega
      · have := ih x hx; omega
  unfold row_Split.f
  rw [if_pos (by rw [size_ba]; omega), splR_tx l (fun x h => by have := hx x h; omega)]
theorem tx_small (l : List ByteArray) (hs : (l.map fun x => x.size + 1).sum ≤ 1048576) : (txL l).length ≤ 1000000000 := by
  have h1 := len_le l
  have h2 := txL_len l (fun x hx => by have := mem_le l x hx; omega)
  have h3 : (l.map fun x => x.size + 22).sum ≤ 22 * (l.map fun x => x.size + 1).sum := by
    clear h1 h2 hs
    induction l with
    | nil => simp
    | cons x r ih => simp only [List.map_cons, List.sum_cons]; omega
  omega
theorem pure_RowTexts (l0 : List (ByteArray)) (hb : B22 (l0) ≤ 1048576) (g0 : G22 (l0)) : ∃ k, exequaturlaw13_RowTexts.f k l0 = some true := by
  unfold B22 at hb
  have hs0 : (l0.map fun x => x.size + 1).sum ≤ 1048576 := by omega
  have ht := tx_small l0 hs0
  refine Ev.get (g := fun k => exequaturlaw13_RowTexts.f k l0) ?_
  obtain ⟨b0, f0⟩ := few_any l0 hs0
  unfold exequaturlaw13_RowTexts.f
  refine Ev.bind f0 ?_
  cases b0 with
  | false => exact Ev.if_neg (by simp) (Ev.bind (Ev.const answers_ok) (Ev.some _))
  | true =>
    refine Ev.if_pos rfl (Ev.bind (Ev.const (texts_f l0 hs0)) (Ev.bind (Ev.const (split_tx l0 ht)) (Ev.bind (Ev.const answers_ok) (Ev.if_pos rfl (Ev.bind (ref_texts l0 ht) (Ev.if_pos rfl (Ev.if_pos rfl (Ev.bind (same_eq l0 l0 (by have := len_le l0; omega)) ((Ev.some _).uni ?_)))))))))
    simp
end Go.Proofs.YtkjheoilidpckaaDoor.X
