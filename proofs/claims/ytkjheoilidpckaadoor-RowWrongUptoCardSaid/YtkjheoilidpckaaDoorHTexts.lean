/- Ours: the plain law of RowTexts. -/
import Derived.Test.YtkjheoilidpckaaDoorHPure
import Derived.Test.YtkjheoilidpckaaDoorX8
import Derived.Test.YtkjheoilidpckaaDoorHItoa
import Derived.Test.YtkjheoilidpckaaDoorHDec
namespace Go.Proofs.YtkjheoilidpckaaDoor.X
open Go.RowKit Go.Proofs.YtkjheoilidpckaaDoorW.PrintWords Go.Proofs.YtkjheoilidpckaaDoor.Spec
set_option linter.unusedVariables false
set_option linter.unusedSimpArgs false

theorem dec_f (n : Nat) (h : n < 9223372036854775808) : exequaturref01_Dec.f (n : Int) = some (ba (Lib.itoa (n : Int))) := by
  unfold exequaturref01_Dec.f
  rw [if_pos (by omega)]
/-- the reference's texts as one -/
theorem ref_texts (l : List ByteArray) (hs : (txL l).length ≤ 1000000000) : Ev (fun k => exequaturref13_Texts.f k l) (ba (txL l)) := by
  have hc := tx_count l
  have key : ∀ (d i : Nat), i + d = l.length → Ev (fun k => exequaturref13_Texts.l0 k l (ba (txL (l.take i))) (i : Int)) (ba (txL l)) := by
    intro d
    induction d with
    | zero =>
      intro i hi
      refine Ev.step (fun k => by rw [exequaturref13_Texts.l0]) (Ev.if_neg (by omega) ((Ev.some _).uni ?_))
      rw [List.take_of_length_le (by omega)]
    | succ d ih =>
      intro i hi
      have h1 : i < l.length := by omega
      have ht := txL_take l i h1
      have hl1 := txL_part l (i + 1)
      have hlx : (tx1 l[i]).length = (Lib.itoa (l[i].size : Int)).length + 1 + l[i].size := by
        simp only [tx1, List.length_append, List.length_cons, bl_length]
        omega
      rw [ht, List.length_append, hlx] at hl1
      refine Ev.step (fun k => by rw [exequaturref13_Texts.l0]) (Ev.if_pos (by omega) (Ev.if_pos (by omega) ?_))
      rw [rd_nat l i h1]
      have e1 : ((ba (txL (l.take i)) ++ ba (Lib.itoa (l[i].size : Int))).size) = (txL (l.take i)).length + (Lib.itoa (l[i].size : Int)).length := by rw [ByteArray.size_append, size_ba, size_ba]
      have e2 : (((ba (txL (l.take i)) ++ ba (Lib.itoa (l[i].size : Int))) ++ (⟨#[58]⟩ : ByteArray)).size) = (txL (l.take i)).length + (Lib.itoa (l[i].size : Int)).length + 1 := by rw [ByteArray.size_append, e1]; rfl
      refine Ev.bind (Ev.const (dec_f l[i].size (by omega))) (Ev.if_pos (by rw [size_ba, size_ba]; omega) (Ev.if_pos (by rw [e1]; omega) (Ev.if_pos (by rw [e2]; omega) ?_)))
      rw [w64 (n := (i : Int) + 1) (by omega) (by omega)]
      have e3 : ((ba (txL (l.take i)) ++ ba (Lib.itoa (l[i].size : Int))) ++ (⟨#[58]⟩ : ByteArray)) ++ l[i] = ba (txL (l.take (i + 1))) := by
        apply bl_inj
        rw [ht, bl_append, bl_append, bl_append, bl_ba, bl_ba, bl_ba]
        simp [tx1, bl]
      rw [e3]
      exact ih (i + 1) (by omega)
  exact key l.length 0 (by omega)
theorem split_tx (l : List ByteArray) (hs : (txL l).length ≤ 1000000000) : row_Split.f (ba (txL l)) = some (l, 0) := by
  have hx : ∀ x ∈ l, x.size ≤ (txL l).length := by
    clear hs
    induction l with
    | nil => intro x hx; cases hx
    | cons y r ih =>
      intro x hx
      simp only [txL, tx1, List.length_append, List.length_cons, bl_length]
      rcases List.mem_cons.1 hx with rfl | hx
      · omega
      · have := ih x hx; omega
  unfold row_Split.f
  rw [if_pos (by rw [size_ba]; omega), splR_tx l (fun x h => by have := hx x h; omega)]
theorem tx_small (l : List ByteArray) (hs : (l.map fun x => x.size + 1).sum ≤ 1048576) : (txL l).length ≤ 1000000000 := by
  have h1 := len_le l
  have h2 := txL_len l (fun x hx => by have := mem_le l x hx; omega)
  have h3 : (l.map fun x => x.size + 22).sum ≤ 22 * (l.map fun x => x.size + 1).sum := by
    clear h1 h2 hs
    induction l with
    | nil => simp
    | cons x r ih => simp only [List.map_cons, List.sum_cons]; omega
  omega
end Go.Proofs.YtkjheoilidpckaaDoor.X
namespace Go.Proofs.YtkjheoilidpckaaDoor.X
open Go.RowKit Go.Proofs.YtkjheoilidpckaaDoorW.PrintWords Go.Proofs.YtkjheoilidpckaaDoor.Spec
set_option linter.unusedVariables false
set_option linter.unusedSimpArgs false

theorem wf_i64 {v : Int} (h : (Lit.int .i64 v).wf = true) : -9223372036854775808 ≤ v ∧ v ≤ 9223372036854775807 := by
  have h2 : (decide (IntKind.i64.min ≤ v) && decide (v ≤ IntKind.i64.max)) = true := h
  rw [Bool.and_eq_true] at h2
  have h3 : (-9223372036854775808 : Int) ≤ v := of_decide_eq_true h2.1
  have h4 : v ≤ (9223372036854775807 : Int) := of_decide_eq_true h2.2
  exact ⟨h3, h4⟩
theorem itoa_f (n : Int) (h0 : -9223372036854775808 ≤ n) (h1 : n ≤ 9223372036854775807) : strconv_Itoa_28.f n = some (ba (Lib.itoa n)) := by
  unfold strconv_Itoa_28.f strconv_Itoa.f
  rw [if_pos ⟨h0, h1⟩]
theorem dec_int (n : Int) (h0 : -9223372036854775808 ≤ n) (h1 : n ≤ 9223372036854775807) : exequaturref01_Dec.f n = some (ba (Lib.itoa n)) := by
  unfold exequaturref01_Dec.f
  rw [if_pos ⟨h0, h1⟩]
theorem at_itoa (n : Int) (h0 : -9223372036854775808 ≤ n) (h1 : n ≤ 9223372036854775807) : atv (Lib.itoa n) = n ∧ atOk (Lib.itoa n) = true := by
  by_cases hn : n < 0
  · have e1 : Lib.itoa n = 45 :: Lib.decDigits n.natAbs := by
      unfold Lib.itoa
      rw [if_pos hn]
    have e2 : Lib.atoiAll (Lib.itoa n) = .ok n := by
      rw [e1, Lib.atoiAll_minus]
      unfold Lib.parseMag
      rw [if_neg (dec_ne _), parse_dec _ (by omega)]
      simp only [Lib.signed]
      rw [if_neg (by omega)]
      congr 1; omega
    unfold atv atOk
    rw [e2]
    exact ⟨rfl, rfl⟩
  · have := at_dec n.toNat (by omega)
    rw [show ((n.toNat : Nat) : Int) = n from by omega] at this
    exact this
theorem number_itoa (n : Int) (h0 : -9223372036854775808 ≤ n) (h1 : n ≤ 9223372036854775807) : row_number.f (ba (Lib.itoa n)) = some (n, true) := by
  have h := at_itoa n h0 h1
  have hl := Lib.itoa_length_le n h0 h1
  unfold row_number.f
  rw [if_pos (by rw [size_ba]; omega), bl_ba, h.1, h.2]
  simp
theorem texts_of (l : List ByteArray) (hs : (txL l).length ≤ 1000000000) : row_Texts.f l = some (ba (txL l)) := by
  unfold row_Texts.f
  have := tx_count l
  rw [if_pos (by omega)]
theorem tx_le (l : List ByteArray) (h : (l.map fun x => x.size).sum + 22 * l.length ≤ 1000000000) : (txL l).length ≤ 1000000000 := by
  have hm : ∀ l : List ByteArray, ∀ x ∈ l, x.size ≤ (l.map fun x => x.size).sum := by
    intro l
    induction l with
    | nil => intro x hx; cases hx
    | cons y r ih =>
      intro x hx
      simp only [List.map_cons, List.sum_cons]
      rcases List.mem_cons.1 hx with rfl | hx
      · omega
      · have := ih x hx; omega
  have h2 := txL_len l (fun x hx => by have := hm l x hx; omega)
  have h3 : ∀ l : List ByteArray, (l.map fun x => x.size + 22).sum = (l.map fun x => x.size).sum + 22 * l.length := by
    intro l
    induction l with
    | nil => simp
    | cons y r ih => simp only [List.map_cons, List.sum_cons, List.length_cons, ih]; omega
  rw [h3] at h2
  omega
end Go.Proofs.YtkjheoilidpckaaDoor.X
