/- The reference's word, hex, begins: what they answer. -/
import Derived.Test.YtifejhbochkifaaGreatDoorHEv
import Derived.Test.YtifejhbochkifaaGreatDoorHJr
import Derived.Test.YtifejhbochkifaaGreatDoorHRefS
import Derived.Test.YtifejhbochkifaaGreatDoorX6
import Derived.Test.YtifejhbochkifaaGreatDoorX5
namespace Go.Proofs.YtifejhbochkifaaGreatDoor.X
open Go.RowKit Go.Proofs.YtifejhbochkifaaGreatDoorW.PrintWords Go.Proofs.YtifejhbochkifaaGreatDoor.Spec
set_option linter.unusedVariables false
set_option linter.unusedSimpArgs false
theorem blt_sub (s : ByteArray) (i j : Nat) : (s.extract i j).toList = ((bl s).take j).drop i := by
 rw [Lib.toList_data, Lib.extract_eq, List.drop_take]
 rfl
theorem begins_eq (s p : ByteArray) : exequaturref01_begins.f s p = some (decide (bl p <+: bl s)) := by
 unfold exequaturref01_begins.f
 by_cases h : p.size ≤ s.size
 ·rw [if_pos (by omega), if_pos (by omega), if_pos (by omega)]
  rw [Int.toNat_natCast, blt_sub, List.drop_zero]
  congr 1
  rw [Bool.eq_iff_iff, beq_iff_eq, decide_eq_true_iff, Lib.toList_data, List.prefix_iff_eq_take, bl_length]
  exact ⟨fun e => e.symm, fun e => e.symm⟩
 ·rw [if_neg (by omega)]
  congr 1
  refine (decide_eq_false ?_).symm
  intro hp
  have := hp.length_le
  rw [bl_length, bl_length] at this
  omega
def hexI (c : UInt8) : Int := match hexR c with | some x => (x : Int) | none => -1
theorem hexR_fin : ∀ n : Fin 256, exequaturref01_hex.f 3 (n.val : Int) = some (hexI (UInt8.ofNat n.val)) := by decide +kernel
theorem hex_mono (x : Int) (k : Nat) : LeO (exequaturref01_hex.f k x) (exequaturref01_hex.f (k + 1) x) := exequaturref01_hex.mono x k
theorem hexI_ev (c : UInt8) : Ev (fun k => exequaturref01_hex.f k (c.toNat : Int)) (hexI c) := by
 refine Ev.of_mono (fun k => hex_mono _ k) (K := 3) ?_
 have := hexR_fin ⟨c.toNat, c.toNat_lt⟩
 simpa using this
theorem hexI_some {c : UInt8} {x : Nat} (h : hexR c = some x) : hexI c = (x : Int) := by unfold hexI; rw [h]
theorem hexI_none {c : UInt8} (h : hexR c = none) : hexI c = -1 := by unfold hexI; rw [h]
theorem hexR_lt {c : UInt8} {x : Nat} (h : hexR c = some x) : x < 16 := by
 unfold hexR at h
 split at h
 ·simp only [Option.some.injEq] at h; omega
 ·split at h
  ·simp only [Option.some.injEq] at h; omega
  ·split at h
   ·simp only [Option.some.injEq] at h; omega
   ·cases h
theorem bt_drop {s : ByteArray} {j : Nat} {x : UInt8} {t : List UInt8} (h : (bl s).drop j = x :: t) : bt s (j : Int) = (x.toNat : Int) ∧ j < s.size ∧ (bl s).drop (j + 1) = t := by
 have hj : j < (bl s).length := by
  apply Classical.byContradiction
  intro hn
  rw [List.drop_of_length_le (by omega)] at h
  cases h
 rw [List.drop_eq_getElem_cons hj, List.cons.injEq] at h
 rw [bl_length] at hj
 refine ⟨?_, hj, h.2⟩
 rw [bt_get s j hj, h.1]
theorem u8_ne {a b : UInt8} (h : a ≠ b) : ¬ ((a.toNat : Int) = (b.toNat : Int)) := fun e => h (toNat_inj.1 e)
def wordL (s : ByteArray) (o : Option (List UInt8 × List UInt8)) : ByteArray × Int := match o with | some (t, r) => (ba t, ((s.size - r.length : Nat) : Int)) | none => (⟨#[]⟩, 0)
theorem nb_snoc (out : List UInt8) (x : UInt8) : nb out ++ [(x.toNat : Int)] = nb (out ++ [x]) := by simp [nb]
theorem pre3_take (r : List UInt8) : [117, 48, 48] <+: r ↔ r.take 3 = [117, 48, 48] := by
 rw [List.prefix_iff_eq_take]
 exact ⟨fun h => h.symm, fun h => h.symm⟩
theorem hexsum (x y : Nat) (h1 : x < 16) (h2 : y < 16) : (wrap64 (wrap64 (16 * (x : Int)) + (y : Int))) % 256 = ((UInt8.ofNat (16 * x + y)).toNat : Int) := by
 rw [w64 (n := 16 * (x : Int)) (by omega) (by omega), w64 (by omega) (by omega), UInt8.toNat_ofNat']
 omega
theorem rfTx_cons (out : List UInt8) (c : UInt8) (r : List UInt8) : rfTx out (c :: r) = if c = 34 then some (out, r) else if c = 92 then (match rfEsc r with | some (x, r') => rfTx (out ++ [x]) r' | none => none) else rfTx (out ++ [c]) r := by
 rw [rfTx]
 split
 ·rfl
 ·split
  ·split <;> simp_all
  ·rfl
theorem word_l0 (s : ByteArray) (hs : s.size ≤ 1000000) : ∀ n i (out : List UInt8), s.size - i ≤ n → i ≤ s.size → out.length ≤ i → Ev (fun k => exequaturref01_word.l0 k s (nb out) (i : Int)) (wordL s (rfTx out ((bl s).drop i))) := by
 intro n
 induction n with
 | zero =>
  intro i out hn hi ho
  refine Ev.step (fun k => by rw [exequaturref01_word.l0]) ?_
  refine Ev.if_neg (by omega) ?_
  rw [List.drop_of_length_le (by rw [bl_length]; omega), rfTx]
  exact Ev.some _
 | succ n ih =>
  intro i out hn hi ho
  have e1 : wrap64 ((i : Int) + 1) = (i : Int) + 1 := w64 (by omega) (by omega)
  have e4 : wrap64 ((i : Int) + 4) = (i : Int) + 4 := w64 (by omega) (by omega)
  have e5 : wrap64 ((i : Int) + 5) = (i : Int) + 5 := w64 (by omega) (by omega)
  have e11 : wrap64 ((i : Int) + 1 + 1) = (i : Int) + 1 + 1 := w64 (by omega) (by omega)
  have e51 : wrap64 ((i : Int) + 5 + 1) = (i : Int) + 5 + 1 := w64 (by omega) (by omega)
  have hnl : (nb out).length < 140737488355328 := by rw [nb_length]; omega
  refine Ev.step (fun k => by rw [exequaturref01_word.l0]) ?_
  by_cases hlt : i < s.size
  ·refine Ev.if_pos (by omega) (Ev.if_pos (by omega) ?_)
   obtain ⟨c, r, hcr⟩ : ∃ c r, (bl s).drop i = c :: r := ⟨_, _, List.drop_eq_getElem_cons (by rw [bl_length]; exact hlt)⟩
   obtain ⟨hb, _, hd⟩ := bt_drop hcr
   have hrl : r.length = s.size - (i + 1) := by rw [← hd, List.length_drop, bl_length]
   rw [hcr, rfTx_cons, hb, e1, str_nb]
   by_cases c34 : c = 34
   ·rw [if_pos c34]
    refine Ev.if_pos (by rw [c34]; rfl) ((Ev.some _).uni ?_)
    show (ba out, (i : Int) + 1) = (ba out, ((s.size - r.length : Nat) : Int))
    rw [Prod.mk.injEq]
    exact ⟨rfl, by omega⟩
   ·rw [if_neg c34]
    refine Ev.if_neg (u8_ne c34) ?_
    by_cases c92 : c = 92
    ·rw [if_pos c92]
     refine Ev.if_pos (by rw [c92]; rfl) ?_
     have hb92 : (c.toNat : Int) = 92 := by rw [c92]; rfl
     -- what follows a backslash that begins nothing
     have hbad : Ev (fun k => exequaturref01_word.j2 k s (nb out) (i : Int) false) (wordL s none) := by
      refine Ev.step (fun k => by rw [exequaturref01_word.j2]) ?_
      rw [hb]
      exact Ev.if_neg (by decide) (Ev.if_pos (by omega) (Ev.if_pos (by omega) (Ev.if_pos hb92 (Ev.some _))))
     -- behind the test for a quote or a backslash
     have hj1 : (∀ x r', r = x :: r' → x ≠ 34 ∧ x ≠ 92) → Ev (fun k => exequaturref01_word.j1 k s (nb out) (i : Int) false) (wordL s (match rfEsc r with | some (x, r') => rfTx (out ++ [x]) r' | none => none)) := by
      intro hq
      have hne : ¬ [34] <+: r ∧ ¬ [92] <+: r := by
       cases r with
       | nil => exact ⟨npre_nil _ _, npre_nil _ _⟩
       | cons x r' => exact ⟨npre1 _ (Ne.symm (hq x r' rfl).1), npre1 _ (Ne.symm (hq x r' rfl).2)⟩
      refine Ev.step (fun k => by rw [exequaturref01_word.j1]) ?_
      rw [hb, e1, e4, e5]
      refine Ev.if_neg (by decide) (Ev.if_pos (by omega) (Ev.if_pos (by omega) (Ev.if_pos hb92 ?_)))
      have hnone : rfEsc r = none → Ev (fun k => exequaturref01_word.j2 k s (nb out) (i : Int) false) (wordL s (match rfEsc r with | some (x, r') => rfTx (out ++ [x]) r' | none => none)) := by
       intro e
       rw [e]
       exact hbad
      by_cases h5 : i + 5 < s.size
      ·refine Ev.if_pos (by omega) (Ev.if_pos (by omega) (Ev.if_pos (by omega) (Ev.if_pos (by omega) ?_)))
       have hext : (s.extract ((i : Int) + 1).toNat ((i : Int) + 4).toNat).toList = r.take 3 := by
        rw [show ((i : Int) + 1).toNat = i + 1 by omega, show ((i : Int) + 4).toNat = i + 4 by omega, blt_sub, ← hd, List.drop_take]
        congr 1
        omega
       rw [hext]
       by_cases h3 : r.take 3 = [117, 48, 48]
       ·refine Ev.if_pos h3 (Ev.if_pos (by omega) (Ev.if_pos (by omega) ?_))
        obtain ⟨a, b, r6, hr6⟩ : ∃ a b r6, r = 117 :: 48 :: 48 :: a :: b :: r6 := by
         have h7 := List.take_append_drop 3 r
         rw [h3] at h7
         have h8 : (r.drop 3).length = r.length - 3 := List.length_drop
         cases hq : r.drop 3 with
         | nil => rw [hq] at h8; simp at h8; omega
         | cons a t =>
          cases t with
          | nil => rw [hq] at h8; simp at h8; omega
          | cons b t => exact ⟨a, b, t, by rw [← h7, hq]; rfl⟩
        have d1 := bt_drop (hd.trans hr6)
        have d2 := bt_drop d1.2.2
        have d3 := bt_drop d2.2.2
        have d4 := bt_drop d3.2.2
        have d5 := bt_drop d4.2.2
        have b4 : bt s ((i : Int) + 4) = (a.toNat : Int) := d4.1
        have b5 : bt s ((i : Int) + 5) = (b.toNat : Int) := d5.1
        have hesc : rfEsc r = rfHex (a :: b :: r6) := by
         unfold rfEsc
         rw [if_neg hne.1, if_neg hne.2, if_pos ((pre3_take r).2 h3), hr6]
         rfl
        rw [b4, b5]
        cases ha : hexR a with
        | none =>
         refine Ev.bind (hexI_ev a) ?_
         rw [hexI_none ha]
         refine Ev.if_neg (by decide) (hnone ?_)
         rw [hesc]; unfold rfHex; simp only [ha]
        | some x =>
         refine Ev.bind (hexI_ev a) ?_
         rw [hexI_some ha]
         refine Ev.if_pos (by omega) (Ev.if_pos (by omega) ?_)
         cases hbb : hexR b with
         | none =>
          refine Ev.bind (hexI_ev b) ?_
          rw [hexI_none hbb, show decide ((-1 : Int) ≥ 0) = false from rfl]
          refine hnone ?_
          rw [hesc]; unfold rfHex; simp only [ha, hbb]
         | some y =>
          refine Ev.bind (hexI_ev b) ?_
          rw [hexI_some hbb, show decide ((y : Int) ≥ 0) = true from decide_eq_true (by omega)]
          have hx := hexR_lt ha
          have hy := hexR_lt hbb
          have hok : rfEsc r = some (UInt8.ofNat (16 * x + y), r6) := by rw [hesc]; unfold rfHex; simp only [ha, hbb]
          rw [hok]
          refine Ev.step (fun k => by rw [exequaturref01_word.j2]) ?_
          rw [e4, e5, b4, b5]
          refine Ev.if_pos rfl (Ev.if_pos (by omega) (Ev.if_pos (by omega) (Ev.bind (hexI_ev a) ?_)))
          refine Ev.if_pos (by omega) (Ev.if_pos (by omega) (Ev.bind (hexI_ev b) ?_))
          rw [hexI_some ha, hexI_some hbb]
          refine Ev.if_pos hnl ?_
          rw [hexsum x y hx hy, e51, nb_snoc]
          have h6 := ih (i + 6) (out ++ [UInt8.ofNat (16 * x + y)]) (by omega) (by omega) (by simp; omega)
          rw [d5.2.2] at h6
          exact h6
       ·refine Ev.if_neg h3 (hnone ?_)
        unfold rfEsc
        rw [if_neg hne.1, if_neg hne.2, if_neg (fun h => h3 ((pre3_take r).1 h))]
      ·refine Ev.if_neg (by omega) (hnone ?_)
       unfold rfEsc
       rw [if_neg hne.1, if_neg hne.2]
       split
       ·have hl3 : (r.drop 3).length ≤ 1 := by rw [List.length_drop]; omega
        generalize r.drop 3 = q at hl3
        unfold rfHex
        split
        ·simp at hl3
        ·rfl
       ·rfl
     by_cases h1 : i + 1 < s.size
     ·refine Ev.if_pos (by omega) (Ev.if_pos (by omega) ?_)
      obtain ⟨x, r', hr'⟩ : ∃ x r', r = x :: r' := by
       cases r with
       | nil => simp at hrl; omega
       | cons x r' => exact ⟨x, r', rfl⟩
      have d1 := bt_drop (hd.trans hr')
      have b1 : bt s ((i : Int) + 1) = (x.toNat : Int) := d1.1
      rw [b1]
      have hyes : (x = 34 ∨ x = 92) → Ev (fun k => exequaturref01_word.j1 k s (nb out) (i : Int) true) (wordL s (match rfEsc r with | some (x, r') => rfTx (out ++ [x]) r' | none => none)) := by
       intro hx
       have hok : rfEsc r = some (x, r') := by
        rw [hr']
        unfold rfEsc
        rcases hx with rfl | rfl <;> simp
       rw [hok]
       refine Ev.step (fun k => by rw [exequaturref01_word.j1]) ?_
       rw [e1, e11, b1]
       refine Ev.if_pos rfl (Ev.if_pos (by omega) (Ev.if_pos (by omega) (Ev.if_pos hnl ?_)))
       rw [nb_snoc]
       have h6 := ih (i + 2) (out ++ [x]) (by omega) (by omega) (by simp; omega)
       rw [d1.2.2] at h6
       exact h6
      by_cases x34 : x = 34
      ·exact Ev.if_pos (by rw [x34]; rfl) (hyes (Or.inl x34))
      ·refine Ev.if_neg (u8_ne x34) ?_
       by_cases x92 : x = 92
       ·rw [show ((x.toNat : Int) == 92) = true by rw [x92]; rfl]
        exact hyes (Or.inr x92)
       ·rw [show ((x.toNat : Int) == 92) = false from beq_eq_false_iff_ne.2 (u8_ne x92)]
        exact hj1 (fun x2 r2 e => by
         rw [hr'] at e
         simp only [List.cons.injEq] at e
         exact ⟨e.1 ▸ x34, e.1 ▸ x92⟩)
     ·refine Ev.if_neg (by omega) ?_
      exact hj1 (fun x2 r2 e => by rw [e] at hrl; simp at hrl; omega)
    ·rw [if_neg c92]
     refine Ev.if_neg (u8_ne c92) ?_
     refine Ev.step (fun k => by rw [exequaturref01_word.j1]) ?_
     rw [hb]
     refine Ev.if_neg (by decide) (Ev.if_pos (by omega) (Ev.if_pos (by omega) (Ev.if_neg (u8_ne c92) ?_)))
     refine Ev.step (fun k => by rw [exequaturref01_word.j2]) ?_
     rw [hb, e1, nb_snoc]
     refine Ev.if_neg (by decide) (Ev.if_pos (by omega) (Ev.if_pos (by omega) (Ev.if_neg (u8_ne c92) (Ev.if_pos hnl ?_))))
     have h6 := ih (i + 1) (out ++ [c]) (by omega) (by omega) (by simp; omega)
     rw [hd] at h6
     exact h6
  ·refine Ev.if_neg (by omega) ?_
   rw [List.drop_of_length_le (by rw [bl_length]; omega), rfTx]
   exact Ev.some _
theorem word_ev (s : ByteArray) (hs : s.size ≤ 1000000) : Ev (fun k => exequaturref01_word.f k s) (wordL s (rfQ (bl s))) := by
 have hb : bl (⟨#[34]⟩ : ByteArray) = [34] := rfl
 refine Ev.bind (h := fun k t => (if t = true then (exequaturref01_word.l0 k s ([] : List Int) 1) else (some ((⟨#[]⟩ : ByteArray), 0)))) (Ev.const (begins_eq s ⟨#[34]⟩)) ?_
 rw [hb]
 unfold rfQ
 by_cases h : [34] <+: bl s
 ·rw [if_pos h]
  refine Ev.if_pos (decide_eq_true h) ?_
  have hl := h.length_le
  rw [bl_length] at hl
  simp only [List.length_singleton] at hl
  exact word_l0 s hs s.size 1 [] (by omega) hl (by simp)
 ·rw [if_neg h]
  exact Ev.if_neg (by simpa using h) (Ev.some _)
end Go.Proofs.YtifejhbochkifaaGreatDoor.X
