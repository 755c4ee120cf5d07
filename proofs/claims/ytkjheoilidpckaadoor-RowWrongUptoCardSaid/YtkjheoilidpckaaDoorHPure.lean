/- Ours: the plain laws of chapter 13: the first. -/
import Derived.Test.YtkjheoilidpckaaDoorHEv
import Derived.Test.YtkjheoilidpckaaDoorHOps
import Derived.Test.YtkjheoilidpckaaDoorX3
import Derived.Test.YtkjheoilidpckaaDoorX7
import Derived.Test.YtkjheoilidpckaaDoorX8
import Derived.Test.YtkjheoilidpckaaDoorHSplit
import Derived.Lib.AtoiTie
namespace Go.Proofs.YtkjheoilidpckaaDoor.X
open Go.RowKit Go.Proofs.YtkjheoilidpckaaDoorW.PrintWords Go.Proofs.YtkjheoilidpckaaDoor.Spec
set_option linter.unusedVariables false
set_option linter.unusedSimpArgs false

theorem dec_digits (u : Nat) : ∀ x ∈ Lib.decDigits u, 48 ≤ x.toNat ∧ x.toNat ≤ 57 := by
  induction u using Nat.strongRecOn with
  | _ u ih =>
    intro x hx
    rw [Lib.decDigits] at hx
    split at hx
    · rename_i h
      obtain rfl := List.mem_singleton.1 hx
      rw [UInt8.toNat_ofNat']
      omega
    · rename_i h
      rcases List.mem_append.1 hx with hx | hx
      · exact ih (u / 10) (by omega) x hx
      · obtain rfl := List.mem_singleton.1 hx
        rw [UInt8.toNat_ofNat']
        omega
theorem dec_ne (u : Nat) : Lib.decDigits u ≠ [] := by
  rw [Lib.decDigits]
  split <;> simp
theorem itoa_nat (n : Nat) : Lib.itoa (n : Int) = Lib.decDigits n := by
  unfold Lib.itoa
  rw [if_neg (by omega), Int.toNat_natCast]
theorem no_colon (n : Nat) : (58 : UInt8) ∉ Lib.itoa (n : Int) := by
  rw [itoa_nat]
  intro h
  have := (dec_digits n _ h).2
  simp at this
theorem parse_append (a b : List UInt8) : ∀ acc, Lib.parseUint10 acc (a ++ b) = match Lib.parseUint10 acc a with | .ok x => Lib.parseUint10 x b | .«syntax» => .«syntax» | .range => .range := by
  induction a with
  | nil => intro acc; simp [Lib.parseUint10]
  | cons c r ih =>
    intro acc
    simp only [List.cons_append, Lib.parseUint10]
    by_cases h1 : 48 ≤ c.toNat ∧ c.toNat ≤ 57
    · rw [if_pos h1, if_pos h1]
      by_cases h2 : 1844674407370955162 ≤ acc
      · rw [if_pos h2, if_pos h2]
      · rw [if_neg h2, if_neg h2]
        by_cases h3 : 18446744073709551616 ≤ acc * 10 + (c.toNat - 48)
        · rw [if_pos h3, if_pos h3]
        · rw [if_neg h3, if_neg h3]; exact ih _
    · rw [if_neg h1, if_neg h1]
theorem parse_dec (u : Nat) : u < 18446744073709551616 → Lib.parseUint10 0 (Lib.decDigits u) = .ok u := by
  induction u using Nat.strongRecOn with
  | _ u ih =>
    intro hu
    rw [Lib.decDigits]
    have hd : ∀ d, d < 10 → (UInt8.ofNat (48 + d)).toNat = 48 + d := fun d hd => by rw [UInt8.toNat_ofNat']; omega
    split
    · rename_i h
      simp only [Lib.parseUint10]
      rw [hd u h, if_pos (by omega), if_neg (by omega), if_neg (by omega)]
      congr 1; omega
    · rename_i h
      rw [parse_append, ih (u / 10) (by omega) (by omega)]
      simp only [Lib.parseUint10]
      rw [hd (u % 10) (by omega), if_pos (by omega), if_neg (by omega), if_neg (by omega)]
      congr 1; omega
theorem atoi_dec (n : Nat) (h : n < 9223372036854775808) : Lib.atoiAll (Lib.decDigits n) = .ok (n : Int) := by
  obtain ⟨c, r, hc⟩ := List.exists_cons_of_ne_nil (dec_ne n)
  have hd := dec_digits n c (by rw [hc]; exact List.mem_cons_self ..)
  rw [hc, Lib.atoiAll_plain c r (by omega) (by omega), ← hc]
  unfold Lib.parseMag
  rw [if_neg (dec_ne n), parse_dec n (by omega)]
  simp only [Lib.signless]
  rw [if_neg (by omega)]
theorem at_dec (n : Nat) (h : n < 9223372036854775808) : atv (Lib.itoa (n : Int)) = n ∧ atOk (Lib.itoa (n : Int)) = true := by
  rw [itoa_nat]
  unfold atv atOk
  rw [atoi_dec n h]
  exact ⟨rfl, rfl⟩
theorem pre_end (l t : List UInt8) (h : (58 : UInt8) ∉ l) : pre 58 (l ++ 58 :: t) = l ∧ post 58 (l ++ 58 :: t) = t := by
  have hm : (58 : UInt8) ∈ l ++ 58 :: t := by simp
  have hp := pre_post hm
  have hn := not_mem_pre 58 (l ++ 58 :: t)
  have key : ∀ (a b x y : List UInt8), (58 : UInt8) ∉ a → (58 : UInt8) ∉ b → a ++ 58 :: x = b ++ 58 :: y → a = b ∧ x = y := by
    intro a
    induction a with
    | nil =>
      intro b x y _ hb e
      cases b with
      | nil => simpa using e
      | cons z b =>
        simp only [List.nil_append, List.cons_append, List.cons.injEq] at e
        exact absurd (by rw [e.1]; exact List.mem_cons_self ..) hb
    | cons z a ih =>
      intro b x y ha hb e
      cases b with
      | nil =>
        simp only [List.nil_append, List.cons_append, List.cons.injEq] at e
        exact absurd (by rw [← e.1]; exact List.mem_cons_self ..) ha
      | cons u b =>
        simp only [List.cons_append, List.cons.injEq] at e
        have := ih b x y (fun h => ha (List.mem_cons_of_mem _ h)) (fun h => hb (List.mem_cons_of_mem _ h)) e.2
        exact ⟨by rw [e.1, this.1], this.2⟩
  have := key _ _ _ _ h hn hp
  exact ⟨this.1.symm, this.2.symm⟩
theorem tx1_form (s : ByteArray) (t : List UInt8) : tx1 s ++ t = Lib.itoa (s.size : Int) ++ 58 :: (bl s ++ t) := by simp [tx1]
theorem txL_inj : ∀ a b : List ByteArray, (∀ x ∈ a, x.size < 9223372036854775808) → (∀ x ∈ b, x.size < 9223372036854775808) → txL a = txL b → a = b
  | [], [], _, _, _ => rfl
  | [], s :: r, _, _, h => by
    have := congrArg List.length h
    simp [txL, tx1] at this
  | s :: r, [], _, _, h => by
    have := congrArg List.length h
    simp [txL, tx1] at this
  | s :: r, s' :: r', ha, hb, h => by
    have e : Lib.itoa (s.size : Int) ++ 58 :: (bl s ++ txL r) = Lib.itoa (s'.size : Int) ++ 58 :: (bl s' ++ txL r') := by
      rw [← tx1_form, ← tx1_form]; exact h
    have p1 := pre_end _ (bl s ++ txL r) (no_colon s.size)
    have p2 := pre_end _ (bl s' ++ txL r') (no_colon s'.size)
    rw [e] at p1
    have q1 := p1.1.symm.trans p2.1
    have q2 := p1.2.symm.trans p2.2
    have a1 := at_dec s.size (ha s (List.mem_cons_self ..))
    have a2 := at_dec s'.size (hb s' (List.mem_cons_self ..))
    rw [q1] at a1
    have hsz : s.size = s'.size := by have := a1.1.symm.trans a2.1; omega
    have hl : (bl s).length = (bl s').length := by rw [bl_length, bl_length, hsz]
    have h2 := List.append_inj q2 hl
    rw [bl_inj h2.1, txL_inj r r' (fun x hx => ha x (List.mem_cons_of_mem _ hx)) (fun x hx => hb x (List.mem_cons_of_mem _ hx)) h2.2]
end Go.Proofs.YtkjheoilidpckaaDoor.X
namespace Go.Proofs.YtkjheoilidpckaaDoor.X
open Go.RowKit Go.Proofs.YtkjheoilidpckaaDoorW.PrintWords Go.Proofs.YtkjheoilidpckaaDoor.Spec
set_option linter.unusedVariables false
set_option linter.unusedSimpArgs false

theorem spl_tx : ∀ (l : List ByteArray) (n : Nat), (∀ x ∈ l, x.size < 9223372036854775808) → l.length < n → splG n (txL l) = some (l.map bl)
  | [], n, _, h => by
    obtain ⟨m, rfl⟩ : ∃ m, n = m + 1 := ⟨n - 1, by simp at h; omega⟩
    rw [splG, if_pos (show txL [] = [] from rfl)]; rfl
  | s :: r, n, ha, h => by
    obtain ⟨m, rfl⟩ : ∃ m, n = m + 1 := ⟨n - 1, by simp at h; omega⟩
    have e : txL (s :: r) = Lib.itoa (s.size : Int) ++ 58 :: (bl s ++ txL r) := tx1_form s (txL r)
    have p1 := pre_end _ (bl s ++ txL r) (no_colon s.size)
    have a1 := at_dec s.size (ha s (List.mem_cons_self ..))
    rw [e, splG, if_neg (by simp), p1.1, p1.2, a1.1, a1.2]
    have hl : (bl s).length = s.size := bl_length s
    rw [if_pos ⟨by simp, rfl, by omega, by rw [List.length_append, hl]; omega⟩, Int.toNat_natCast, ← hl, List.drop_left, List.take_left,
      spl_tx r m (fun x hx => ha x (List.mem_cons_of_mem _ hx)) (by simp at h; omega)]
    rfl
theorem map_ba (l : List ByteArray) : (l.map bl).map ba = l := by
  rw [List.map_map]
  have : (ba ∘ bl) = id := by funext x; exact ba_bl x
  rw [this, List.map_id]
theorem tx_count (l : List ByteArray) : l.length ≤ (txL l).length := by
  induction l with
  | nil => simp
  | cons s r ih => simp only [txL, tx1, List.length_append, List.length_cons]; omega
theorem splR_tx (l : List ByteArray) (h : ∀ x ∈ l, x.size < 9223372036854775808) : splR (ba (txL l)) = (l, 0) := by
  unfold splR
  rw [bl_ba, spl_tx l _ h (by rw [size_ba]; have := tx_count l; omega)]
  simp only [map_ba, if_true]
theorem tx_two : txL [⟨#[97, 98]⟩, ⟨#[]⟩] = [50, 58, 97, 98, 48, 58] := by
  have e0 : (⟨#[97, 98]⟩ : ByteArray).size = 2 := rfl
  have e1 : (⟨#[]⟩ : ByteArray).size = 0 := rfl
  have d2 : Lib.itoa ((2 : Nat) : Int) = [50] := by rw [itoa_nat, Lib.decDigits_one (by omega)]; rfl
  have d0 : Lib.itoa ((0 : Nat) : Int) = [48] := by rw [itoa_nat, Lib.decDigits_one (by omega)]; rfl
  simp only [txL, tx1, e0, e1, d2, d0]
  rfl
theorem answers_ok : exequaturlaw13_answers.f = some true := by
  have hb : (⟨#[50, 58, 97, 98, 48, 58]⟩ : ByteArray) = ba (txL [⟨#[97, 98]⟩, ⟨#[]⟩]) := by rw [tx_two]; rfl
  have hs : splR (⟨#[50, 58, 97, 98, 48, 58]⟩ : ByteArray) = ([⟨#[97, 98]⟩, ⟨#[]⟩], 0) := by
    rw [hb]
    exact splR_tx _ (fun x hx => by
      simp only [List.mem_cons, List.not_mem_nil, or_false] at hx
      rcases hx with rfl | rfl <;> decide)
  have h1 : row_Split.f (⟨#[50, 58, 97, 98, 48, 58]⟩ : ByteArray) = some ([⟨#[97, 98]⟩, ⟨#[]⟩], 0) := by
    unfold row_Split.f
    rw [if_pos (by decide), hs]
  have h2 : row_Texts.f [⟨#[97, 98]⟩, ⟨#[]⟩] = some (ba [50, 58, 97, 98, 48, 58]) := by
    unfold row_Texts.f
    rw [tx_two]
    rw [if_pos (by decide)]
  unfold exequaturlaw13_answers.f
  rw [h1]
  simp only [Option.bind_some]
  rw [if_pos True.intro, if_pos (by decide), if_pos (by decide)]
  rw [show rdOf ByteArray.empty [(⟨#[97, 98]⟩ : ByteArray), ⟨#[]⟩] 0 = ⟨#[97, 98]⟩ from rfl, toList_bl, if_pos (by rfl), h2]
  simp only [Option.bind_some, toList_bl, bl_ba]
  rfl

theorem few_any (l : List ByteArray) (hs : (l.map fun x => x.size + 1).sum ≤ 1048576) : ∃ b, Ev (fun k => exequaturlaw13_few.f k l) b := by
  have key : ∀ (d i : Nat) (n : Int), i + d = l.length → ∃ b, Ev (fun k => exequaturlaw13_few.l0 k l n (i : Int)) b := by
    intro d
    induction d with
    | zero =>
      intro i n hi
      exact ⟨_, Ev.step (fun k => by rw [exequaturlaw13_few.l0]) (Ev.if_neg (by omega) (Ev.some _))⟩
    | succ d ih =>
      intro i n hi
      by_cases hn : n < 10000
      · obtain ⟨b, hb⟩ := ih (i + 1) (wrap64 (n + ((rdOf ByteArray.empty l (i : Int)).size : Int))) (by omega)
        refine ⟨b, Ev.step (fun k => by rw [exequaturlaw13_few.l0]) (Ev.if_pos (by omega) (Ev.if_pos hn (Ev.if_pos (by omega) ?_)))⟩
        have hl : l.length ≤ 1048576 := by
          have : ∀ l : List ByteArray, l.length ≤ (l.map fun x => x.size + 1).sum := by
            intro l; induction l with
            | nil => simp
            | cons x r ih => simp only [List.length_cons, List.map_cons, List.sum_cons]; omega
          have := this l
          omega
        rw [w64 (n := (i : Int) + 1) (by omega) (by omega)]
        exact hb
      · exact ⟨_, Ev.step (fun k => by rw [exequaturlaw13_few.l0]) (Ev.if_pos (by omega) (Ev.if_neg hn (Ev.some _)))⟩
  obtain ⟨b, hb⟩ := key l.length 0 (l.length : Int) (by omega)
  exact ⟨b, hb⟩
theorem rd_nat (l : List ByteArray) (i : Nat) (h : i < l.length) : rdOf ByteArray.empty l (i : Int) = l[i] := by
  simp [rdOf, List.getD_eq_getElem?_getD, List.getElem?_eq_getElem h]
theorem len_le (l : List ByteArray) : l.length ≤ (l.map fun x => x.size + 1).sum := by
  induction l with
  | nil => simp
  | cons x r ih => simp only [List.length_cons, List.map_cons, List.sum_cons]; omega
theorem mem_le (l : List ByteArray) : ∀ x ∈ l, x.size ≤ (l.map fun x => x.size + 1).sum := by
  induction l with
  | nil => intro x hx; cases hx
  | cons y r ih =>
    intro x hx
    simp only [List.map_cons, List.sum_cons]
    rcases List.mem_cons.1 hx with rfl | hx
    · omega
    · have := ih x hx; omega
theorem same_eq (a b : List ByteArray) (hs : a.length ≤ 1048576) : Ev (fun k => exequaturlaw13_same.f k a b) (decide (a = b)) := by
  unfold exequaturlaw13_same.f
  by_cases hl : a.length = b.length
  · refine Ev.if_pos (by omega) ?_
    have key : ∀ (d i : Nat), i + d = a.length → Ev (fun k => exequaturlaw13_same.l0 k a b (i : Int)) (decide (a.drop i = b.drop i)) := by
      intro d
      induction d with
      | zero =>
        intro i hi
        refine Ev.step (fun k => by rw [exequaturlaw13_same.l0]) (Ev.if_neg (by omega) ((Ev.some _).uni ?_))
        rw [List.drop_of_length_le (by omega), List.drop_of_length_le (by omega)]
        rfl
      | succ d ih =>
        intro i hi
        have h1 : i < a.length := by omega
        have h2 : i < b.length := by omega
        refine Ev.step (fun k => by rw [exequaturlaw13_same.l0]) (Ev.if_pos (by omega) (Ev.if_pos (by omega) (Ev.if_pos (by omega) ?_)))
        rw [rd_nat a i h1, rd_nat b i h2, toList_bl, toList_bl]
        have e1 : decide (a.drop i = b.drop i) = decide (a[i] = b[i] ∧ a.drop (i + 1) = b.drop (i + 1)) := by
          rw [List.drop_eq_getElem_cons h1, List.drop_eq_getElem_cons h2]
          simp only [List.cons.injEq]
        rw [e1]
        by_cases he : a[i] = b[i]
        · refine Ev.if_pos (by rw [he]) ?_
          rw [w64 (n := (i : Int) + 1) (by omega) (by omega)]
          refine (ih (i + 1) (by omega)).uni ?_
          simp [he]
        · refine Ev.if_neg (fun h => he (bl_inj h)) ((Ev.some _).uni ?_)
          simp [he]
    have := key a.length 0 (by omega)
    simpa using this
  · refine Ev.if_neg (by omega) ((Ev.some _).uni ?_)
    rw [eq_comm, decide_eq_false]
    intro h
    exact hl (by rw [h])
theorem texts_f (l : List ByteArray) (hs : (l.map fun x => x.size + 1).sum ≤ 1048576) : row_Texts.f l = some (ba (txL l)) := by
  unfold row_Texts.f
  have h1 := len_le l
  have h2 := txL_len l (fun x hx => by have := mem_le l x hx; omega)
  have h3 : (l.map fun x => x.size + 22).sum ≤ 22 * (l.map fun x => x.size + 1).sum := by
    clear h1 h2 hs
    induction l with
    | nil => simp
    | cons x r ih => simp only [List.map_cons, List.sum_cons]; omega
  rw [if_pos (by omega)]
end Go.Proofs.YtkjheoilidpckaaDoor.X
