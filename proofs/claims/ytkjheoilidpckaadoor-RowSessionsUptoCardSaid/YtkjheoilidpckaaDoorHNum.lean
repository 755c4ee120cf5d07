/- Ours: decimal numerals: read again they are the number; they are told apart; a colon ends them. -/
import Derived.Test.YtkjheoilidpckaaDoorHSplit
import Derived.Lib.AtoiTie
namespace Go.Proofs.YtkjheoilidpckaaDoor.X
open Go.RowKit Go.Proofs.YtkjheoilidpckaaDoorW.PrintWords Go.Proofs.YtkjheoilidpckaaDoor.Spec
set_option linter.unusedVariables false
set_option linter.unusedSimpArgs false

theorem dec_digits (u : Nat) : ∀ x ∈ Lib.decDigits u, 48 ≤ x.toNat ∧ x.toNat ≤ 57 := by
  induction u using Nat.strongRecOn with
  | _ u ih =>
    intro x hx
    rw [Lib.decDigits] at hx
    split at hx
    · rename_i h
      obtain rfl := List.mem_singleton.1 hx
      rw [UInt8.toNat_ofNat']
      omega
    · rename_i h
      rcases List.mem_append.1 hx with hx | hx
      · exact ih (u / 10) (by omega) x hx
      · obtain rfl := List.mem_singleton.1 hx
        rw [UInt8.toNat_ofNat']
        omega
theorem dec_ne (u : Nat) : Lib.decDigits u ≠ [] := by
  rw [Lib.decDigits]
  split <;> simp
theorem itoa_nat (n : Nat) : Lib.itoa (n : Int) = Lib.decDigits n := by
  unfold Lib.itoa
  rw [if_neg (by omega), Int.toNat_natCast]
theorem no_colon (n : Nat) : (58 : UInt8) ∉ Lib.itoa (n : Int) := by
  rw [itoa_nat]
  intro h
  have := (dec_digits n _ h).2
  simp at this
theorem parse_append (a b : List UInt8) : ∀ acc, Lib.parseUint10 acc (a ++ b) = match Lib.parseUint10 acc a with | .ok x => Lib.parseUint10 x b | .«syntax» => .«syntax» | .range => .range := by
  induction a with
  | nil => intro acc; simp [Lib.parseUint10]
  | cons c r ih =>
    intro acc
    simp only [List.cons_append, Lib.parseUint10]
    by_cases h1 : 48 ≤ c.toNat ∧ c.toNat ≤ 57
    · rw [if_pos h1, if_pos h1]
      by_cases h2 : 1844674407370955162 ≤ acc
      · rw [if_pos h2, if_pos h2]
      · rw [if_neg h2, if_neg h2]
        by_cases h3 : 18446744073709551616 ≤ acc * 10 + (c.toNat - 48)
        · rw [if_pos h3, if_pos h3]
        · rw [if_neg h3, if_neg h3]; exact ih _
    · rw [if_neg h1, if_neg h1]
theorem parse_dec (u : Nat) : u < 18446744073709551616 → Lib.parseUint10 0 (Lib.decDigits u) = .ok u := by
  induction u using Nat.strongRecOn with
  | _ u ih =>
    intro hu
    rw [Lib.decDigits]
    have hd : ∀ d, d < 10 → (UInt8.ofNat (48 + d)).toNat = 48 + d := fun d hd => by rw [UInt8.toNat_ofNat']; omega
    split
    · rename_i h
      simp only [Lib.parseUint10]
      rw [hd u h, if_pos (by omega), if_neg (by omega), if_neg (by omega)]
      congr 1; omega
    · rename_i h
      rw [parse_append, ih (u / 10) (by omega) (by omega)]
      simp only [Lib.parseUint10]
      rw [hd (u % 10) (by omega), if_pos (by omega), if_neg (by omega), if_neg (by omega)]
      congr 1; omega
theorem atoi_dec (n : Nat) (h : n < 9223372036854775808) : Lib.atoiAll (Lib.decDigits n) = .ok (n : Int) := by
  obtain ⟨c, r, hc⟩ := List.exists_cons_of_ne_nil (dec_ne n)
  have hd := dec_digits n c (by rw [hc]; exact List.mem_cons_self ..)
  rw [hc, Lib.atoiAll_plain c r (by omega) (by omega), ← hc]
  unfold Lib.parseMag
  rw [if_neg (dec_ne n), parse_dec n (by omega)]
  simp only [Lib.signless]
  rw [if_neg (by omega)]
theorem at_dec (n : Nat) (h : n < 9223372036854775808) : atv (Lib.itoa (n : Int)) = n ∧ atOk (Lib.itoa (n : Int)) = true := by
  rw [itoa_nat]
  unfold atv atOk
  rw [atoi_dec n h]
  exact ⟨rfl, rfl⟩
theorem pre_end (l t : List UInt8) (h : (58 : UInt8) ∉ l) : pre 58 (l ++ 58 :: t) = l ∧ post 58 (l ++ 58 :: t) = t := by
  have hm : (58 : UInt8) ∈ l ++ 58 :: t := by simp
  have hp := pre_post hm
  have hn := not_mem_pre 58 (l ++ 58 :: t)
  have key : ∀ (a b x y : List UInt8), (58 : UInt8) ∉ a → (58 : UInt8) ∉ b → a ++ 58 :: x = b ++ 58 :: y → a = b ∧ x = y := by
    intro a
    induction a with
    | nil =>
      intro b x y _ hb e
      cases b with
      | nil => simpa using e
      | cons z b =>
        simp only [List.nil_append, List.cons_append, List.cons.injEq] at e
        exact absurd (by rw [e.1]; exact List.mem_cons_self ..) hb
    | cons z a ih =>
      intro b x y ha hb e
      cases b with
      | nil =>
        simp only [List.nil_append, List.cons_append, List.cons.injEq] at e
        exact absurd (by rw [← e.1]; exact List.mem_cons_self ..) ha
      | cons u b =>
        simp only [List.cons_append, List.cons.injEq] at e
        have := ih b x y (fun h => ha (List.mem_cons_of_mem _ h)) (fun h => hb (List.mem_cons_of_mem _ h)) e.2
        exact ⟨by rw [e.1, this.1], this.2⟩
  have := key _ _ _ _ h hn hp
  exact ⟨this.1.symm, this.2.symm⟩
theorem tx1_form (s : ByteArray) (t : List UInt8) : tx1 s ++ t = Lib.itoa (s.size : Int) ++ 58 :: (bl s ++ t) := by simp [tx1]
theorem txL_inj : ∀ a b : List ByteArray, (∀ x ∈ a, x.size < 9223372036854775808) → (∀ x ∈ b, x.size < 9223372036854775808) → txL a = txL b → a = b
  | [], [], _, _, _ => rfl
  | [], s :: r, _, _, h => by
    have := congrArg List.length h
    simp [txL, tx1] at this
  | s :: r, [], _, _, h => by
    have := congrArg List.length h
    simp [txL, tx1] at this
  | s :: r, s' :: r', ha, hb, h => by
    have e : Lib.itoa (s.size : Int) ++ 58 :: (bl s ++ txL r) = Lib.itoa (s'.size : Int) ++ 58 :: (bl s' ++ txL r') := by
      rw [← tx1_form, ← tx1_form]; exact h
    have p1 := pre_end _ (bl s ++ txL r) (no_colon s.size)
    have p2 := pre_end _ (bl s' ++ txL r') (no_colon s'.size)
    rw [e] at p1
    have q1 := p1.1.symm.trans p2.1
    have q2 := p1.2.symm.trans p2.2
    have a1 := at_dec s.size (ha s (List.mem_cons_self ..))
    have a2 := at_dec s'.size (hb s' (List.mem_cons_self ..))
    rw [q1] at a1
    have hsz : s.size = s'.size := by have := a1.1.symm.trans a2.1; omega
    have hl : (bl s).length = (bl s').length := by rw [bl_length, bl_length, hsz]
    have h2 := List.append_inj q2 hl
    rw [bl_inj h2.1, txL_inj r r' (fun x hx => ha x (List.mem_cons_of_mem _ hx)) (fun x hx => hb x (List.mem_cons_of_mem _ hx)) h2.2]
end Go.Proofs.YtkjheoilidpckaaDoor.X
