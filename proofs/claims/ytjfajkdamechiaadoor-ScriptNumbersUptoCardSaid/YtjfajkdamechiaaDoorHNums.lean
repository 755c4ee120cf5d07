/- Numbers as decimal texts, and back. -/
import Derived.Test.YtjfajkdamechiaaDoorHEv
import Derived.Test.YtjfajkdamechiaaDoorHOps
import Derived.Test.YtjfajkdamechiaaDoorHTx
import Derived.Lib.AtoiTie
namespace Go.Proofs.YtjfajkdamechiaaDoor.X
open Go.RowKit Go.Proofs.YtjfajkdamechiaaDoorW.PrintWords Go.Proofs.YtjfajkdamechiaaDoor.Spec
set_option linter.unusedVariables false
set_option linter.unusedSimpArgs false

theorem dec_digits (u : Nat) : ∀ x ∈ Lib.decDigits u, 48 ≤ x.toNat ∧ x.toNat ≤ 57 := by
  induction u using Nat.strongRecOn with
  | _ u ih =>
    intro x hx
    rw [Lib.decDigits] at hx
    split at hx
    · rename_i h
      obtain rfl := List.mem_singleton.1 hx
      rw [UInt8.toNat_ofNat']
      omega
    · rename_i h
      rcases List.mem_append.1 hx with hx | hx
      · exact ih (u / 10) (by omega) x hx
      · obtain rfl := List.mem_singleton.1 hx
        rw [UInt8.toNat_ofNat']
        omega
theorem dec_ne (u : Nat) : Lib.decDigits u ≠ [] := by
  rw [Lib.decDigits]
  split <;> simp
theorem itoa_nat (n : Nat) : Lib.itoa (n : Int) = Lib.decDigits n := by
  unfold Lib.itoa
  rw [if_neg (by omega), Int.toNat_natCast]
theorem parse_append (a b : List UInt8) : ∀ acc, Lib.parseUint10 acc (a ++ b) = match Lib.parseUint10 acc a with | .ok x => Lib.parseUint10 x b | .«syntax» => .«syntax» | .range => .range := by
  induction a with
  | nil => intro acc; simp [Lib.parseUint10]
  | cons c r ih =>
    intro acc
    simp only [List.cons_append, Lib.parseUint10]
    by_cases h1 : 48 ≤ c.toNat ∧ c.toNat ≤ 57
    · rw [if_pos h1, if_pos h1]
      by_cases h2 : 1844674407370955162 ≤ acc
      · rw [if_pos h2, if_pos h2]
      · rw [if_neg h2, if_neg h2]
        by_cases h3 : 18446744073709551616 ≤ acc * 10 + (c.toNat - 48)
        · rw [if_pos h3, if_pos h3]
        · rw [if_neg h3, if_neg h3]; exact ih _
    · rw [if_neg h1, if_neg h1]
theorem parse_dec (u : Nat) : u < 18446744073709551616 → Lib.parseUint10 0 (Lib.decDigits u) = .ok u := by
  induction u using Nat.strongRecOn with
  | _ u ih =>
    intro hu
    rw [Lib.decDigits]
    have hd : ∀ d, d < 10 → (UInt8.ofNat (48 + d)).toNat = 48 + d := fun d hd => by rw [UInt8.toNat_ofNat']; omega
    split
    · rename_i h
      simp only [Lib.parseUint10]
      rw [hd u h, if_pos (by omega), if_neg (by omega), if_neg (by omega)]
      congr 1; omega
    · rename_i h
      rw [parse_append, ih (u / 10) (by omega) (by omega)]
      simp only [Lib.parseUint10]
      rw [hd (u % 10) (by omega), if_pos (by omega), if_neg (by omega), if_neg (by omega)]
      congr 1; omega
theorem atoi_dec (n : Nat) (h : n < 9223372036854775808) : Lib.atoiAll (Lib.decDigits n) = .ok (n : Int) := by
  obtain ⟨c, r, hc⟩ := List.exists_cons_of_ne_nil (dec_ne n)
  have hd := dec_digits n c (by rw [hc]; exact List.mem_cons_self ..)
  rw [hc, Lib.atoiAll_plain c r (by omega) (by omega), ← hc]
  unfold Lib.parseMag
  rw [if_neg (dec_ne n), parse_dec n (by omega)]
  simp only [Lib.signless]
  rw [if_neg (by omega)]
theorem at_dec (n : Nat) (h : n < 9223372036854775808) : atv (Lib.itoa (n : Int)) = n ∧ atOk (Lib.itoa (n : Int)) = true := by
  rw [itoa_nat]
  unfold atv atOk
  rw [atoi_dec n h]
  exact ⟨rfl, rfl⟩
theorem wf_i64 {v : Int} (h : (Lit.int .i64 v).wf = true) : -9223372036854775808 ≤ v ∧ v ≤ 9223372036854775807 := by
  have h2 : (decide (IntKind.i64.min ≤ v) && decide (v ≤ IntKind.i64.max)) = true := h
  rw [Bool.and_eq_true] at h2
  have h3 : (-9223372036854775808 : Int) ≤ v := of_decide_eq_true h2.1
  have h4 : v ≤ (9223372036854775807 : Int) := of_decide_eq_true h2.2
  exact ⟨h3, h4⟩
theorem at_itoa (n : Int) (h0 : -9223372036854775808 ≤ n) (h1 : n ≤ 9223372036854775807) : atv (Lib.itoa n) = n ∧ atOk (Lib.itoa n) = true := by
  by_cases hn : n < 0
  · have e1 : Lib.itoa n = 45 :: Lib.decDigits n.natAbs := by
      unfold Lib.itoa
      rw [if_pos hn]
    have e2 : Lib.atoiAll (Lib.itoa n) = .ok n := by
      rw [e1, Lib.atoiAll_minus]
      unfold Lib.parseMag
      rw [if_neg (dec_ne _), parse_dec _ (by omega)]
      simp only [Lib.signed]
      rw [if_neg (by omega)]
      congr 1; omega
    unfold atv atOk
    rw [e2]
    exact ⟨rfl, rfl⟩
  · have := at_dec n.toNat (by omega)
    rw [show ((n.toNat : Nat) : Int) = n from by omega] at this
    exact this
theorem itoa_mem (n : Int) : ∀ x ∈ Lib.itoa n, x.toNat = 45 ∨ 48 ≤ x.toNat ∧ x.toNat ≤ 57 := by
  intro x hx
  unfold Lib.itoa at hx
  split at hx
  · rcases List.mem_cons.1 hx with rfl | hx
    · exact .inl rfl
    · exact .inr (dec_digits _ x hx)
  · exact .inr (dec_digits _ x hx)
theorem itoa_no (n : Int) (c : UInt8) (h : c.toNat < 45) : c ∉ Lib.itoa n := by
  intro hc
  have := itoa_mem n c hc
  omega
end Go.Proofs.YtjfajkdamechiaaDoor.X
