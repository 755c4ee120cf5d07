/- text.Equal: what it answers, plain. -/
import Derived.Test.YtkcgalpagpgfhaaDoorHEv
import Derived.Test.YtkcgalpagpgfhaaDoorX3
import Derived.Laws.BitsLemmas
namespace Go.Proofs.YtkcgalpagpgfhaaDoor.X
open Go.RowKit Go.Proofs.YtkcgalpagpgfhaaDoorW.PrintWords Go.Proofs.YtkcgalpagpgfhaaDoor.Spec
set_option linter.unusedVariables false
set_option linter.unusedSimpArgs false

theorem bits_xor (k : IntKind) (j : Nat) (hj : j ≤ k.bits) (hk : ∀ n : Int, 0 ≤ n → n < 2 ^ j → k.wrap n = n) (a b : Nat) (ha : a < 2 ^ j) (hb : b < 2 ^ j) : Go.bits .xor k a b = ((a ^^^ b : Nat) : Int) := by
  have hp : 2 ^ j ≤ 2 ^ k.bits := Nat.pow_le_pow_right (by decide) hj
  have ha' : a % 2 ^ k.bits = a := Nat.mod_eq_of_lt (Nat.lt_of_lt_of_le ha hp)
  have hb' : b % 2 ^ k.bits = b := Nat.mod_eq_of_lt (Nat.lt_of_lt_of_le hb hp)
  have cast : ∀ n : Nat, n < 2 ^ j → ((n : Nat) : Int) < 2 ^ j := fun n h => by exact_mod_cast h
  simp only [Go.bits, BitVec.ofInt_natCast, BitVec.toNat_xor, BitVec.toNat_ofNat, ha', hb']
  exact hk _ (Int.natCast_nonneg _) (cast _ (Nat.xor_lt_two_pow ha hb))
theorem w62 (n : Int) (h0 : 0 ≤ n) (h1 : n < 2 ^ 62) : IntKind.i64.wrap n = n := by rw [IntKind.wrap_i64]; omega
theorem xor_zero (a b : Nat) : a ^^^ b = 0 ↔ a = b := by
  constructor
  · intro h
    have := congrArg (fun x => x ^^^ b) h
    simp only [Nat.xor_assoc, Nat.xor_self, Nat.xor_zero, Nat.zero_xor] at this
    exact this
  · rintro rfl; exact Nat.xor_self a
theorem or_zero (a b : Nat) : a ||| b = 0 ↔ a = 0 ∧ b = 0 := by
  constructor
  · intro h
    exact ⟨Nat.eq_zero_of_le_zero (h ▸ Nat.left_le_or), Nat.eq_zero_of_le_zero (h ▸ Nat.right_le_or)⟩
  · rintro ⟨rfl, rfl⟩; rfl
def zipEq : List UInt8 → Nat → List UInt8 → Bool
  | [], _, _ => true
  | x :: r, j, b => decide (x = b.getD j 0) && zipEq r (j + 1) b
theorem zipEq_iff : ∀ (l : List UInt8) (j : Nat) (b : List UInt8), l.length + j = b.length → (zipEq l j b = true ↔ l = b.drop j)
  | [], j, b, h => by rw [List.drop_of_length_le (by simp only [List.length_nil] at h; omega)]; simp [zipEq]
  | x :: r, j, b, h => by
    have hj : j < b.length := by simp only [List.length_cons] at h; omega
    have ih := zipEq_iff r (j + 1) b (by simp only [List.length_cons] at h; omega)
    rw [List.drop_eq_getElem_cons hj, zipEq, Bool.and_eq_true, decide_eq_true_iff, ih, List.getD_eq_getElem?_getD, List.getElem?_eq_getElem hj]
    exact ⟨fun ⟨h1, h2⟩ => by rw [h1, h2]; rfl, fun h => by injection h with h1 h2; exact ⟨h1, h2⟩⟩
theorem eq_step (odd x y : Nat) (ho : odd < 2 ^ 62) (hx : x < 256) (hy : y < 256) : Go.bits .or .i64 (odd : Int) (wrap64 (Go.bits .xor .u8 (x : Int) (y : Int))) = ((odd ||| (x ^^^ y) : Nat) : Int) ∧ odd ||| (x ^^^ y) < 2 ^ 62 := by
  have h1 := bits_xor .u8 8 (by decide) wraps_u8 x y (by omega) (by omega)
  have h2 : x ^^^ y < 256 := Nat.xor_lt_two_pow (n := 8) (by omega) (by omega)
  rw [h1, w64 (by omega) (by omega), (bits_nat .i64 62 (by decide) w62 odd (x ^^^ y) ho (by omega)).2]
  exact ⟨rfl, Nat.or_lt_two_pow ho (by omega)⟩
theorem equal_from (a b : ByteArray) (ha : a.size ≤ 1000000000000) : ∀ n i (odd : Nat), i + n = a.size → odd < 2 ^ 62 → Ev (fun k => text_Equal.l0 k a b (odd : Int) (a.size : Int) (i : Int)) (decide (odd = 0) && zipEq ((bl a).drop i) i (bl b)) := by
  intro n
  induction n with
  | zero =>
    intro i odd hi ho
    rw [List.drop_of_length_le (by rw [bl_length]; omega)]
    refine Ev.step (fun k => by rw [text_Equal.l0]) ?_
    refine Ev.if_neg (by omega) (Ev.const ?_)
    rw [zipEq, Bool.and_true]
    congr 1
    rw [Bool.eq_iff_iff, beq_iff_eq, decide_eq_true_iff]
    omega
  | succ n ih =>
    intro i odd hi ho
    have hlt : i < a.size := by omega
    have hd : (bl a).drop i = (bl a)[i]'(by rw [bl_length]; exact hlt) :: (bl a).drop (i + 1) := List.drop_eq_getElem_cons (by rw [bl_length]; exact hlt)
    have hbt := bt_get a i hlt
    rw [hd]
    generalize (bl a)[i]'(by rw [bl_length]; exact hlt) = x at hbt
    have hx := x.toNat_lt
    have key : ∀ y : UInt8, (bl b).getD i 0 = y → Ev (fun k => text_Equal.l0 k a b (Go.bits .or .i64 (odd : Int) (wrap64 (Go.bits .xor .u8 (x.toNat : Int) (y.toNat : Int)))) (a.size : Int) (wrap64 ((i : Int) + 1))) (decide (odd = 0) && zipEq (x :: (bl a).drop (i + 1)) i (bl b)) := by
      intro y hy
      have hy2 := y.toNat_lt
      obtain ⟨h1, h2⟩ := eq_step odd x.toNat y.toNat ho (by omega) (by omega)
      rw [h1, w64 (n := (i : Int) + 1) (by omega) (by omega), show (i : Int) + 1 = ((i + 1 : Nat) : Int) from by omega]
      refine (ih (i + 1) _ (by omega) h2).uni ?_
      rw [zipEq, hy, ← Bool.and_assoc]
      congr 1
      rw [Bool.eq_iff_iff, Bool.and_eq_true, decide_eq_true_iff, decide_eq_true_iff, decide_eq_true_iff, or_zero, xor_zero, UInt8.toNat_inj]
    refine Ev.step (fun k => by rw [text_Equal.l0]) ?_
    refine Ev.if_pos (by omega) ?_
    by_cases hb : i < b.size
    · refine Ev.if_pos (by omega) (Ev.if_pos (by omega) (Ev.if_pos (by omega) ?_))
      rw [hbt, bt_get b i hb]
      refine key _ ?_
      rw [List.getD_eq_getElem?_getD, List.getElem?_eq_getElem (by rw [bl_length]; exact hb)]; rfl
    · refine Ev.if_neg (by omega) (Ev.if_pos (by omega) (Ev.if_pos (by omega) ?_))
      rw [hbt]
      refine key 0 ?_
      rw [List.getD_eq_getElem?_getD, List.getElem?_eq_none (by rw [bl_length]; omega)]; rfl
theorem equal_f (a b : ByteArray) (ha : a.size ≤ 1000000000000) (hb : b.size ≤ 1000000000000) : Ev (fun k => text_Equal.f k a b) (decide (bl a = bl b)) := by
  unfold text_Equal.f
  have hx := bits_xor .i64 62 (by decide) w62 a.size b.size (by omega) (by omega)
  rw [hx]
  have hlt : a.size ^^^ b.size < 2 ^ 62 := Nat.xor_lt_two_pow (by omega) (by omega)
  refine (equal_from a b ha a.size 0 _ (by omega) hlt).uni ?_
  rw [List.drop_zero, Bool.eq_iff_iff, Bool.and_eq_true, decide_eq_true_iff, decide_eq_true_iff, xor_zero]
  constructor
  · rintro ⟨h1, h2⟩
    have := (zipEq_iff (bl a) 0 (bl b) (by rw [bl_length, bl_length]; omega)).1 h2
    simpa using this
  · intro h
    have hs : a.size = b.size := by rw [← bl_length, ← bl_length, h]
    exact ⟨hs, (zipEq_iff (bl a) 0 (bl b) (by rw [bl_length, bl_length]; omega)).2 (by simpa using h)⟩
end Go.Proofs.YtkcgalpagpgfhaaDoor.X
