/- The reference's base64url: what B64 and UnB64 answer. -/
import Derived.Test.YtjfajkdamechiaaDoorHB64S
import Derived.Test.YtjfajkdamechiaaDoorHEv
import Derived.Test.YtjfajkdamechiaaDoorX9
namespace Go.Proofs.YtjfajkdamechiaaDoor.X
open Go.RowKit Go.Proofs.YtjfajkdamechiaaDoorW.PrintWords Go.Proofs.YtjfajkdamechiaaDoorW.PrintLast Go.Proofs.YtjfajkdamechiaaDoorW.PrintMore Go.Proofs.YtjfajkdamechiaaDoor.Spec
set_option linter.unusedVariables false
set_option linter.unusedSimpArgs false

theorem sixty_fin : ∀ n : Fin 64, exequaturref01_sixty.f (n.val : Int) = some ((alpha n.val).toNat : Int) := by decide +kernel
theorem sixty_f (n : Nat) (h : n < 64) : exequaturref01_sixty.f (n : Int) = some ((alpha n).toNat : Int) := sixty_fin ⟨n, h⟩
/-! three bytes are four letters -/
theorem eStep_pre (o : List UInt8) (s : ES) (b : UInt8) : eStep ⟨o ++ s.out, s.have_, s.v⟩ b = ⟨o ++ (eStep s b).out, (eStep s b).have_, (eStep s b).v⟩ := by
  unfold eStep
  dsimp only
  split
  · simp
  · split <;> simp
theorem eFold_pre (o : List UInt8) (l : List UInt8) : ∀ s : ES, l.foldl eStep ⟨o ++ s.out, s.have_, s.v⟩ = ⟨o ++ (l.foldl eStep s).out, (l.foldl eStep s).have_, (l.foldl eStep s).v⟩ := by
  induction l with
  | nil => intro s; rfl
  | cons b r ih =>
    intro s
    rw [List.foldl_cons, List.foldl_cons, eStep_pre]
    exact ih (eStep s b)
theorem eEnd_pre (o : List UInt8) (s : ES) : eEnd ⟨o ++ s.out, s.have_, s.v⟩ = o ++ eEnd s := by
  unfold eEnd
  dsimp only
  split
  · simp
  · split <;> simp
def four (v : Nat) : List UInt8 := [alpha (v / 262144), alpha (v / 4096 % 64), alpha (v / 64 % 64), alpha (v % 64)]
theorem four_len (v : Nat) : (four v).length = 4 := rfl
theorem four_all (v : Nat) : (four v).take (3 + 1) = four v := rfl
theorem enc3 (a b c : UInt8) (r : List UInt8) : encL (a :: b :: c :: r) = four (a.toNat * 65536 + b.toNat * 256 + c.toNat) ++ encL r := by
  have ha := a.toNat_lt
  have hb := b.toNat_lt
  have hc := c.toNat_lt
  have e : [a, b, c].foldl eStep ⟨[], 0, 0⟩ = ⟨four (a.toNat * 65536 + b.toNat * 256 + c.toNat) ++ [], 0, 0⟩ := by
    show eStep (eStep (eStep ⟨[], 0, 0⟩ a) b) c = _
    have e1 : eStep ⟨[], 0, 0⟩ a = ⟨[alpha (a.toNat / 4 % 64)], 2, a.toNat % 4⟩ := by unfold eStep; rw [if_neg (by decide), if_neg (by decide)]; rfl
    have e2 : eStep ⟨[alpha (a.toNat / 4 % 64)], 2, a.toNat % 4⟩ b = ⟨[alpha (a.toNat / 4 % 64)] ++ [alpha ((a.toNat % 4 * 256 + b.toNat) / 16 % 64)], 4, (a.toNat % 4 * 256 + b.toNat) % 16⟩ := by unfold eStep; rw [if_neg (show ¬ ((2 : Nat) = 4) from by decide), if_pos rfl]
    rw [e1, e2]
    unfold eStep
    rw [if_pos rfl]
    unfold four
    simp only [List.append_nil, List.cons_append, List.nil_append]
    rw [show (a.toNat * 65536 + b.toNat * 256 + c.toNat) / 262144 = a.toNat / 4 % 64 from by omega,
      show (a.toNat * 65536 + b.toNat * 256 + c.toNat) / 4096 % 64 = (a.toNat % 4 * 256 + b.toNat) / 16 % 64 from by omega,
      show (a.toNat * 65536 + b.toNat * 256 + c.toNat) / 64 % 64 = ((a.toNat % 4 * 256 + b.toNat) % 16 * 256 + c.toNat) / 64 % 64 from by omega,
      show (a.toNat * 65536 + b.toNat * 256 + c.toNat) % 64 = ((a.toNat % 4 * 256 + b.toNat) % 16 * 256 + c.toNat) % 64 from by omega]
  unfold encL eSt
  rw [show a :: b :: c :: r = [a, b, c] ++ r from rfl, List.foldl_append, e]
  have := eFold_pre (four (a.toNat * 65536 + b.toNat * 256 + c.toNat)) r ⟨[], 0, 0⟩
  dsimp only at this
  rw [this]
  exact eEnd_pre _ _
theorem enc2 (a b : UInt8) : encL [a, b] = (four (a.toNat * 65536 + b.toNat * 256)).take 3 := by
  have ha := a.toNat_lt
  have hb := b.toNat_lt
  have e1 : eStep ⟨[], 0, 0⟩ a = ⟨[alpha (a.toNat / 4 % 64)], 2, a.toNat % 4⟩ := by unfold eStep; rw [if_neg (by decide), if_neg (by decide)]; rfl
  have e2 : eStep ⟨[alpha (a.toNat / 4 % 64)], 2, a.toNat % 4⟩ b = ⟨[alpha (a.toNat / 4 % 64)] ++ [alpha ((a.toNat % 4 * 256 + b.toNat) / 16 % 64)], 4, (a.toNat % 4 * 256 + b.toNat) % 16⟩ := by unfold eStep; rw [if_neg (show ¬ ((2 : Nat) = 4) from by decide), if_pos rfl]
  unfold encL eSt
  show eEnd (eStep (eStep ⟨[], 0, 0⟩ a) b) = _
  rw [e1, e2]
  unfold eEnd four
  rw [if_pos rfl]
  simp only [List.cons_append, List.nil_append, List.take_succ_cons, List.take_zero]
  rw [show (a.toNat * 65536 + b.toNat * 256) / 262144 = a.toNat / 4 % 64 from by omega,
    show (a.toNat * 65536 + b.toNat * 256) / 4096 % 64 = (a.toNat % 4 * 256 + b.toNat) / 16 % 64 from by omega,
    show (a.toNat * 65536 + b.toNat * 256) / 64 % 64 = (a.toNat % 4 * 256 + b.toNat) % 16 * 4 % 64 from by omega]
theorem enc1 (a : UInt8) : encL [a] = (four (a.toNat * 65536)).take 2 := by
  have ha := a.toNat_lt
  have e1 : eStep ⟨[], 0, 0⟩ a = ⟨[alpha (a.toNat / 4 % 64)], 2, a.toNat % 4⟩ := by unfold eStep; rw [if_neg (by decide), if_neg (by decide)]; rfl
  unfold encL eSt
  show eEnd (eStep ⟨[], 0, 0⟩ a) = _
  rw [e1]
  unfold eEnd four
  rw [if_neg (show ¬ ((2 : Nat) = 4) from by decide), if_pos rfl]
  simp only [List.cons_append, List.nil_append, List.take_succ_cons, List.take_zero]
  rw [show (a.toNat * 65536) / 262144 = a.toNat / 4 % 64 from by omega,
    show (a.toNat * 65536) / 4096 % 64 = a.toNat % 4 * 16 % 64 from by omega]

/-! the walk of a group -/
theorem b64_in (s : ByteArray) (X : List Int) (i v n j : Nat) (b : UInt8) (hs : s.size ≤ 35184372088832) (hj : j < 3) (hij : i + j < s.size) (hb : (bl s)[i + j]? = some b) (hv : v < 65536) (hn : n ≤ 3) (k : Nat) :
    exequaturref01_B64.l1 (k + 1) s X (i : Int) (v : Int) (n : Int) (j : Int) = exequaturref01_B64.l1 k s X (i : Int) ((v * 256 + b.toNat : Nat) : Int) ((n + 1 : Nat) : Int) ((j + 1 : Nat) : Int) := by
  have hb256 := b.toNat_lt
  rw [exequaturref01_B64.l1, if_pos (by omega), w64 (n := (i : Int) + (j : Int)) (by omega) (by omega), if_pos (by omega), if_pos (by omega)]
  rw [show (i : Int) + (j : Int) = ((i + j : Nat) : Int) from by omega, bt_get s (i + j) hij]
  have hg : (bl s)[i + j]'(by rw [bl_length]; exact hij) = b := by
    rw [List.getElem?_eq_getElem (by rw [bl_length]; exact hij)] at hb
    exact Option.some.inj hb
  rw [hg, w64 (n := (b.toNat : Int)) (by omega) (by omega), w64 (n := (v : Int) * 256) (by omega) (by omega), w64 (n := (v : Int) * 256 + (b.toNat : Int)) (by omega) (by omega), w64 (n := (n : Int) + 1) (by omega) (by omega), w64 (n := (j : Int) + 1) (by omega) (by omega)]
  rw [show (v : Int) * 256 + (b.toNat : Int) = ((v * 256 + b.toNat : Nat) : Int) from by omega, show (n : Int) + 1 = ((n + 1 : Nat) : Int) from by omega, show (j : Int) + 1 = ((j + 1 : Nat) : Int) from by omega]
theorem b64_out (s : ByteArray) (X : List Int) (i v n j : Nat) (hs : s.size ≤ 35184372088832) (hi : i ≤ s.size) (hj : j < 3) (hij : s.size ≤ i + j) (hv : v < 65536) (k : Nat) :
    exequaturref01_B64.l1 (k + 1) s X (i : Int) (v : Int) (n : Int) (j : Int) = exequaturref01_B64.l1 k s X (i : Int) ((v * 256 : Nat) : Int) (n : Int) ((j + 1 : Nat) : Int) := by
  rw [exequaturref01_B64.l1, if_pos (by omega), w64 (n := (i : Int) + (j : Int)) (by omega) (by omega), if_neg (by omega), w64 (n := (v : Int) * 256) (by omega) (by omega), w64 (n := (j : Int) + 1) (by omega) (by omega)]
  rw [show (v : Int) * 256 = ((v * 256 : Nat) : Int) from by omega, show (j : Int) + 1 = ((j + 1 : Nat) : Int) from by omega]
theorem b64_end (s : ByteArray) (A : List UInt8) (i v n : Nat) (hs : s.size ≤ 35184372088832) (hi : i < s.size) (hv : v < 16777216) (hn : n ≤ 3) (hA : A.length ≤ 2 * i) (k : Nat) :
    exequaturref01_B64.l1 (k + 1) s (nb A) (i : Int) (v : Int) (n : Int) 3 = exequaturref01_B64.l0 k s (nb (A ++ (four v).take (n + 1))) ((i + 3 : Nat) : Int) := by
  have t1 : Int.tdiv (v : Int) 262144 = ((v / 262144 : Nat) : Int) := by rw [Int.tdiv_eq_ediv_of_nonneg (by omega)]; omega
  have t2 : Int.tdiv (v : Int) 4096 = ((v / 4096 : Nat) : Int) := by rw [Int.tdiv_eq_ediv_of_nonneg (by omega)]; omega
  have t3 : Int.tdiv (v : Int) 64 = ((v / 64 : Nat) : Int) := by rw [Int.tdiv_eq_ediv_of_nonneg (by omega)]; omega
  have m2 : Int.tmod (((v / 4096 : Nat)) : Int) 64 = ((v / 4096 % 64 : Nat) : Int) := by rw [Int.tmod_eq_emod_of_nonneg (by omega)]; omega
  have m3 : Int.tmod (((v / 64 : Nat)) : Int) 64 = ((v / 64 % 64 : Nat) : Int) := by rw [Int.tmod_eq_emod_of_nonneg (by omega)]; omega
  have m4 : Int.tmod (v : Int) 64 = ((v % 64 : Nat) : Int) := by rw [Int.tmod_eq_emod_of_nonneg (by omega)]; omega
  rw [exequaturref01_B64.l1, if_neg (by omega), t1, t2, t3, w64 (n := ((v / 262144 : Nat) : Int)) (by omega) (by omega), w64 (n := ((v / 4096 : Nat) : Int)) (by omega) (by omega), w64 (n := ((v / 64 : Nat) : Int)) (by omega) (by omega), m2, m3, m4,
    sixty_f (v / 262144) (by omega), Option.bind_some, sixty_f (v / 4096 % 64) (by omega), Option.bind_some, sixty_f (v / 64 % 64) (by omega), Option.bind_some, sixty_f (v % 64) (by omega), Option.bind_some, Option.bind_some]
  rw [w64 (n := (n : Int) + 1) (by omega) (by omega), if_pos (by omega), if_pos (by simp only [List.length_cons, List.length_nil]; omega)]
  have ht : (((n : Int) + 1).toNat) = n + 1 := by omega
  have h4 : ([((alpha (v / 262144)).toNat : Int), ((alpha (v / 4096 % 64)).toNat : Int), ((alpha (v / 64 % 64)).toNat : Int), ((alpha (v % 64)).toNat : Int)] : List Int).take (n + 1) = nb ((four v).take (n + 1)) := by
    unfold nb four
    rw [List.map_take]; rfl
  rw [ht, h4, Option.bind_some, ← nb_append, if_pos (by
    rw [nb_length, nb_length, List.length_take]
    rw [four_len]; omega), w64 (n := (i : Int) + 3) (by omega) (by omega), show (i : Int) + 3 = ((i + 3 : Nat) : Int) from by omega]
theorem b64_from (s : ByteArray) (hs : s.size ≤ 35184372088832) : ∀ n i (A : List UInt8), s.size ≤ i + n → A.length ≤ 2 * i → Ev (fun k => exequaturref01_B64.l0 k s (nb A) (i : Int)) (ba (A ++ encL ((bl s).drop i))) := by
  intro n
  induction n using Nat.strongRecOn with
  | ind n ih =>
    intro i A hi hA
    refine Ev.step (fun k => by rw [exequaturref01_B64.l0]) ?_
    by_cases hlt : i < s.size
    · refine Ev.if_pos (by omega) ?_
      have g : ∀ j, (h : i + j < s.size) → (bl s)[i + j]? = some ((bl s)[i + j]'(by rw [bl_length]; exact h)) := fun j h => List.getElem?_eq_getElem (by rw [bl_length]; exact h)
      have d : ∀ j, (h : i + j < s.size) → (bl s).drop (i + j) = (bl s)[i + j]'(by rw [bl_length]; exact h) :: (bl s).drop (i + j + 1) := fun j h => List.drop_eq_getElem_cons (by rw [bl_length]; exact h)
      have g0 := g 0 (by omega)
      have d0 := d 0 (by omega)
      simp only [Nat.add_zero] at g0 d0
      generalize (bl s)[i]'(by rw [bl_length]; exact hlt) = a at g0 d0
      have ha := a.toNat_lt
      refine Ev.step (fun k => b64_in s (nb A) i 0 0 0 a hs (by omega) (by omega) g0 (by omega) (by omega) k) ?_
      simp only [Nat.zero_mul, Nat.zero_add]
      by_cases h1 : i + 1 < s.size
      · have g1 := g 1 h1
        have d1 := d 1 h1
        generalize (bl s)[i + 1]'(by rw [bl_length]; exact h1) = b at g1 d1
        have hb := b.toNat_lt
        refine Ev.step (fun k => b64_in s (nb A) i a.toNat 1 1 b hs (by omega) h1 g1 (by omega) (by omega) k) ?_
        by_cases h2 : i + 2 < s.size
        · have g2 := g 2 h2
          have d2 := d 2 h2
          generalize (bl s)[i + 2]'(by rw [bl_length]; exact h2) = c at g2 d2
          have hc := c.toNat_lt
          refine Ev.step (fun k => b64_in s (nb A) i (a.toNat * 256 + b.toNat) 2 2 c hs (by omega) h2 g2 (by omega) (by omega) k) ?_
          refine Ev.step (fun k => b64_end s A i ((a.toNat * 256 + b.toNat) * 256 + c.toNat) 3 hs hlt (by omega) (by omega) hA k) ?_
          refine (ih (n - 3) (by omega) (i + 3) _ (by omega) (by rw [List.length_append, List.length_take]; rw [four_len]; omega)).uni ?_
          rw [d0, d1, d2, enc3, show (a.toNat * 256 + b.toNat) * 256 + c.toNat = a.toNat * 65536 + b.toNat * 256 + c.toNat from by omega]
          rw [four_all, List.append_assoc]
        · refine Ev.step (fun k => b64_out s (nb A) i (a.toNat * 256 + b.toNat) 2 2 hs (by omega) (by omega) (by omega) (by omega) k) ?_
          refine Ev.step (fun k => b64_end s A i ((a.toNat * 256 + b.toNat) * 256) 2 hs hlt (by omega) (by omega) hA k) ?_
          refine (ih (n - 2) (by omega) (i + 3) _ (by omega) (by rw [List.length_append, List.length_take]; rw [four_len]; omega)).uni ?_
          have e2 : (bl s).drop (i + 1 + 1) = [] := List.drop_of_length_le (by rw [bl_length]; omega)
          have e3 : (bl s).drop (i + 3) = [] := List.drop_of_length_le (by rw [bl_length]; omega)
          rw [d0, d1, e2, e3, enc2, show (a.toNat * 256 + b.toNat) * 256 = a.toNat * 65536 + b.toNat * 256 from by omega, show encL [] = [] from rfl, List.append_nil]
      · refine Ev.step (fun k => b64_out s (nb A) i a.toNat 1 1 hs (by omega) (by omega) (by omega) (by omega) k) ?_
        refine Ev.step (fun k => b64_out s (nb A) i (a.toNat * 256) 1 2 hs (by omega) (by omega) (by omega) (by omega) k) ?_
        refine Ev.step (fun k => b64_end s A i (a.toNat * 256 * 256) 1 hs hlt (by omega) (by omega) hA k) ?_
        refine (ih (n - 1) (by omega) (i + 3) _ (by omega) (by rw [List.length_append, List.length_take]; rw [four_len]; omega)).uni ?_
        have e1 : (bl s).drop (i + 1) = [] := List.drop_of_length_le (by rw [bl_length]; omega)
        have e3 : (bl s).drop (i + 3) = [] := List.drop_of_length_le (by rw [bl_length]; omega)
        rw [d0, e1, e3, enc1, show a.toNat * 256 * 256 = a.toNat * 65536 from by omega, show encL [] = [] from rfl, List.append_nil]
    · refine Ev.if_neg (by omega) ?_
      have e0 : (bl s).drop i = [] := List.drop_of_length_le (by rw [bl_length]; omega)
      rw [e0, show encL [] = [] from rfl, List.append_nil, str_nb]
      exact Ev.some _
theorem ref_B64 (s : ByteArray) (hs : s.size ≤ 35184372088832) : Ev (fun k => exequaturref01_B64.f k s) (ba (encL (bl s))) :=
  (b64_from s hs s.size 0 [] (by omega) (by simp)).uni (by simp)
end Go.Proofs.YtjfajkdamechiaaDoor.X
