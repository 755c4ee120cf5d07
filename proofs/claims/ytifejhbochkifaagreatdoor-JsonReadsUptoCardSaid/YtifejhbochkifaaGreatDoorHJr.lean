/- The reference's reading of a text, in plain Lean; what it makes of a value's text. No program in sight. -/
import Derived.Test.YtifejhbochkifaaGreatDoorBB
namespace Go.Proofs.YtifejhbochkifaaGreatDoor.X
open Go.RowKit Go.Proofs.YtifejhbochkifaaGreatDoorW.PrintWords Go.Proofs.YtifejhbochkifaaGreatDoor.Spec
set_option linter.unusedVariables false
def hexR (c : UInt8) : Option Nat := if 48 ≤ c.toNat ∧ c.toNat ≤ 57 then some (c.toNat - 48) else if 97 ≤ c.toNat ∧ c.toNat ≤ 102 then some (c.toNat - 87) else if 65 ≤ c.toNat ∧ c.toNat ≤ 70 then some (c.toNat - 55) else none
def rfHex : List UInt8 → Option (UInt8 × List UInt8)
  | a :: b :: r => match hexR a, hexR b with
    | some x, some y => some (UInt8.ofNat (16 * x + y), r)
    | _, _ => none
  | _ => none
theorem rfHex_len {l : List UInt8} {c : UInt8} {r : List UInt8} (h : rfHex l = some (c, r)) : r.length < l.length := by
 unfold rfHex at h
 split at h
 ·split at h
  ·simp only [Option.some.injEq, Prod.mk.injEq] at h
   rw [← h.2]; simp only [List.length_cons]; omega
  ·cases h
 ·cases h
/-- behind a backslash -/
def rfEsc (l : List UInt8) : Option (UInt8 × List UInt8) :=
  if [34] <+: l then some (34, l.drop 1)
  else if [92] <+: l then some (92, l.drop 1)
  else if [117, 48, 48] <+: l then rfHex (l.drop 3)
  else none
theorem rfEsc_len {l : List UInt8} {c : UInt8} {r : List UInt8} (h : rfEsc l = some (c, r)) : r.length < l.length := by
 unfold rfEsc at h
 split at h
 ·rename_i hp
  have := hp.length_le
  simp only [Option.some.injEq, Prod.mk.injEq] at h
  rw [← h.2, List.length_drop]; simp at this; omega
 ·split at h
  ·rename_i hp
   have := hp.length_le
   simp only [Option.some.injEq, Prod.mk.injEq] at h
   rw [← h.2, List.length_drop]; simp at this; omega
  ·split at h
   ·have := rfHex_len h
    rw [List.length_drop] at this
    omega
   ·cases h
/-- behind the first quote: the text, and what is left; out: what has been read of it -/
def rfTx (out : List UInt8) (l : List UInt8) : Option (List UInt8 × List UInt8) :=
  match l with
  | [] => none
  | c :: r =>
    if c = 34 then some (out, r)
    else if c = 92 then
      match h : rfEsc r with
      | some (x, r') => rfTx (out ++ [x]) r'
      | none => none
    else rfTx (out ++ [c]) r
termination_by l.length
decreasing_by
  · have := rfEsc_len h; simp only [List.length_cons]; omega
  · simp
def rfQ (l : List UInt8) : Option (List UInt8 × List UInt8) := if [34] <+: l then rfTx [] (l.drop 1) else none
theorem rfTx_len : ∀ (n : Nat) (l out t r : List UInt8), l.length ≤ n → rfTx out l = some (t, r) → r.length < l.length ∧ t.length ≤ out.length + l.length := by
 intro n
 induction n with
 | zero => intro l out t r hn h; cases l with
  | nil => rw [rfTx] at h; cases h
  | cons c l => simp at hn
 | succ n ih =>
  intro l out t r hn h
  cases l with
  | nil => rw [rfTx] at h; cases h
  | cons c l =>
   simp only [List.length_cons] at hn ⊢
   rw [rfTx] at h
   split at h
   ·simp only [Option.some.injEq, Prod.mk.injEq] at h
    rw [← h.1, ← h.2]; omega
   ·split at h
    ·split at h
     ·rename_i x r' e
      have h1 := rfEsc_len e
      have h2 := ih r' _ _ _ (by omega) h
      simp only [List.length_append, List.length_singleton] at h2
      omega
     ·cases h
    ·have h2 := ih l _ _ _ (by omega) h
     simp only [List.length_append, List.length_singleton] at h2
     omega
theorem rfQ_len {l t r : List UInt8} (h : rfQ l = some (t, r)) : r.length + 1 < l.length ∧ t.length ≤ l.length := by
 unfold rfQ at h
 split at h
 ·rename_i hp
  have h1 := hp.length_le
  have h2 := rfTx_len _ _ _ _ _ (Nat.le_refl _) h
  rw [List.length_drop] at h2
  simp at h1
  simp only [List.length_nil] at h2
  omega
 ·cases h
theorem rfTx_bound : ∀ (n : Nat) (l out t r : List UInt8), l.length ≤ n → rfTx out l = some (t, r) → (escL t).length + 6 * r.length + 6 ≤ (escL out).length + 6 * l.length := by
 intro n
 induction n with
 | zero => intro l out t r hn h; cases l with
  | nil => rw [rfTx] at h; cases h
  | cons c l => simp at hn
 | succ n ih =>
  intro l out t r hn h
  cases l with
  | nil => rw [rfTx] at h; cases h
  | cons c l =>
   simp only [List.length_cons] at hn ⊢
   rw [rfTx] at h
   split at h
   ·simp only [Option.some.injEq, Prod.mk.injEq] at h
    rw [← h.1, ← h.2]; omega
   ·split at h
    ·split at h
     ·rename_i x r' e
      have h1 := rfEsc_len e
      have h2 := ih r' _ _ _ (by omega) h
      have h3 := escL_snoc6 out x
      omega
     ·cases h
    ·have h2 := ih l _ _ _ (by omega) h
     have h3 := escL_snoc6 out c
     omega
theorem rfQ_bound {l t r : List UInt8} (h : rfQ l = some (t, r)) : (jq t).length + 6 * r.length ≤ 6 * l.length ∧ r.length ≤ l.length := by
 have h0 := rfQ_len h
 unfold rfQ at h
 split at h
 ·rename_i hp
  have h1 := hp.length_le
  have h2 := rfTx_bound _ _ _ _ _ (Nat.le_refl _) h
  rw [List.length_drop] at h2
  simp only [List.length_singleton] at h1
  have h3 : (escL []).length = 0 := rfl
  simp only [jq, List.length_cons, List.length_append, List.length_nil]
  omega
 ·cases h
theorem low_byteR : ∀ n : Fin 32, hexR (hexc (n.val / 16)) = some (n.val / 16) ∧ hexR (hexc (n.val % 16)) = some (n.val % 16) ∧ n.val / 16 ≤ 1 ∧ 16 * (n.val / 16) + n.val % 16 = n.val := by decide +kernel
theorem rfTx_esc (l : List UInt8) : ∀ out r, rfTx out (escL l ++ 34 :: r) = some (out ++ l, r) := by
 induction l with
 | nil => intro out r; simp only [escL, List.flatMap_nil, List.nil_append, List.append_nil]; rw [rfTx]; simp
 | cons c t ih =>
  intro out r
  have he : escL (c :: t) ++ 34 :: r = esc1 c ++ (escL t ++ 34 :: r) := by simp [escL]
  rw [he]
  have hfin : ∀ o, o = out ++ [c] → rfTx o (escL t ++ 34 :: r) = some (out ++ c :: t, r) := fun o ho => by
   rw [ih o r, ho]; simp
  generalize escL t ++ 34 :: r = R at hfin ⊢
  unfold esc1
  split
  ·rename_i h
   simp only [List.cons_append, List.nil_append]
   rw [rfTx, if_neg (by decide), if_pos rfl]
   have hu : rfEsc (c :: R) = some (c, R) := by
    unfold rfEsc
    rcases h with rfl | rfl
    ·simp
    ·simp
   split
   ·rename_i x r' e
    rw [hu] at e
    simp only [Option.some.injEq, Prod.mk.injEq] at e
    obtain ⟨rfl, rfl⟩ := e
    exact hfin _ rfl
   ·rename_i e
    rw [hu] at e; cases e
  ·rename_i h
   rw [not_or] at h
   split
   ·rename_i h32
    simp only [List.cons_append, List.nil_append]
    rw [rfTx, if_neg (by decide), if_pos rfl]
    obtain ⟨l1, l2, l3, l4⟩ := low_byteR ⟨c.toNat, h32⟩
    simp only at l1 l2 l3 l4
    have hu : rfEsc (117 :: 48 :: 48 :: hexc (c.toNat / 16) :: hexc (c.toNat % 16) :: R) = some (c, R) := by
     unfold rfEsc
     simp [rfHex, l1, l2, l4]
    split
    ·rename_i x r' e
     rw [hu] at e
     simp only [Option.some.injEq, Prod.mk.injEq] at e
     obtain ⟨rfl, rfl⟩ := e
     exact hfin _ rfl
    ·rename_i e
     rw [hu] at e; cases e
   ·rename_i h32
    simp only [List.cons_append, List.nil_append]
    rw [rfTx, if_neg h.1, if_neg h.2]
    exact hfin _ rfl
theorem rfQ_jq (l r : List UInt8) : rfQ (jq l ++ r) = some (l, r) := by
 unfold rfQ jq
 simp only [List.cons_append, List.append_assoc, List.nil_append, List.drop_succ_cons, List.drop_zero]
 rw [if_pos (by simp), rfTx_esc]
 simp

/-! ### numbers -/
def isdig (c : UInt8) : Bool := decide (48 ≤ c.toNat) && decide (c.toNat ≤ 57)
def rfDig : Nat → Nat → List UInt8 → Nat × List UInt8
  | acc, 0, l => (acc, l)
  | acc, _ + 1, [] => (acc, [])
  | acc, m + 1, c :: r => if isdig c = true then rfDig (acc * 10 + (c.toNat - 48)) m r else (acc, c :: r)
def rfNum (l : List UInt8) : Option (V × List UInt8) :=
  if [45] <+: l then some (⟨3, -((rfDig 0 17 (l.drop 1)).1 : Int), ⟨#[]⟩, [], []⟩, (rfDig 0 17 (l.drop 1)).2)
  else if (rfDig 0 18 l).2.length = l.length then none else some (⟨3, ((rfDig 0 18 l).1 : Int), ⟨#[]⟩, [], []⟩, (rfDig 0 18 l).2)
theorem rfDig_app : ∀ (a : List UInt8) (acc m : Nat) (b : List UInt8), (∀ c ∈ a, isdig c = true) → a.length ≤ m → rfDig acc m (a ++ b) = rfDig (a.foldl (fun x c => x * 10 + (c.toNat - 48)) acc) (m - a.length) b := by
 intro a
 induction a with
 | nil => intro acc m b _ _; rfl
 | cons c a ih =>
  intro acc m b h hl
  obtain ⟨m, rfl⟩ : ∃ m', m = m' + 1 := ⟨m - 1, by simp at hl; omega⟩
  rw [List.cons_append, rfDig, if_pos (h c (List.mem_cons_self ..)), ih _ _ _ (fun x hx => h x (List.mem_cons_of_mem _ hx)) (by simp at hl; omega), List.foldl_cons, List.length_cons, Nat.add_sub_add_right]
theorem rfDig_stop (acc m : Nat) (r : List UInt8) (h : nonum r) : rfDig acc m r = (acc, r) := by
 cases m with
 | zero => rfl
 | succ m =>
  cases r with
  | nil => rfl
  | cons c t =>
   have h1 := h c t rfl
   rw [rfDig, if_neg]
   intro h2
   unfold isnum at h1
   unfold isdig at h2
   rw [h2] at h1
   simp at h1
theorem fold_dec (u : Nat) : (Lib.decDigits u).foldl (fun x c => x * 10 + (c.toNat - 48)) 0 = u := by
 induction u using Nat.strongRecOn with
 | _ u ih =>
  rw [Lib.decDigits]
  split
  ·rename_i h
   simp only [List.foldl_cons, List.foldl_nil, UInt8.toNat_ofNat']
   omega
  ·rename_i h
   rw [List.foldl_append, ih _ (by omega)]
   simp only [List.foldl_cons, List.foldl_nil, UInt8.toNat_ofNat']
   omega
theorem dd_len : ∀ (k u : Nat), u < 10 ^ (k + 1) → (Lib.decDigits u).length ≤ k + 1 := by
 intro k
 induction k with
 | zero =>
  intro u h
  rw [Lib.decDigits, dif_pos (by omega)]
  simp
 | succ k ih =>
  intro u h
  rw [Lib.decDigits]
  split
  ·simp
  ·rw [List.length_append, List.length_singleton]
   have := ih (u / 10) (by rw [Nat.div_lt_iff_lt_mul (by decide), ← Nat.pow_succ]; exact h)
   omega
theorem dig_dec (u : Nat) : ∀ c ∈ Lib.decDigits u, isdig c = true := fun c hc => by
 have := dec_digits u c hc
 unfold isdig
 rw [decide_eq_true this.1, decide_eq_true this.2]
 rfl
theorem rfDig_dec (u m : Nat) (r : List UInt8) (hr : nonum r) (hl : (Lib.decDigits u).length ≤ m) : rfDig 0 m (Lib.decDigits u ++ r) = (u, r) := by
 rw [rfDig_app _ _ _ _ (dig_dec u) hl, fold_dec, rfDig_stop _ _ _ hr]
theorem rfNum_itoa (n : Int) (h0 : -9007199254740992 ≤ n) (h1 : n ≤ 9007199254740992) (r : List UInt8) (hr : nonum r) : rfNum (Lib.itoa n ++ r) = some (⟨3, n, ⟨#[]⟩, [], []⟩, r) := by
 have hd : ∀ u : Nat, u ≤ 9007199254740992 → (Lib.decDigits u).length ≤ 16 := fun u hu => dd_len 15 u (by omega)
 unfold rfNum Lib.itoa
 split
 ·rename_i hn
  rw [if_pos (by simp), List.cons_append, List.drop_succ_cons, List.drop_zero, rfDig_dec _ _ _ hr (Nat.le_trans (hd _ (by omega)) (by decide))]
  simp only []
  rw [show -((n.natAbs : Nat) : Int) = n from by omega]
 ·rename_i hn
  rw [rfDig_dec _ _ _ hr (Nat.le_trans (hd _ (by omega)) (by decide))]
  have hne := dec_ne n.toNat
  rw [if_neg, if_neg]
  ·simp only []
   rw [show ((n.toNat : Nat) : Int) = n from by omega]
  ·simp only [List.length_append]
   have := List.length_pos_iff.2 hne
   omega
  ·intro hp
   obtain ⟨c, t, hc⟩ := List.exists_cons_of_ne_nil hne
   have := dig_dec n.toNat c (by rw [hc]; exact List.mem_cons_self ..)
   rw [hc, List.cons_append, List.cons_prefix_cons] at hp
   rw [← hp.1] at this
   cases this
theorem rfDig_bound : ∀ (l : List UInt8) (acc m : Nat), (rfDig acc m l).2.length ≤ l.length ∧ (rfDig acc m l).1 < (acc + 1) * 10 ^ (l.length - (rfDig acc m l).2.length) ∧ l.length ≤ (rfDig acc m l).2.length + m := by
 intro l
 induction l with
 | nil =>
  intro acc m
  cases m <;> simp [rfDig]
 | cons c r ih =>
  intro acc m
  cases m with
  | zero => simp [rfDig]
  | succ m =>
   rw [rfDig]
   split
   ·rename_i h
    obtain ⟨h1, h2, h3⟩ := ih (acc * 10 + (c.toNat - 48)) m
    generalize rfDig (acc * 10 + (c.toNat - 48)) m r = P at h1 h2 h3 ⊢
    have hc : c.toNat ≤ 57 := by
     unfold isdig at h
     simp only [Bool.and_eq_true, decide_eq_true_eq] at h
     exact h.2
    refine ⟨by rw [List.length_cons]; omega, ?_, by rw [List.length_cons]; omega⟩
    rw [List.length_cons, show r.length + 1 - P.2.length = (r.length - P.2.length) + 1 from by omega, Nat.pow_succ]
    refine Nat.lt_of_lt_of_le h2 ?_
    rw [Nat.mul_comm (10 ^ _) 10, ← Nat.mul_assoc]
    exact Nat.mul_le_mul_right _ (by omega)
   ·simp
theorem rfNum_bound {l r : List UInt8} {v : V} (h : rfNum l = some (v, r)) : (∀ d, (rend (d + 1) v).length + 6 * r.length ≤ 6 * l.length) ∧ r.length ≤ l.length := by
 unfold rfNum at h
 split at h
 ·rename_i hp
  have hpl := hp.length_le
  obtain ⟨h1, h2, h3⟩ := rfDig_bound (l.drop 1) 0 17
  simp only [Option.some.injEq, Prod.mk.injEq] at h
  obtain ⟨rfl, rfl⟩ := h
  generalize rfDig 0 17 (l.drop 1) = P at h1 h2 h3 ⊢
  rw [List.length_drop] at h1 h2 h3
  simp only [List.length_singleton] at hpl
  refine ⟨fun d => ?_, by omega⟩
  show (Lib.itoa (-(P.1 : Int))).length + _ ≤ _
  have hl : (Lib.itoa (-(P.1 : Int))).length ≤ (l.length - P.2.length) + 1 := by
   unfold Lib.itoa
   split
   ·rename_i hn
    rw [show (-(P.1 : Int)).natAbs = P.1 from by omega, List.length_cons]
    obtain ⟨k, hk⟩ : ∃ k, l.length - 1 - P.2.length = k + 1 ∨ l.length - 1 - P.2.length = 0 := by
     cases hq : l.length - 1 - P.2.length with
     | zero => exact ⟨0, Or.inr rfl⟩
     | succ k => exact ⟨k, Or.inl rfl⟩
    rcases hk with hk | hk
    ·rw [hk] at h2
     have := dd_len k P.1 (by omega)
     omega
    ·rw [hk] at h2
     simp at h2
     omega
   ·rename_i hn
    rw [show (-(P.1 : Int)).toNat = 0 from by omega]
    have := dd_len 0 0 (by decide)
    omega
  omega
 ·split at h
  ·cases h
  ·rename_i hne
   obtain ⟨h1, h2, h3⟩ := rfDig_bound l 0 18
   simp only [Option.some.injEq, Prod.mk.injEq] at h
   obtain ⟨rfl, rfl⟩ := h
   generalize rfDig 0 18 l = P at h1 h2 h3 hne ⊢
   refine ⟨fun d => ?_, by omega⟩
   show (Lib.itoa (P.1 : Int)).length + _ ≤ _
   obtain ⟨k, hk⟩ : ∃ k, l.length - P.2.length = k + 1 := ⟨l.length - P.2.length - 1, by omega⟩
   rw [hk] at h2
   have hl : (Lib.itoa (P.1 : Int)).length ≤ k + 1 := by
    unfold Lib.itoa
    rw [if_neg (by omega), Int.toNat_natCast]
    exact dd_len k P.1 (by omega)
   omega

/-! ### values -/
mutual
/-- The value at the front, and what is left. -/
def rfV : Nat → List UInt8 → Option (V × List UInt8)
  | 0, _ => none
  | k + 1, s =>
    if w_null <+: s then some (⟨1, 0, ⟨#[]⟩, [], []⟩, s.drop 4)
    else if w_true <+: s then some (⟨2, 1, ⟨#[]⟩, [], []⟩, s.drop 4)
    else if w_false <+: s then some (⟨2, 0, ⟨#[]⟩, [], []⟩, s.drop 5)
    else if [34] <+: s then (rfQ s).map fun p => (⟨4, 0, ba p.1, [], []⟩, p.2)
    else if [91] <+: s then rfRow k false (s.drop 1)
    else if [123] <+: s then rfRow k true (s.drop 1)
    else rfNum s
/-- behind the opening bracket -/
def rfRow : Nat → Bool → List UInt8 → Option (V × List UInt8)
  | 0, _, _ => none
  | k + 1, obj, s => if [endc obj] <+: s then some (⟨kindc obj, 0, ⟨#[]⟩, [], []⟩, s.drop 1) else rfItems k obj [] [] s
/-- the values that are left; ls, ks: what has been read -/
def rfItems : Nat → Bool → List V → List ByteArray → List UInt8 → Option (V × List UInt8)
  | 0, _, _, _, _ => none
  | k + 1, true, ls, ks, s =>
    match rfQ s with
    | some (t, r) => if [58] <+: r then rfItem k true ls (ks ++ [ba t]) (r.drop 1) else none
    | none => none
  | k + 1, false, ls, ks, s => rfItem k false ls ks s
def rfItem : Nat → Bool → List V → List ByteArray → List UInt8 → Option (V × List UInt8)
  | 0, _, _, _, _ => none
  | k + 1, obj, ls, ks, s =>
    match rfV k s with
    | some (x, r) =>
      if [endc obj] <+: r then some (⟨kindc obj, 0, ⟨#[]⟩, ls ++ [x], ks⟩, r.drop 1)
      else if [44] <+: r then rfItems k obj (ls ++ [x]) ks (r.drop 1)
      else none
    | none => none
end

/-- the values of a list, one after another -/
theorem rf_list (d : Nat) (IH : ∀ v : V, fitsB d v = true → ∀ k r, 4 * (rend d v ++ r).length + 4 ≤ k → nonum r → rfV k (rend d v ++ r) = some (v, r)) :
  ∀ (l ls : List V), l ≠ [] → (∀ x ∈ l, fitsB d x = true) → ∀ k r, 4 * (commas (l.map (rend d)) ++ 93 :: r).length + 6 ≤ k → rfItems k false ls [] (commas (l.map (rend d)) ++ 93 :: r) = some (⟨5, 0, ⟨#[]⟩, ls ++ l, []⟩, r) := by
 intro l
 induction l with
 | nil => intro ls h; exact absurd rfl h
 | cons v t ih =>
  intro ls _ hf k r hk
  have hv := hf v (List.mem_cons_self ..)
  rw [List.map_cons, commas_cons] at hk ⊢
  obtain ⟨k, rfl⟩ : ∃ k', k = k' + 2 := ⟨k - 2, by omega⟩
  rw [rfItems, rfItem]
  by_cases ht : t = []
  ·subst ht
   simp only [List.map_nil, if_true, List.append_nil] at hk ⊢
   have hr : nonum (93 :: r) := fun c u e => by injection e with e1 _; subst e1; decide
   rw [IH v hv k (93 :: r) (by omega) hr]
   show (if [endc false] <+: 93 :: r then _ else _) = _
   rw [if_pos (show [endc false] <+: 93 :: r from pre1 93 r)]
   rfl
  ·have hm : t.map (rend d) ≠ [] := by simpa using ht
   rw [if_neg hm] at hk ⊢
   have ha : rend d v ++ 44 :: commas (t.map (rend d)) ++ 93 :: r = rend d v ++ (44 :: (commas (t.map (rend d)) ++ 93 :: r)) := by simp
   rw [ha] at hk ⊢
   have hr : nonum (44 :: (commas (t.map (rend d)) ++ 93 :: r)) := fun c u e => by injection e with e1 _; subst e1; decide
   rw [IH v hv k _ (by omega) hr]
   show (if [endc false] <+: 44 :: _ then _ else _) = _
   rw [if_neg (npre1 (c := endc false) _ (by decide)), if_pos (pre1 44 _)]
   have := ih (ls ++ [v]) ht (fun x hx => hf x (List.mem_cons_of_mem _ hx)) k r (by
    rw [List.length_append, List.length_cons] at hk
    omega)
   rw [List.drop_succ_cons, List.drop_zero, this]
   simp
theorem rf_obj (d : Nat) (IH : ∀ v : V, fitsB d v = true → ∀ k r, 4 * (rend d v ++ r).length + 4 ≤ k → nonum r → rfV k (rend d v ++ r) = some (v, r)) :
  ∀ (l ls : List V) (ks kk : List ByteArray), l ≠ [] → ks.length = l.length → (∀ x ∈ l, fitsB d x = true) → ∀ k r, 4 * (commas (List.zipWith (fun k x => jq (bl k) ++ 58 :: rend d x) ks l) ++ 125 :: r).length + 6 ≤ k →
   rfItems k true ls kk (commas (List.zipWith (fun k x => jq (bl k) ++ 58 :: rend d x) ks l) ++ 125 :: r) = some (⟨6, 0, ⟨#[]⟩, ls ++ l, kk ++ ks⟩, r) := by
 intro l
 induction l with
 | nil => intro ls ks kk h; exact absurd rfl h
 | cons v t ih =>
  intro ls ks kk _ hl hf k r hk
  obtain ⟨q, ks, rfl⟩ : ∃ q ks', ks = q :: ks' := by cases ks with | nil => simp at hl | cons q ks => exact ⟨q, ks, rfl⟩
  simp only [List.length_cons, Nat.add_right_cancel_iff] at hl
  have hv := hf v (List.mem_cons_self ..)
  rw [List.zipWith_cons_cons, commas_cons] at hk ⊢
  obtain ⟨k, rfl⟩ : ∃ k', k = k' + 2 := ⟨k - 2, by omega⟩
  by_cases ht : t = []
  ·subst ht
   have : ks = [] := by simpa using hl
   subst this
   simp only [List.zipWith_nil_right, if_true, List.append_nil] at hk ⊢
   have ha : jq (bl q) ++ 58 :: rend d v ++ 125 :: r = jq (bl q) ++ (58 :: (rend d v ++ 125 :: r)) := by simp
   rw [ha] at hk ⊢
   rw [rfItems, rfQ_jq]
   show (if [58] <+: 58 :: _ then _ else _) = _
   rw [if_pos (pre1 58 _), List.drop_succ_cons, List.drop_zero, rfItem]
   have hr : nonum (125 :: r) := fun c u e => by injection e with e1 _; subst e1; decide
   rw [IH v hv k (125 :: r) (by rw [List.length_append, List.length_cons] at hk; omega) hr]
   show (if [endc true] <+: 125 :: r then _ else _) = _
   rw [if_pos (show [endc true] <+: 125 :: r from pre1 125 r)]
   simp [kindc]
  ·have hm : List.zipWith (fun k x => jq (bl k) ++ 58 :: rend d x) ks t ≠ [] := by
    intro e
    have := congrArg List.length e
    rw [List.length_zipWith, hl] at this
    simp at this
    exact ht this
   rw [if_neg hm] at hk ⊢
   have ha : ∀ Z, jq (bl q) ++ 58 :: rend d v ++ 44 :: Z ++ 125 :: r = jq (bl q) ++ (58 :: (rend d v ++ (44 :: (Z ++ 125 :: r)))) := fun Z => by simp
   rw [ha] at hk ⊢
   rw [rfItems, rfQ_jq]
   show (if [58] <+: 58 :: _ then _ else _) = _
   rw [if_pos (pre1 58 _), List.drop_succ_cons, List.drop_zero, rfItem]
   have hr : nonum (44 :: (commas (List.zipWith (fun k x => jq (bl k) ++ 58 :: rend d x) ks t) ++ 125 :: r)) := fun c u e => by injection e with e1 _; subst e1; decide
   rw [IH v hv k _ (by rw [List.length_append, List.length_cons] at hk; omega) hr]
   show (if [endc true] <+: 44 :: _ then _ else _) = _
   rw [if_neg (npre1 (c := endc true) _ (by decide)), if_pos (pre1 44 _)]
   have := ih (ls ++ [v]) ks (kk ++ [q]) ht hl (fun x hx => hf x (List.mem_cons_of_mem _ hx)) k r (by
    rw [List.length_append, List.length_cons, List.length_append, List.length_cons] at hk
    omega)
   rw [List.drop_succ_cons, List.drop_zero, show (ba (bl q)) = q from ba_bl q, this]
   simp


theorem rfV_rend : ∀ (d : Nat) (v : V), fitsB d v = true → ∀ k r, 4 * (rend d v ++ r).length + 4 ≤ k → nonum r → rfV k (rend d v ++ r) = some (v, r) := by
 intro d
 induction d with
 | zero => intro v h; simp [fitsB] at h
 | succ d IH =>
  intro v h k r hk hr
  obtain ⟨⟨p0, p1⟩, hb, hkeys, hl⟩ := fits_succ h
  obtain ⟨k, rfl⟩ : ∃ k', k = k' + 2 := ⟨k - 2, by omega⟩
  unfold bareB at hb
  simp only [Bool.and_eq_true, Bool.or_eq_true, beq_iff_eq, decide_eq_true_eq] at hb
  obtain ⟨⟨⟨hb1, hb2⟩, hb3⟩, hb4⟩ := hb
  rw [rend] at hk ⊢
  by_cases c1 : v.f0 = 1
  ·rw [if_pos c1]
   have hvv : v = ⟨1, 0, ⟨#[]⟩, [], []⟩ := ext_V c1 (by omega) (ba_empty (by omega)) (List.eq_nil_of_length_eq_zero (by omega)) (List.eq_nil_of_length_eq_zero (by rw [if_neg (by omega)] at hkeys; simpa using hkeys))
   rw [rfV, if_pos (List.prefix_append ..), hvv]
   rfl
  by_cases c2 : v.f0 = 2
  ·rw [if_neg c1, if_pos c2]
   have hg : ∀ b, v.f1 = b → v = ⟨2, b, ⟨#[]⟩, [], []⟩ := fun b hb => ext_V c2 hb (ba_empty (by omega)) (List.eq_nil_of_length_eq_zero (by omega)) (List.eq_nil_of_length_eq_zero (by rw [if_neg (by omega)] at hkeys; simpa using hkeys))
   by_cases e1 : v.f1 = 1
   ·rw [if_pos e1, rfV, if_neg (by simp [w_true, w_null]), if_pos (List.prefix_append ..), hg 1 e1]
    rfl
   ·rw [if_neg e1, rfV, if_neg (by simp [w_false, w_null]), if_neg (by simp [w_false, w_true]), if_pos (List.prefix_append ..), hg 0 (by omega)]
    rfl
  by_cases c3 : v.f0 = 3
  ·rw [if_neg c1, if_neg c2, if_pos c3]
   have hvv : v = ⟨3, v.f1, ⟨#[]⟩, [], []⟩ := ext_V c3 rfl (ba_empty (by omega)) (List.eq_nil_of_length_eq_zero (by omega)) (List.eq_nil_of_length_eq_zero (by rw [if_neg (by omega)] at hkeys; simpa using hkeys))
   obtain ⟨c, t, hc⟩ := List.exists_cons_of_ne_nil (itoa_ne v.f1)
   have hn := itoa_mem v.f1 c (by rw [hc]; exact List.mem_cons_self ..)
   have hx : ∀ (x : UInt8) (q : List UInt8), isnum x = false → ¬ (x :: q) <+: Lib.itoa v.f1 ++ r := fun x q hx hp => by
    rw [hc, List.cons_append, List.cons_prefix_cons] at hp
    rw [hp.1, hn] at hx
    cases hx
   have hrn := rfNum_itoa v.f1 (by omega) (by omega) r hr
   rw [rfV, if_neg (show ¬ w_null <+: _ from hx 110 _ (by decide)), if_neg (show ¬ w_true <+: _ from hx 116 _ (by decide)), if_neg (show ¬ w_false <+: _ from hx 102 _ (by decide)), if_neg (hx 34 _ (by decide)), if_neg (hx 91 _ (by decide)), if_neg (hx 123 _ (by decide)), hrn]
   exact congrArg (fun z => some (z, r)) hvv.symm
  by_cases c4 : v.f0 = 4
  ·rw [if_neg c1, if_neg c2, if_neg c3, if_pos c4]
   have hvv : v = ⟨4, 0, v.f2, [], []⟩ := ext_V c4 (by omega) rfl (List.eq_nil_of_length_eq_zero (by omega)) (List.eq_nil_of_length_eq_zero (by rw [if_neg (by omega)] at hkeys; simpa using hkeys))
   rw [rfV, if_neg (by simp [w_null, jq]), if_neg (by simp [w_true, jq]), if_neg (by simp [w_false, jq]), if_pos (by simp [jq]), rfQ_jq]
   simp only [Option.map_some, ba_bl]
   exact congrArg (fun z => some (z, r)) hvv.symm
  by_cases c5 : v.f0 = 5
  ·rw [if_neg c1, if_neg c2, if_neg c3, if_neg c4, if_pos c5] at hk ⊢
   have hvv : v = ⟨5, 0, ⟨#[]⟩, v.f3, []⟩ := ext_V c5 (by omega) (ba_empty (by omega)) rfl (List.eq_nil_of_length_eq_zero (by rw [if_neg (by omega)] at hkeys; simpa using hkeys))
   have ha : 91 :: (commas (v.f3.map (rend d)) ++ [93]) ++ r = 91 :: (commas (v.f3.map (rend d)) ++ 93 :: r) := by simp
   rw [ha] at hk ⊢
   rw [rfV, if_neg (by simp [w_null]), if_neg (by simp [w_true]), if_neg (by simp [w_false]), if_neg (npre1 _ (by decide)), if_pos (pre1 ..), List.drop_succ_cons, List.drop_zero, rfRow]
   by_cases hn : v.f3 = []
   ·rw [hn]
    show (if [endc false] <+: 93 :: r then _ else _) = _
    rw [if_pos (show [endc false] <+: 93 :: r from pre1 93 r), hvv, hn]
    rfl
   ·have hh : ¬ [endc false] <+: commas (v.f3.map (rend d)) ++ 93 :: r := by
     cases hq : v.f3 with
     | nil => exact absurd hq hn
     | cons x t => exact items_head d x t (hl x (by rw [hq]; exact List.mem_cons_self ..)) _
    rw [if_neg hh, rf_list d (fun v hv k r => IH v hv k r) v.f3 [] hn hl k r (by rw [List.length_cons] at hk; omega)]
    exact congrArg (fun z => some (z, r)) hvv.symm
  ·have c6 : v.f0 = 6 := by omega
   rw [if_neg c1, if_neg c2, if_neg c3, if_neg c4, if_neg c5, if_pos c6] at hk ⊢
   rw [if_pos c6, Bool.and_eq_true] at hkeys
   have hkl : v.f4.length = v.f3.length := by simpa using hkeys.1
   have hvv : v = ⟨6, 0, ⟨#[]⟩, v.f3, v.f4⟩ := ext_V c6 (by omega) (ba_empty (by omega)) rfl rfl
   have ha : ∀ Z, 123 :: (Z ++ [(125 : UInt8)]) ++ r = 123 :: (Z ++ 125 :: r) := fun Z => by simp
   rw [ha] at hk ⊢
   rw [rfV, if_neg (by simp [w_null]), if_neg (by simp [w_true]), if_neg (by simp [w_false]), if_neg (npre1 _ (by decide)), if_neg (npre1 _ (by decide)), if_pos (pre1 ..), List.drop_succ_cons, List.drop_zero, rfRow]
   by_cases hn : v.f3 = []
   ·have hn4 : v.f4 = [] := List.eq_nil_of_length_eq_zero (by rw [hkl, hn]; rfl)
    rw [hn, hn4]
    show (if [endc true] <+: 125 :: r then _ else _) = _
    rw [if_pos (show [endc true] <+: 125 :: r from pre1 125 r), hvv, hn, hn4]
    rfl
   ·have hh : ¬ [endc true] <+: commas (List.zipWith (fun k x => jq (bl k) ++ 58 :: rend d x) v.f4 v.f3) ++ 125 :: r := by
     cases hq : v.f3 with
     | nil => exact absurd hq hn
     | cons x t =>
      cases hq4 : v.f4 with
      | nil => rw [hq, hq4] at hkl; simp at hkl
      | cons y u => rw [List.zipWith_cons_cons, commas_cons]; simp [jq, endc]
    rw [if_neg hh, rf_obj d (fun v hv k r => IH v hv k r) v.f3 [] v.f4 [] hn hkl hl k r (by rw [List.length_cons] at hk; omega)]
    exact congrArg (fun z => some (z, r)) hvv.symm

theorem rf_bound : ∀ k,
  (∀ s v r, rfV k s = some (v, r) → (∀ d, (rend d v).length + 6 * r.length ≤ 6 * s.length) ∧ r.length ≤ s.length) ∧
  (∀ obj s v r, rfRow k obj s = some (v, r) → (∀ d, (rend d v).length + 6 * r.length ≤ 6 * s.length + 6) ∧ r.length ≤ s.length) ∧
  (∀ obj ls ks s v r, (obj = true → ks.length = ls.length) → rfItems k obj ls ks s = some (v, r) → (∀ d, (rend (d + 1) v).length + 6 * r.length ≤ (commas (partsB d obj ls ks)).length + 6 * s.length) ∧ r.length ≤ s.length) ∧
  (∀ ls ks s v r, rfItem k false ls ks s = some (v, r) → (∀ d, (rend (d + 1) v).length + 6 * r.length ≤ (commas (partsB d false ls ks)).length + 6 * s.length) ∧ r.length ≤ s.length) ∧
  (∀ ls ks t s v r, ks.length = ls.length → rfItem k true ls (ks ++ [t]) s = some (v, r) → (∀ d, (rend (d + 1) v).length + 6 * r.length ≤ (commas (partsB d true ls ks)).length + (jq (bl t)).length + 1 + 6 * s.length) ∧ r.length ≤ s.length) := by
 intro k
 induction k with
 | zero =>
  refine ⟨?_, ?_, ?_, ?_, ?_⟩
  ·intro s v r h; rw [rfV] at h; cases h
  ·intro obj s v r h; rw [rfRow] at h; cases h
  ·intro obj ls ks s v r _ h; rw [rfItems] at h; cases h
  ·intro ls ks s v r h; rw [rfItem] at h; cases h
  ·intro ls ks t s v r _ h; rw [rfItem] at h; cases h
 | succ k ih =>
  obtain ⟨ihV, ihR, ihI, ihL, ihO⟩ := ih
  refine ⟨?_, ?_, ?_, ?_, ?_⟩
  ·intro s v r h
   rw [rfV] at h
   split at h
   ·rename_i hp
    have := pre_len hp
    simp only [w_null, List.length_cons, List.length_nil] at this
    simp only [Option.some.injEq, Prod.mk.injEq] at h
    obtain ⟨rfl, rfl⟩ := h
    refine ⟨fun d => ?_, by rw [List.length_drop]; omega⟩
    cases d with
    | zero => exact rend0_len 0 (by rw [List.length_drop]; omega) _
    | succ d => show w_null.length + _ ≤ _; rw [List.length_drop]; simp only [w_null, List.length_cons, List.length_nil]; omega
   ·split at h
    ·rename_i hp
     have := pre_len hp
     simp only [w_true, List.length_cons, List.length_nil] at this
     simp only [Option.some.injEq, Prod.mk.injEq] at h
     obtain ⟨rfl, rfl⟩ := h
     refine ⟨fun d => ?_, by rw [List.length_drop]; omega⟩
     cases d with
     | zero => exact rend0_len 0 (by rw [List.length_drop]; omega) _
     | succ d => show w_true.length + _ ≤ _; rw [List.length_drop]; simp only [w_true, List.length_cons, List.length_nil]; omega
    ·split at h
     ·rename_i hp
      have := pre_len hp
      simp only [w_false, List.length_cons, List.length_nil] at this
      simp only [Option.some.injEq, Prod.mk.injEq] at h
      obtain ⟨rfl, rfl⟩ := h
      refine ⟨fun d => ?_, by rw [List.length_drop]; omega⟩
      cases d with
      | zero => exact rend0_len 0 (by rw [List.length_drop]; omega) _
      | succ d => show w_false.length + _ ≤ _; rw [List.length_drop]; simp only [w_false, List.length_cons, List.length_nil]; omega
     ·split at h
      ·rw [Option.map_eq_some_iff] at h
       obtain ⟨⟨t, r'⟩, hq, he⟩ := h
       simp only [Prod.mk.injEq] at he
       obtain ⟨rfl, rfl⟩ := he
       have hb := rfQ_bound hq
       refine ⟨fun d => ?_, hb.2⟩
       cases d with
       | zero => exact rend0_len 0 hb.2 _
       | succ d => show (jq (bl (ba t))).length + _ ≤ _; rw [bl_ba]; exact hb.1
      ·split at h
       ·rename_i hp
        have h1 := pre_len hp
        have h2 := ihR false _ _ _ h
        rw [List.length_drop] at h2
        simp only [List.length_singleton] at h1
        exact ⟨fun d => by have := h2.1 d; omega, by omega⟩
       ·split at h
        ·rename_i hp
         have h1 := pre_len hp
         have h2 := ihR true _ _ _ h
         rw [List.length_drop] at h2
         simp only [List.length_singleton] at h1
         exact ⟨fun d => by have := h2.1 d; omega, by omega⟩
        ·have hl := rfNum_bound h
         refine ⟨fun d => ?_, hl.2⟩
         cases d with
         | zero => exact rend0_len 0 hl.2 _
         | succ d => exact hl.1 d
  ·intro obj s v r h
   rw [rfRow] at h
   split at h
   ·rename_i hp
    have h1 := pre_len hp
    simp only [List.length_singleton] at h1
    simp only [Option.some.injEq, Prod.mk.injEq] at h
    obtain ⟨rfl, rfl⟩ := h
    rw [List.length_drop]
    refine ⟨fun d => ?_, by omega⟩
    cases d with
    | zero => show 0 + _ ≤ _; omega
    | succ d =>
     rw [rendB_row]
     have : (commas (partsB d obj [] [])).length = 0 := by cases obj <;> rfl
     omega
   ·have h2 := ihI obj [] [] s v r (fun _ => rfl) h
    refine ⟨fun d => ?_, h2.2⟩
    cases d with
    | zero => show 0 + _ ≤ _; omega
    | succ d =>
     have h3 := h2.1 d
     have : (commas (partsB d obj [] [])).length = 0 := by cases obj <;> rfl
     omega
  ·intro obj ls ks s v r hk h
   cases obj with
   | true =>
    rw [rfItems] at h
    split at h
    ·rename_i t r' hq
     split at h
     ·rename_i hp
      have h1 := pre_len hp
      simp only [List.length_singleton] at h1
      have hb := rfQ_bound hq
      have h2 := ihO ls ks (ba t) _ v r (hk rfl) h
      rw [bl_ba, List.length_drop] at h2
      exact ⟨fun d => by have := h2.1 d; omega, by omega⟩
     ·cases h
    ·cases h
   | false =>
    rw [rfItems] at h
    exact ihL ls ks s v r h
  ·intro ls ks s v r h
   rw [rfItem] at h
   split at h
   ·rename_i x r' hx
    have hv := ihV _ _ _ hx
    split at h
    ·rename_i hp
     have h1 := pre_len hp
     simp only [List.length_singleton] at h1
     simp only [Option.some.injEq, Prod.mk.injEq] at h
     obtain ⟨rfl, rfl⟩ := h
     rw [List.length_drop]
     refine ⟨fun d => ?_, by omega⟩
     rw [rendB_row, partsB_list]
     have h3 := commas_snoc (partsB d false ls ks) (rend d x)
     have h4 := hv.1 d
     omega
    ·split at h
     ·rename_i hp
      have h1 := pre_len hp
      simp only [List.length_singleton] at h1
      have h2 := ihI false (ls ++ [x]) ks _ v r (fun e => by cases e) h
      rw [List.length_drop] at h2
      refine ⟨fun d => ?_, by omega⟩
      have h3 := commas_snoc (partsB d false ls ks) (rend d x)
      have h4 := hv.1 d
      have h5 := h2.1 d
      rw [partsB_list] at h5
      omega
     ·cases h
   ·cases h
  ·intro ls ks t s v r hk h
   rw [rfItem] at h
   split at h
   ·rename_i x r' hx
    have hv := ihV _ _ _ hx
    split at h
    ·rename_i hp
     have h1 := pre_len hp
     simp only [List.length_singleton] at h1
     simp only [Option.some.injEq, Prod.mk.injEq] at h
     obtain ⟨rfl, rfl⟩ := h
     rw [List.length_drop]
     refine ⟨fun d => ?_, by omega⟩
     rw [rendB_row, partsB_obj d ls ks x t hk]
     have h3 := commas_snoc (partsB d true ls ks) (jq (bl t) ++ 58 :: rend d x)
     have h4 := hv.1 d
     simp only [List.length_append, List.length_cons] at h3
     omega
    ·split at h
     ·rename_i hp
      have h1 := pre_len hp
      simp only [List.length_singleton] at h1
      have h2 := ihI true (ls ++ [x]) (ks ++ [t]) _ v r (fun _ => by simp [hk]) h
      rw [List.length_drop] at h2
      refine ⟨fun d => ?_, by omega⟩
      have h3 := commas_snoc (partsB d true ls ks) (jq (bl t) ++ 58 :: rend d x)
      have h4 := hv.1 d
      have h5 := h2.1 d
      rw [partsB_obj d ls ks x t hk] at h5
      simp only [List.length_append, List.length_cons] at h3
      omega
     ·cases h
   ·cases h

end Go.Proofs.YtifejhbochkifaaGreatDoor.X
