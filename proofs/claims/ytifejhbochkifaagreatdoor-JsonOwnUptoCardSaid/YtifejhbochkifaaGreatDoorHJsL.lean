/- JSON in plain Lean: a text of a value that fits is read as it. -/
import Derived.Test.YtifejhbochkifaaGreatDoorHJs
import Derived.Lib.AtoiTie
namespace Go.Proofs.YtifejhbochkifaaGreatDoor.X
open Go.RowKit Go.Proofs.YtifejhbochkifaaGreatDoorW.PrintWords Go.Proofs.YtifejhbochkifaaGreatDoor.Spec
set_option linter.unusedVariables false
set_option linter.unusedSimpArgs false

theorem dec_digits (u : Nat) : ∀ x ∈ Lib.decDigits u, 48 ≤ x.toNat ∧ x.toNat ≤ 57 := by
 induction u using Nat.strongRecOn with
 | _ u ih =>
  intro x hx
  rw [Lib.decDigits] at hx
  split at hx
  ·rename_i h
   obtain rfl := List.mem_singleton.1 hx
   rw [UInt8.toNat_ofNat']
   omega
  ·rename_i h
   rcases List.mem_append.1 hx with hx | hx
   ·exact ih (u / 10) (by omega) x hx
   ·obtain rfl := List.mem_singleton.1 hx
    rw [UInt8.toNat_ofNat']
    omega
theorem dec_ne (u : Nat) : Lib.decDigits u ≠ [] := by
 rw [Lib.decDigits]
 split <;> simp
theorem parse_append (a b : List UInt8) : ∀ acc, Lib.parseUint10 acc (a ++ b) = match Lib.parseUint10 acc a with | .ok x => Lib.parseUint10 x b | .«syntax» => .«syntax» | .range => .range := by
 induction a with
 | nil => intro acc; simp [Lib.parseUint10]
 | cons c r ih =>
  intro acc
  simp only [List.cons_append, Lib.parseUint10]
  by_cases h1 : 48 ≤ c.toNat ∧ c.toNat ≤ 57
  ·rw [if_pos h1, if_pos h1]
   by_cases h2 : 1844674407370955162 ≤ acc
   ·rw [if_pos h2, if_pos h2]
   ·rw [if_neg h2, if_neg h2]
    by_cases h3 : 18446744073709551616 ≤ acc * 10 + (c.toNat - 48)
    ·rw [if_pos h3, if_pos h3]
    ·rw [if_neg h3, if_neg h3]; exact ih _
  ·rw [if_neg h1, if_neg h1]
theorem parse_dec (u : Nat) : u < 18446744073709551616 → Lib.parseUint10 0 (Lib.decDigits u) = .ok u := by
 induction u using Nat.strongRecOn with
 | _ u ih =>
  intro hu
  rw [Lib.decDigits]
  have hd : ∀ d, d < 10 → (UInt8.ofNat (48 + d)).toNat = 48 + d := fun d hd => by rw [UInt8.toNat_ofNat']; omega
  split
  ·rename_i h
   simp only [Lib.parseUint10]
   rw [hd u h, if_pos (by omega), if_neg (by omega), if_neg (by omega)]
   congr 1; omega
  ·rename_i h
   rw [parse_append, ih (u / 10) (by omega) (by omega)]
   simp only [Lib.parseUint10]
   rw [hd (u % 10) (by omega), if_pos (by omega), if_neg (by omega), if_neg (by omega)]
   congr 1; omega
theorem parse_itoa (n : Int) (h0 : -9223372036854775808 ≤ n) (h1 : n ≤ 9223372036854775807) : Lib.parseIntB 64 (Lib.itoa n) = .ok n := by
 rw [Lib.parseIntB_64]
 unfold Lib.itoa
 split
 ·rename_i hn
  rw [Lib.atoiAll_minus]
  unfold Lib.parseMag
  rw [if_neg (dec_ne _), parse_dec _ (by omega)]
  simp only [Lib.signed]
  rw [if_neg (by omega)]
  congr 1; omega
 ·rename_i hn
  obtain ⟨c, r, hc⟩ := List.exists_cons_of_ne_nil (dec_ne n.toNat)
  have hd := dec_digits n.toNat c (by rw [hc]; exact List.mem_cons_self ..)
  rw [hc, Lib.atoiAll_plain c r (by omega) (by omega), ← hc]
  unfold Lib.parseMag
  rw [if_neg (dec_ne _), parse_dec _ (by omega)]
  simp only [Lib.signless]
  rw [if_neg (by omega)]
  congr 1; omega
theorem itoa_mem (n : Int) : ∀ x ∈ Lib.itoa n, isnum x = true := by
 intro x hx
 have h : x.toNat = 45 ∨ 48 ≤ x.toNat ∧ x.toNat ≤ 57 := by
  unfold Lib.itoa at hx
  split at hx
  ·rcases List.mem_cons.1 hx with rfl | hx
   ·exact .inl rfl
   ·exact .inr (dec_digits _ x hx)
  ·exact .inr (dec_digits _ x hx)
 unfold isnum
 rcases h with h | h
 ·have : x = 45 := UInt8.toNat_inj.1 h
  subst this; rfl
 ·simp [h.1, h.2]
theorem itoa_ne (n : Int) : Lib.itoa n ≠ [] := by
 unfold Lib.itoa
 split
 ·simp
 ·exact dec_ne _
/-- what may stand behind a value: nothing that a number goes on with -/
def nonum (r : List UInt8) : Prop := ∀ c t, r = c :: t → isnum c = false
theorem take_num {a r : List UInt8} (ha : ∀ x ∈ a, isnum x = true) (hr : nonum r) : (a ++ r).takeWhile isnum = a := by
 induction a with
 | nil =>
  cases r with
  | nil => rfl
  | cons c t => simp [hr c t rfl]
 | cons c t ih =>
  rw [List.cons_append, List.takeWhile_cons, if_pos (ha c (List.mem_cons_self ..)), ih (fun x hx => ha x (List.mem_cons_of_mem _ hx))]
theorem readNum_itoa (n : Int) (h0 : -9223372036854775808 ≤ n) (h1 : n ≤ 9223372036854775807) (r : List UInt8) (hr : nonum r) : readNum (Lib.itoa n ++ r) = some (⟨3, n, ⟨#[]⟩, [], []⟩, r) := by
 unfold readNum
 rw [take_num (itoa_mem n) hr, parse_itoa n h0 h1]
 simp

/-! ### texts -/
theorem hexd_hexc : ∀ n : Fin 16, hexd (hexc n.val) = some n.val := by decide +kernel
theorem low_byte : ∀ n : Fin 32, hexd (hexc (n.val / 16)) = some (n.val / 16) ∧ hexd (hexc (n.val % 16)) = some (n.val % 16) ∧ n.val / 16 ≤ 1 ∧ 16 * (n.val / 16) + n.val % 16 = n.val := by decide +kernel
theorem readTx_esc (l : List UInt8) : ∀ out r, readTx out (escL l ++ 34 :: r) = some (out ++ l, r) := by
 induction l with
 | nil => intro out r; simp only [escL, List.flatMap_nil, List.nil_append, List.append_nil]; rw [readTx]; simp
 | cons c t ih =>
  intro out r
  have he : escL (c :: t) ++ 34 :: r = esc1 c ++ (escL t ++ 34 :: r) := by simp [escL]
  rw [he]
  have hfin : ∀ o, o = out ++ [c] → readTx o (escL t ++ 34 :: r) = some (out ++ c :: t, r) := fun o ho => by
   rw [ih o r, ho]; simp
  generalize escL t ++ 34 :: r = R at hfin ⊢
  unfold esc1
  split
  ·rename_i h
   simp only [List.cons_append, List.nil_append]
   rw [readTx, if_neg (by decide), if_pos rfl]
   have hu : unesc (c :: R) = some (c, R) := by
    unfold unesc
    rcases h with rfl | rfl
    ·simp
    ·simp
   split
   ·rename_i x r' e
    rw [hu] at e
    simp only [Option.some.injEq, Prod.mk.injEq] at e
    obtain ⟨rfl, rfl⟩ := e
    exact hfin _ rfl
   ·rename_i e
    rw [hu] at e; cases e
  ·rename_i h
   rw [not_or] at h
   split
   ·rename_i h32
    simp only [List.cons_append, List.nil_append]
    rw [readTx, if_neg (by decide), if_pos rfl]
    obtain ⟨l1, l2, l3, l4⟩ := low_byte ⟨c.toNat, h32⟩
    simp only at l1 l2 l3 l4
    have hu : unesc (117 :: 48 :: 48 :: hexc (c.toNat / 16) :: hexc (c.toNat % 16) :: R) = some (c, R) := by
     unfold unesc
     simp [unhex, l1, l2, l3, l4]
    split
    ·rename_i x r' e
     rw [hu] at e
     simp only [Option.some.injEq, Prod.mk.injEq] at e
     obtain ⟨rfl, rfl⟩ := e
     exact hfin _ rfl
    ·rename_i e
     rw [hu] at e; cases e
   ·rename_i h32
    simp only [List.cons_append, List.nil_append]
    rw [readTx, if_neg h.1, if_neg h.2, if_neg h32]
    exact hfin _ rfl
theorem readQ_jq (l r : List UInt8) : readQ (jq l ++ r) = some (l, r) := by
 unfold readQ jq
 simp only [List.cons_append, List.append_assoc, List.nil_append, List.drop_succ_cons, List.drop_zero]
 rw [if_pos (by simp), readTx_esc]
 simp

/-! ### values -/
theorem fits_succ {d : Nat} {v : V} (h : fitsB (d + 1) v = true) : (1 ≤ v.f0 ∧ v.f0 ≤ 6) ∧ bareB v = true ∧ (if v.f0 = 6 then v.f4.length == v.f3.length && decide v.f4.Nodup else v.f4.length == 0) = true ∧ ∀ x ∈ v.f3, fitsB d x = true := by
 unfold fitsB at h
 simp only [Bool.and_eq_true, decide_eq_true_eq, List.all_eq_true] at h
 exact ⟨⟨h.1.1.1.1, h.1.1.1.2⟩, h.1.1.2, h.1.2, h.2⟩
theorem fits_pos {d : Nat} {v : V} (h : fitsB d v = true) : ∃ e, d = e + 1 := by
 cases d with
 | zero => simp [fitsB] at h
 | succ e => exact ⟨e, rfl⟩
theorem ext_V {v : V} {a b : Int} {t : ByteArray} {l : List V} {k : List ByteArray} (h0 : v.f0 = a) (h1 : v.f1 = b) (h2 : v.f2 = t) (h3 : v.f3 = l) (h4 : v.f4 = k) : v = ⟨a, b, t, l, k⟩ := by
 cases v; simp_all
theorem ba_empty {s : ByteArray} (h : s.size = 0) : s = ⟨#[]⟩ := by
 apply ByteArray.ext
 exact Array.eq_empty_of_size_eq_zero h
/-- a text of a value does not begin as an end, nor as a comma -/
theorem rend_head {d : Nat} {v : V} (h : fitsB d v = true) : ∃ c t, rend d v = c :: t ∧ c ≠ 93 ∧ c ≠ 125 ∧ c ≠ 44 := by
 obtain ⟨d, rfl⟩ := fits_pos h
 unfold rend
 split
 ·exact ⟨_, _, rfl, by decide, by decide, by decide⟩
 ·split
  ·split <;> exact ⟨_, _, rfl, by decide, by decide, by decide⟩
  ·split
   ·obtain ⟨c, t, hc⟩ := List.exists_cons_of_ne_nil (itoa_ne v.f1)
    have hn := itoa_mem v.f1 c (by rw [hc]; exact List.mem_cons_self ..)
    refine ⟨c, t, hc, ?_, ?_, ?_⟩ <;> (rintro rfl; exact absurd hn (by decide))
   ·split
    ·exact ⟨_, _, rfl, by decide, by decide, by decide⟩
    ·split <;> exact ⟨_, _, rfl, by decide, by decide, by decide⟩
theorem commas_cons (x : List UInt8) (l : List (List UInt8)) : commas (x :: l) = x ++ (if l = [] then [] else 44 :: commas l) := by
 cases l with
 | nil => simp [commas]
 | cons y r => simp [commas]
theorem pre1 (c : UInt8) (r : List UInt8) : [c] <+: c :: r := by simp
theorem npre1 {c x : UInt8} (r : List UInt8) (h : c ≠ x) : ¬ [c] <+: x :: r := by simp [h]
theorem npre_nil (c : UInt8) (r : List UInt8) : ¬ (c :: r) <+: ([] : List UInt8) := by simp

/-- the values of a list, one after another -/
theorem items_list (d : Nat) (IH : ∀ v : V, fitsB d v = true → ∀ k r, 4 * (rend d v ++ r).length + 4 ≤ k → nonum r → readV k (rend d v ++ r) = some (v, r)) :
  ∀ (l ls : List V), l ≠ [] → (∀ x ∈ l, fitsB d x = true) → ∀ k r, 4 * (commas (l.map (rend d)) ++ 93 :: r).length + 6 ≤ k → items k false ls [] (commas (l.map (rend d)) ++ 93 :: r) = some (⟨5, 0, ⟨#[]⟩, ls ++ l, []⟩, r) := by
 intro l
 induction l with
 | nil => intro ls h; exact absurd rfl h
 | cons v t ih =>
  intro ls _ hf k r hk
  have hv := hf v (List.mem_cons_self ..)
  rw [List.map_cons, commas_cons] at hk ⊢
  obtain ⟨k, rfl⟩ : ∃ k', k = k' + 2 := ⟨k - 2, by omega⟩
  rw [items, item]
  by_cases ht : t = []
  ·subst ht
   simp only [List.map_nil, if_true, List.append_nil] at hk ⊢
   have hr : nonum (93 :: r) := fun c u e => by injection e with e1 _; subst e1; decide
   rw [IH v hv k (93 :: r) (by omega) hr]
   show (if [endc false] <+: 93 :: r then _ else _) = _
   rw [if_pos (show [endc false] <+: 93 :: r from pre1 93 r)]
   rfl
  ·have hm : t.map (rend d) ≠ [] := by simpa using ht
   rw [if_neg hm] at hk ⊢
   have ha : rend d v ++ 44 :: commas (t.map (rend d)) ++ 93 :: r = rend d v ++ (44 :: (commas (t.map (rend d)) ++ 93 :: r)) := by simp
   rw [ha] at hk ⊢
   have hr : nonum (44 :: (commas (t.map (rend d)) ++ 93 :: r)) := fun c u e => by injection e with e1 _; subst e1; decide
   rw [IH v hv k _ (by omega) hr]
   show (if [endc false] <+: 44 :: _ then _ else _) = _
   rw [if_neg (npre1 (c := endc false) _ (by decide)), if_pos (pre1 44 _)]
   have := ih (ls ++ [v]) ht (fun x hx => hf x (List.mem_cons_of_mem _ hx)) k r (by
    rw [List.length_append, List.length_cons] at hk
    omega)
   rw [List.drop_succ_cons, List.drop_zero, this]
   simp
theorem items_obj (d : Nat) (IH : ∀ v : V, fitsB d v = true → ∀ k r, 4 * (rend d v ++ r).length + 4 ≤ k → nonum r → readV k (rend d v ++ r) = some (v, r)) :
  ∀ (l ls : List V) (ks kk : List ByteArray), l ≠ [] → ks.length = l.length → (∀ x ∈ l, fitsB d x = true) → ∀ k r, 4 * (commas (List.zipWith (fun k x => jq (bl k) ++ 58 :: rend d x) ks l) ++ 125 :: r).length + 6 ≤ k →
   items k true ls kk (commas (List.zipWith (fun k x => jq (bl k) ++ 58 :: rend d x) ks l) ++ 125 :: r) = some (⟨6, 0, ⟨#[]⟩, ls ++ l, kk ++ ks⟩, r) := by
 intro l
 induction l with
 | nil => intro ls ks kk h; exact absurd rfl h
 | cons v t ih =>
  intro ls ks kk _ hl hf k r hk
  obtain ⟨q, ks, rfl⟩ : ∃ q ks', ks = q :: ks' := by cases ks with | nil => simp at hl | cons q ks => exact ⟨q, ks, rfl⟩
  simp only [List.length_cons, Nat.add_right_cancel_iff] at hl
  have hv := hf v (List.mem_cons_self ..)
  rw [List.zipWith_cons_cons, commas_cons] at hk ⊢
  obtain ⟨k, rfl⟩ : ∃ k', k = k' + 2 := ⟨k - 2, by omega⟩
  by_cases ht : t = []
  ·subst ht
   have : ks = [] := by simpa using hl
   subst this
   simp only [List.zipWith_nil_right, if_true, List.append_nil] at hk ⊢
   have ha : jq (bl q) ++ 58 :: rend d v ++ 125 :: r = jq (bl q) ++ (58 :: (rend d v ++ 125 :: r)) := by simp
   rw [ha] at hk ⊢
   rw [items, readQ_jq]
   show (if [58] <+: 58 :: _ then _ else _) = _
   rw [if_pos (pre1 58 _), List.drop_succ_cons, List.drop_zero, item]
   have hr : nonum (125 :: r) := fun c u e => by injection e with e1 _; subst e1; decide
   rw [IH v hv k (125 :: r) (by rw [List.length_append, List.length_cons] at hk; omega) hr]
   show (if [endc true] <+: 125 :: r then _ else _) = _
   rw [if_pos (show [endc true] <+: 125 :: r from pre1 125 r)]
   simp [kindc]
  ·have hm : List.zipWith (fun k x => jq (bl k) ++ 58 :: rend d x) ks t ≠ [] := by
    intro e
    have := congrArg List.length e
    rw [List.length_zipWith, hl] at this
    simp at this
    exact ht this
   rw [if_neg hm] at hk ⊢
   have ha : ∀ Z, jq (bl q) ++ 58 :: rend d v ++ 44 :: Z ++ 125 :: r = jq (bl q) ++ (58 :: (rend d v ++ (44 :: (Z ++ 125 :: r)))) := fun Z => by simp
   rw [ha] at hk ⊢
   rw [items, readQ_jq]
   show (if [58] <+: 58 :: _ then _ else _) = _
   rw [if_pos (pre1 58 _), List.drop_succ_cons, List.drop_zero, item]
   have hr : nonum (44 :: (commas (List.zipWith (fun k x => jq (bl k) ++ 58 :: rend d x) ks t) ++ 125 :: r)) := fun c u e => by injection e with e1 _; subst e1; decide
   rw [IH v hv k _ (by rw [List.length_append, List.length_cons] at hk; omega) hr]
   show (if [endc true] <+: 44 :: _ then _ else _) = _
   rw [if_neg (npre1 (c := endc true) _ (by decide)), if_pos (pre1 44 _)]
   have := ih (ls ++ [v]) ks (kk ++ [q]) ht hl (fun x hx => hf x (List.mem_cons_of_mem _ hx)) k r (by
    rw [List.length_append, List.length_cons, List.length_append, List.length_cons] at hk
    omega)
   rw [List.drop_succ_cons, List.drop_zero, show (ba (bl q)) = q from ba_bl q, this]
   simp

theorem items_head (d : Nat) (v : V) (t : List V) (hv : fitsB d v = true) (r : List UInt8) : ¬ [(93 : UInt8)] <+: commas ((v :: t).map (rend d)) ++ r := by
 obtain ⟨c, u, hc, h1, h2, h3⟩ := rend_head hv
 rw [List.map_cons, commas_cons, hc]
 simp [Ne.symm h1]

/-- Reading a value's text, whatever stands behind it. -/
theorem readV_rend : ∀ (d : Nat) (v : V), fitsB d v = true → ∀ k r, 4 * (rend d v ++ r).length + 4 ≤ k → nonum r → readV k (rend d v ++ r) = some (v, r) := by
 intro d
 induction d with
 | zero => intro v h; simp [fitsB] at h
 | succ d IH =>
  intro v h k r hk hr
  obtain ⟨⟨p0, p1⟩, hb, hkeys, hl⟩ := fits_succ h
  obtain ⟨k, rfl⟩ : ∃ k', k = k' + 2 := ⟨k - 2, by omega⟩
  unfold bareB at hb
  simp only [Bool.and_eq_true, Bool.or_eq_true, beq_iff_eq, decide_eq_true_eq] at hb
  obtain ⟨⟨⟨hb1, hb2⟩, hb3⟩, hb4⟩ := hb
  rw [rend] at hk ⊢
  by_cases c1 : v.f0 = 1
  ·rw [if_pos c1]
   have hvv : v = ⟨1, 0, ⟨#[]⟩, [], []⟩ := ext_V c1 (by omega) (ba_empty (by omega)) (List.eq_nil_of_length_eq_zero (by omega)) (List.eq_nil_of_length_eq_zero (by rw [if_neg (by omega)] at hkeys; simpa using hkeys))
   rw [readV, if_pos (List.prefix_append ..), hvv]
   rfl
  by_cases c2 : v.f0 = 2
  ·rw [if_neg c1, if_pos c2]
   have hg : ∀ b, v.f1 = b → v = ⟨2, b, ⟨#[]⟩, [], []⟩ := fun b hb => ext_V c2 hb (ba_empty (by omega)) (List.eq_nil_of_length_eq_zero (by omega)) (List.eq_nil_of_length_eq_zero (by rw [if_neg (by omega)] at hkeys; simpa using hkeys))
   by_cases e1 : v.f1 = 1
   ·rw [if_pos e1, readV, if_neg (by simp [w_true, w_null]), if_pos (List.prefix_append ..), hg 1 e1]
    rfl
   ·rw [if_neg e1, readV, if_neg (by simp [w_false, w_null]), if_neg (by simp [w_false, w_true]), if_pos (List.prefix_append ..), hg 0 (by omega)]
    rfl
  by_cases c3 : v.f0 = 3
  ·rw [if_neg c1, if_neg c2, if_pos c3]
   have hvv : v = ⟨3, v.f1, ⟨#[]⟩, [], []⟩ := ext_V c3 rfl (ba_empty (by omega)) (List.eq_nil_of_length_eq_zero (by omega)) (List.eq_nil_of_length_eq_zero (by rw [if_neg (by omega)] at hkeys; simpa using hkeys))
   obtain ⟨c, t, hc⟩ := List.exists_cons_of_ne_nil (itoa_ne v.f1)
   have hn := itoa_mem v.f1 c (by rw [hc]; exact List.mem_cons_self ..)
   have hx : ∀ (x : UInt8) (q : List UInt8), isnum x = false → ¬ (x :: q) <+: Lib.itoa v.f1 ++ r := fun x q hx hp => by
    rw [hc, List.cons_append, List.cons_prefix_cons] at hp
    rw [hp.1, hn] at hx
    cases hx
   have hrn := readNum_itoa v.f1 (by omega) (by omega) r hr
   rw [readV, if_neg (show ¬ w_null <+: _ from hx 110 _ (by decide)), if_neg (show ¬ w_true <+: _ from hx 116 _ (by decide)), if_neg (show ¬ w_false <+: _ from hx 102 _ (by decide)), if_neg (hx 34 _ (by decide)), if_neg (hx 91 _ (by decide)), if_neg (hx 123 _ (by decide)), hrn]
   exact congrArg (fun z => some (z, r)) hvv.symm
  by_cases c4 : v.f0 = 4
  ·rw [if_neg c1, if_neg c2, if_neg c3, if_pos c4]
   have hvv : v = ⟨4, 0, v.f2, [], []⟩ := ext_V c4 (by omega) rfl (List.eq_nil_of_length_eq_zero (by omega)) (List.eq_nil_of_length_eq_zero (by rw [if_neg (by omega)] at hkeys; simpa using hkeys))
   rw [readV, if_neg (by simp [w_null, jq]), if_neg (by simp [w_true, jq]), if_neg (by simp [w_false, jq]), if_pos (by simp [jq]), readQ_jq]
   simp only [Option.map_some, ba_bl]
   exact congrArg (fun z => some (z, r)) hvv.symm
  by_cases c5 : v.f0 = 5
  ·rw [if_neg c1, if_neg c2, if_neg c3, if_neg c4, if_pos c5] at hk ⊢
   have hvv : v = ⟨5, 0, ⟨#[]⟩, v.f3, []⟩ := ext_V c5 (by omega) (ba_empty (by omega)) rfl (List.eq_nil_of_length_eq_zero (by rw [if_neg (by omega)] at hkeys; simpa using hkeys))
   have ha : 91 :: (commas (v.f3.map (rend d)) ++ [93]) ++ r = 91 :: (commas (v.f3.map (rend d)) ++ 93 :: r) := by simp
   rw [ha] at hk ⊢
   rw [readV, if_neg (by simp [w_null]), if_neg (by simp [w_true]), if_neg (by simp [w_false]), if_neg (npre1 _ (by decide)), if_pos (pre1 ..), List.drop_succ_cons, List.drop_zero, readRow]
   by_cases hn : v.f3 = []
   ·rw [hn]
    show (if [endc false] <+: 93 :: r then _ else _) = _
    rw [if_pos (show [endc false] <+: 93 :: r from pre1 93 r), hvv, hn]
    rfl
   ·have hh : ¬ [endc false] <+: commas (v.f3.map (rend d)) ++ 93 :: r := by
     cases hq : v.f3 with
     | nil => exact absurd hq hn
     | cons x t => exact items_head d x t (hl x (by rw [hq]; exact List.mem_cons_self ..)) _
    rw [if_neg hh, items_list d (fun v hv k r => IH v hv k r) v.f3 [] hn hl k r (by rw [List.length_cons] at hk; omega)]
    exact congrArg (fun z => some (z, r)) hvv.symm
  ·have c6 : v.f0 = 6 := by omega
   rw [if_neg c1, if_neg c2, if_neg c3, if_neg c4, if_neg c5, if_pos c6] at hk ⊢
   rw [if_pos c6, Bool.and_eq_true] at hkeys
   have hkl : v.f4.length = v.f3.length := by simpa using hkeys.1
   have hvv : v = ⟨6, 0, ⟨#[]⟩, v.f3, v.f4⟩ := ext_V c6 (by omega) (ba_empty (by omega)) rfl rfl
   have ha : ∀ Z, 123 :: (Z ++ [(125 : UInt8)]) ++ r = 123 :: (Z ++ 125 :: r) := fun Z => by simp
   rw [ha] at hk ⊢
   rw [readV, if_neg (by simp [w_null]), if_neg (by simp [w_true]), if_neg (by simp [w_false]), if_neg (npre1 _ (by decide)), if_neg (npre1 _ (by decide)), if_pos (pre1 ..), List.drop_succ_cons, List.drop_zero, readRow]
   by_cases hn : v.f3 = []
   ·have hn4 : v.f4 = [] := List.eq_nil_of_length_eq_zero (by rw [hkl, hn]; rfl)
    rw [hn, hn4]
    show (if [endc true] <+: 125 :: r then _ else _) = _
    rw [if_pos (show [endc true] <+: 125 :: r from pre1 125 r), hvv, hn, hn4]
    rfl
   ·have hh : ¬ [endc true] <+: commas (List.zipWith (fun k x => jq (bl k) ++ 58 :: rend d x) v.f4 v.f3) ++ 125 :: r := by
     cases hq : v.f3 with
     | nil => exact absurd hq hn
     | cons x t =>
      cases hq4 : v.f4 with
      | nil => rw [hq, hq4] at hkl; simp at hkl
      | cons y u => rw [List.zipWith_cons_cons, commas_cons]; simp [jq, endc]
    rw [if_neg hh, items_obj d (fun v hv k r => IH v hv k r) v.f3 [] v.f4 [] hn hkl hl k r (by rw [List.length_cons] at hk; omega)]
    exact congrArg (fun z => some (z, r)) hvv.symm
end Go.Proofs.YtifejhbochkifaaGreatDoor.X
