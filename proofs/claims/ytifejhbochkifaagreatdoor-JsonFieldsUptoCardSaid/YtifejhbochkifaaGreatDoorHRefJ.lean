/- The reference's quote, show, JSON: they tell a value's text. -/
import Derived.Test.YtifejhbochkifaaGreatDoorHRefF
import Derived.Test.YtifejhbochkifaaGreatDoorBD
import Derived.Test.YtifejhbochkifaaGreatDoorBC
import Derived.Test.YtifejhbochkifaaGreatDoorX8
namespace Go.Proofs.YtifejhbochkifaaGreatDoor.X
open Go.RowKit Go.Proofs.YtifejhbochkifaaGreatDoorW.PrintWords Go.Proofs.YtifejhbochkifaaGreatDoor.Spec
set_option linter.unusedVariables false
set_option linter.unusedSimpArgs false
theorem esc_low : ∀ n : Fin 32, (48 + ((Int.tdiv (n.val : Int) 16) % 256)) % 256 = ((hexc (n.val / 16)).toNat : Int) ∧ bt (⟨#[48, 49, 50, 51, 52, 53, 54, 55, 56, 57, 97, 98, 99, 100, 101, 102]⟩ : ByteArray) (Int.tmod (n.val : Int) 16) = ((hexc (n.val % 16)).toNat : Int) := by decide +kernel
theorem escL_len (l : List UInt8) : (escL l).length ≤ 6 * l.length := by
 induction l with
 | nil => simp [escL]
 | cons c t ih =>
  have := esc1_le c
  have e : escL (c :: t) = esc1 c ++ escL t := by simp [escL]
  rw [e, List.length_append, List.length_cons]
  omega
theorem quote_l0 (s : ByteArray) (hs : s.size ≤ 1000000000) : ∀ n i, i + n = s.size → Ev (fun k => exequaturref01_quote.l0 k s (nb (34 :: escL ((bl s).take i))) (i : Int)) (ba (jq (bl s))) := by
 intro n
 induction n with
 | zero =>
  intro i hi
  refine Ev.step (fun k => by rw [exequaturref01_quote.l0]) ?_
  refine Ev.if_neg (by omega) ?_
  rw [List.take_of_length_le (by rw [bl_length]; omega)]
  have hle := escL_len (bl s)
  rw [bl_length] at hle
  refine Ev.if_pos (by rw [nb_length, List.length_cons]; omega) ((Ev.some _).uni ?_)
  rw [show ([34] : List Int) = nb [34] from rfl, ← nb_append, str_nb]
  rfl
 | succ n ih =>
  intro i hi
  have hlt : i < (bl s).length := by rw [bl_length]; omega
  have hc : bt s (i : Int) = (((bl s)[i]).toNat : Int) := bt_get s i (by omega)
  have hle := escL_len ((bl s).take i)
  rw [List.length_take] at hle
  have hle2 : (nb (34 :: escL ((bl s).take i))).length ≤ 6000000001 := by rw [nb_length, List.length_cons]; omega
  have hnext := ih (i + 1) (by omega)
  rw [List.take_succ_eq_append_getElem hlt, escL_snoc] at hnext
  obtain ⟨c, hcc⟩ : ∃ c, (bl s)[i] = c := ⟨_, rfl⟩
  rw [hcc] at hc hnext
  have hcb : c.toNat < 256 := c.toNat_lt
  refine Ev.step (fun k => by rw [exequaturref01_quote.l0]) ?_
  refine Ev.if_pos (by omega) (Ev.if_pos (by omega) ?_)
  have hyes : (c = 34 ∨ c = 92) → Ev (fun k => exequaturref01_quote.j1 k s (nb (34 :: escL ((bl s).take i))) (i : Int) true) (ba (jq (bl s))) := by
   intro h
   refine Ev.step (fun k => by rw [exequaturref01_quote.j1]) ?_
   refine Ev.if_pos rfl (Ev.if_pos (by omega) (Ev.if_pos (by omega) ?_))
   refine Ev.bind (Ev.const rfl) ?_
   refine Ev.if_pos (by simp only [List.length_cons, List.length_nil] at hle2 ⊢; omega) ?_
   rw [w64 (by omega) (by omega), hc]
   have he : nb (34 :: escL ((bl s).take i)) ++ [92, (c.toNat : Int)] = nb (34 :: (escL ((bl s).take i) ++ esc1 c)) := by
    unfold esc1
    rw [if_pos h, ← List.cons_append, nb_append]
    rfl
   rw [he]
   exact hnext
  have hno : c ≠ 34 → c ≠ 92 → Ev (fun k => exequaturref01_quote.j1 k s (nb (34 :: escL ((bl s).take i))) (i : Int) false) (ba (jq (bl s))) := by
   intro h34 h92
   refine Ev.step (fun k => by rw [exequaturref01_quote.j1]) ?_
   refine Ev.if_neg (by decide) (Ev.if_pos (by omega) (Ev.if_pos (by omega) ?_))
   rw [hc, w64 (by omega) (by omega)]
   by_cases h32 : c.toNat < 32
   ·obtain ⟨q1, q2⟩ := esc_low ⟨c.toNat, h32⟩
    simp only at q1 q2
    have htm : Int.tmod (c.toNat : Int) 16 = (c.toNat : Int) % 16 := Int.tmod_eq_emod_of_nonneg (by omega)
    refine Ev.if_pos (by omega) (Ev.if_pos (by rw [htm]; omega) (Ev.if_pos (by rw [htm]; omega) ?_))
    rw [q1, q2]
    refine Ev.bind (Ev.const rfl) ?_
    refine Ev.if_pos (by simp only [List.length_cons, List.length_nil] at hle2 ⊢; omega) ?_
    have he : nb (34 :: escL ((bl s).take i)) ++ [92, 117, 48, 48, ((hexc (c.toNat / 16)).toNat : Int), ((hexc (c.toNat % 16)).toNat : Int)] = nb (34 :: (escL ((bl s).take i) ++ esc1 c)) := by
     unfold esc1
     rw [if_neg (by rintro (h | h); exact h34 h; exact h92 h), if_pos h32, ← List.cons_append, nb_append]
     rfl
    rw [he]
    exact hnext
   ·refine Ev.if_neg (by omega) (Ev.if_pos (by omega) ?_)
    have he : nb (34 :: escL ((bl s).take i)) ++ [(c.toNat : Int)] = nb (34 :: (escL ((bl s).take i) ++ esc1 c)) := by
     unfold esc1
     rw [if_neg (by rintro (h | h); exact h34 h; exact h92 h), if_neg h32, ← List.cons_append, nb_append]
     rfl
    rw [he]
    exact hnext
  rw [hc]
  by_cases h34 : c = 34
  ·exact Ev.if_pos (by rw [h34]; rfl) (hyes (Or.inl h34))
  ·refine Ev.if_neg (fun e => h34 (toNat_inj.1 e)) ?_
   by_cases h92 : c = 92
   ·rw [show ((c.toNat : Int) == 92) = true by rw [h92]; rfl]
    exact hyes (Or.inr h92)
   ·rw [show ((c.toNat : Int) == 92) = false from beq_eq_false_iff_ne.2 (fun e => h92 (toNat_inj.1 e))]
    exact hno h34 h92
theorem quote_ev (s : ByteArray) (hs : s.size ≤ 1000000000) : Ev (fun k => exequaturref01_quote.f k s) (ba (jq (bl s))) := quote_l0 s hs s.size 0 (by omega)
/-- the texts of a list's, or an object's, parts -/
def partsV (d : Nat) (v : V) : List (List UInt8) := if v.f0 = 6 then List.zipWith (fun k x => jq (bl k) ++ 58 :: rend d x) v.f4 v.f3 else v.f3.map (rend d)
theorem commas_add (l : List (List UInt8)) (p : List UInt8) : commas (l ++ [p]) = if l = [] then p else commas l ++ 44 :: p := by
 induction l with
 | nil => rfl
 | cons x l ih =>
  rw [List.cons_append, commas_cons, commas_cons, if_neg (by simp), ih]
  split
  ·rename_i h; subst h; simp
  ·rename_i h; simp [h]
theorem part_le (l : List (List UInt8)) : ∀ p ∈ l, p.length ≤ (commas l).length := by
 induction l with
 | nil => intro p h; cases h
 | cons x l ih =>
  intro p h
  rw [commas_cons, List.length_append]
  rcases List.mem_cons.1 h with rfl | h
  ·omega
  ·have := ih p h
   split
   ·rename_i e; rw [e] at h; cases h
   ·rw [List.length_cons]; omega
theorem commas_take (l : List (List UInt8)) (i : Nat) : (commas (l.take i)).length ≤ (commas l).length := by
 induction l generalizing i with
 | nil => simp
 | cons x l ih =>
  cases i with
  | zero => simp [commas]
  | succ i =>
   have := ih i
   rw [List.take_succ_cons, commas_cons, commas_cons, List.length_append, List.length_append]
   by_cases h : l.take i = []
   ·rw [if_pos h]; simp
   ·rw [if_neg h, if_neg (fun e => h (by rw [e]; simp)), List.length_cons, List.length_cons]
    omega
theorem ba_add (a b : List UInt8) : ba a ++ ba b = ba (a ++ b) := by
 apply bl_inj
 rw [bl_append, bl_ba, bl_ba, bl_ba]
theorem show_l0 (d : Nat) (IH : ∀ x : V, fitsB d x = true → (rend d x).length ≤ 999999990 → Ev (fun k => exequaturref01_show.f k x.f0 x.f1 x.f2 x.f3 x.f4) (ba (rend d x))) (v : V) (h5 : v.f0 = 5 ∨ v.f0 = 6) (hk : v.f0 = 6 → v.f4.length = v.f3.length) (ha : ∀ x ∈ v.f3, fitsB d x = true) (h3 : v.f3.length ≤ 1000000) (hz : (commas (partsV d v)).length ≤ 999999990) :
  ∀ n i, i + n = v.f3.length → Ev (fun k => exequaturref01_show.l0 k (ba (commas ((partsV d v).take i))) (i : Int) v.f0 v.f1 v.f2 v.f3 v.f4) (ba (if v.f0 = 5 then 91 :: (commas (partsV d v) ++ [93]) else 123 :: (commas (partsV d v) ++ [125]))) := by
 have hpl : (partsV d v).length = v.f3.length := by
  unfold partsV
  split
  ·rename_i h; rw [List.length_zipWith, hk h]; omega
  ·rw [List.length_map]
 intro n
 induction n with
 | zero =>
  intro i hi
  refine Ev.step (fun k => by rw [exequaturref01_show.l0]) ?_
  refine Ev.if_neg (by omega) ?_
  rw [List.take_of_length_le (by omega)]
  have s1 : (⟨#[91]⟩ : ByteArray) ++ ba (commas (partsV d v)) = ba (91 :: commas (partsV d v)) := ba_add [91] _
  have s2 : (⟨#[123]⟩ : ByteArray) ++ ba (commas (partsV d v)) = ba (123 :: commas (partsV d v)) := ba_add [123] _
  by_cases e5 : v.f0 = 5
  ·refine Ev.if_pos e5 ?_
   rw [if_pos e5, s1]
   refine Ev.if_pos (by rw [size_ba]; omega) (Ev.if_pos (by rw [size_ba, List.length_cons]; omega) ((Ev.some _).uni ?_))
   exact ba_add _ [93]
  ·refine Ev.if_neg e5 ?_
   rw [if_neg e5, s2]
   refine Ev.if_pos (by rw [size_ba]; omega) (Ev.if_pos (by rw [size_ba, List.length_cons]; omega) ((Ev.some _).uni ?_))
   exact ba_add _ [125]
 | succ n ih =>
  intro i hi
  have h1 : i < v.f3.length := by omega
  have hip : i < (partsV d v).length := by omega
  have hnext := ih (i + 1) (by omega)
  rw [List.take_succ_eq_append_getElem hip, commas_add] at hnext
  have hct := commas_take (partsV d v) i
  have hpt := part_le (partsV d v) _ (List.getElem_mem hip)
  have hct1 := commas_take (partsV d v) (i + 1)
  rw [List.take_succ_eq_append_getElem hip, commas_add] at hct1
  have hIH := IH _ (ha _ (List.getElem_mem h1))
  -- behind the comma
  have hj : ∀ A : List UInt8, A ++ (partsV d v)[i] = (if (partsV d v).take i = [] then (partsV d v)[i] else commas ((partsV d v).take i) ++ 44 :: (partsV d v)[i]) → Ev (fun k => exequaturref01_show.j1 k (ba A) (i : Int) v.f0 v.f1 v.f2 v.f3 v.f4) (ba (if v.f0 = 5 then 91 :: (commas (partsV d v) ++ [93]) else 123 :: (commas (partsV d v) ++ [125]))) := by
   intro A hA
   have hAl : A.length + ((partsV d v)[i]).length ≤ 999999990 := by
    have := congrArg List.length hA
    rw [List.length_append] at this
    omega
   refine Ev.step (fun k => by rw [exequaturref01_show.j1]) ?_
   rw [rd_at _ i h1, w64 (by omega) (by omega)]
   by_cases e6 : v.f0 = 6
   ·have h4 : i < v.f4.length := by rw [hk e6]; exact h1
    have hp : (partsV d v)[i] = jq (bl v.f4[i]) ++ 58 :: rend d v.f3[i] := by
     unfold partsV
     simp only [if_pos e6, List.getElem_zipWith]
    rw [hp] at hAl hA
    rw [List.length_append, List.length_cons] at hAl
    have hql : (v.f4[i]).size ≤ (jq (bl v.f4[i])).length := by
     have : ∀ l : List UInt8, l.length ≤ (escL l).length := fun l => by
      induction l with
      | nil => simp
      | cons c t iht =>
       have e : escL (c :: t) = esc1 c ++ escL t := by simp [escL]
       have e1 : 1 ≤ (esc1 c).length := by unfold esc1; split; simp; split <;> simp
       rw [e, List.length_append, List.length_cons]
       omega
     have := this (bl v.f4[i])
     rw [bl_length] at this
     simp only [jq, List.length_cons, List.length_append]
     omega
    refine Ev.if_pos e6 (Ev.if_pos (by omega) (Ev.if_pos (by omega) ?_))
    rw [rdOf_at _ i h4]
    refine Ev.bind (quote_ev _ (by omega)) ?_
    rw [ba_add]
    refine Ev.if_pos (by rw [size_ba, size_ba]; omega) (Ev.if_pos (by rw [size_ba, List.length_append]; omega) (Ev.if_pos (by omega) ?_))
    refine Ev.bind (hIH (by omega)) ?_
    have e1 : ba (A ++ jq (bl v.f4[i])) ++ (⟨#[58]⟩ : ByteArray) = ba (A ++ jq (bl v.f4[i]) ++ [58]) := ba_add _ [58]
    rw [e1, ba_add]
    refine Ev.if_pos (by rw [size_ba, size_ba, List.length_append, List.length_append, List.length_singleton]; omega) ?_
    have e2 : A ++ jq (bl v.f4[i]) ++ [58] ++ rend d v.f3[i] = A ++ (jq (bl v.f4[i]) ++ 58 :: rend d v.f3[i]) := by simp
    rw [e2, hA, ← hp]
    exact hnext
   ·have hp : (partsV d v)[i] = rend d v.f3[i] := by
     unfold partsV
     simp only [if_neg e6, List.getElem_map]
    rw [hp] at hAl hA
    refine Ev.if_neg e6 (Ev.if_pos (by omega) (Ev.if_pos (by omega) ?_))
    refine Ev.bind (hIH (by omega)) ?_
    refine Ev.if_pos (by rw [size_ba, size_ba]; omega) ?_
    rw [ba_add, hA, ← hp]
    exact hnext
  refine Ev.step (fun k => by rw [exequaturref01_show.l0]) ?_
  refine Ev.if_pos (by omega) ?_
  by_cases i0 : (i : Int) > 0
  ·have hne : (partsV d v).take i ≠ [] := fun e => by
    have := congrArg List.length e
    rw [List.length_take, List.length_nil] at this
    omega
   refine Ev.if_pos i0 (Ev.if_pos (by rw [size_ba]; omega) ?_)
   rw [show ba (commas ((partsV d v).take i)) ++ (⟨#[44]⟩ : ByteArray) = ba (commas ((partsV d v).take i) ++ [44]) from ba_add _ [44]]
   refine hj _ ?_
   rw [if_neg hne]
   simp
  ·refine Ev.if_neg i0 (hj _ ?_)
   obtain rfl : i = 0 := by omega
   rw [if_pos (by simp)]
   simp [commas]
theorem show_ev : ∀ (d : Nat) (v : V), fitsB d v = true → (rend d v).length ≤ 999999990 → Ev (fun k => exequaturref01_show.f k v.f0 v.f1 v.f2 v.f3 v.f4) (ba (rend d v)) := by
 intro d
 induction d with
 | zero => intro v h; simp [fitsB] at h
 | succ d IH =>
  intro v hf hz
  obtain ⟨hk, hb, hkeys, ha⟩ := fits_succ hf
  have hba := bare_all hb
  refine Ev.step (fun k => by rw [exequaturref01_show.f]) ?_
  rw [rend] at hz ⊢
  by_cases c1 : v.f0 = 1
  ·rw [if_pos c1]
   exact Ev.if_pos c1 (Ev.some _)
  refine Ev.if_neg c1 ?_
  rw [if_neg c1] at hz ⊢
  by_cases c2 : v.f0 = 2
  ·rw [if_pos c2]
   refine Ev.if_pos c2 ?_
   by_cases e1 : v.f1 = 1
   ·exact Ev.if_pos e1 ((Ev.some _).uni (by rw [if_pos e1]; rfl))
   ·exact Ev.if_neg e1 ((Ev.some _).uni (by rw [if_neg e1]; rfl))
  refine Ev.if_neg c2 ?_
  rw [if_neg c2] at hz ⊢
  by_cases c3 : v.f0 = 3
  ·rw [if_pos c3]
   refine Ev.if_pos c3 ?_
   refine Ev.bind (a := ba (Lib.itoa v.f1)) (Ev.const ?_) (Ev.some _)
   unfold exequaturref01_Dec.f
   rw [if_pos ⟨by omega, by omega⟩]
  refine Ev.if_neg c3 ?_
  rw [if_neg c3] at hz ⊢
  by_cases c4 : v.f0 = 4
  ·rw [if_pos c4] at hz ⊢
   refine Ev.if_pos c4 ?_
   refine Ev.bind (quote_ev v.f2 ?_) (Ev.some _)
   have : ∀ l : List UInt8, l.length ≤ (escL l).length := fun l => by
    induction l with
    | nil => simp
    | cons c t iht =>
     have e : escL (c :: t) = esc1 c ++ escL t := by simp [escL]
     have e1 : 1 ≤ (esc1 c).length := by unfold esc1; split; simp; split <;> simp
     rw [e, List.length_append, List.length_cons]
     omega
   have := this (bl v.f2)
   rw [bl_length] at this
   simp only [jq, List.length_cons, List.length_append] at hz
   omega
  refine Ev.if_neg c4 ?_
  rw [if_neg c4] at hz ⊢
  have h5 : v.f0 = 5 ∨ v.f0 = 6 := by omega
  have hparts : (if v.f0 = 5 then 91 :: (commas (v.f3.map (rend d)) ++ [93]) else 123 :: (commas (if v.f0 = 6 then List.zipWith (fun k x => jq (bl k) ++ 58 :: rend d x) v.f4 v.f3 else v.f3.map (rend d)) ++ [125])) = (if v.f0 = 5 then 91 :: (commas (partsV d v) ++ [93]) else 123 :: (commas (partsV d v) ++ [125])) := by
   unfold partsV
   rcases h5 with h | h
   ·rw [if_pos h, if_pos h, if_neg (by omega)]
   ·have h5n : ¬ v.f0 = 5 := by omega
    rw [if_neg h5n, if_neg h5n]
  rw [hparts] at hz ⊢
  refine show_l0 d (fun x hx hxl => IH x hx hxl) v h5 (fun h => ?_) ha (by omega) (by split at hz <;> (simp only [List.length_cons, List.length_append, List.length_nil] at hz; omega)) v.f3.length 0 (by omega)
  rw [if_pos h, Bool.and_eq_true, beq_iff_eq] at hkeys
  exact hkeys.1
end Go.Proofs.YtifejhbochkifaaGreatDoor.X
