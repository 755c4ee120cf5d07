import Derived.Test.YtifejhbochkifaaGreatDoorX0
import Derived.Test.YtifejhbochkifaaGreatDoorBA
import Derived.Lib.ItoaNum
import Derived.Lib.ParseIntBTie
import Derived.Lib.AtoiTie
import Derived.Lib.Strings
import Derived.Lib.Slices
import Derived.Lib.Walk
import Derived.WalkKit
import Derived.Maps.AppendAt
import Derived.BigQuiet
import Derived.Deep.QuietTactic
import Derived.WalkMore
import Derived.ScopeJumps
import Derived.Deep.LoopGhost
import Derived.StillTailTactics
import Derived.Carry
import Derived.Laws.IdiomMaps
import Derived.Maps.RangeRun
/-! HJs -/
namespace Go.Proofs.YtifejhbochkifaaGreatDoor.X
open Go.RowKit Go.Proofs.YtifejhbochkifaaGreatDoorW.PrintWords Go.Proofs.YtifejhbochkifaaGreatDoor.Spec
set_option linter.unusedVariables false
abbrev V := S25
def z_V : V := ⟨0, 0, ⟨#[]⟩, [], []⟩

/-! ### texts -/
def hexc (n : Nat) : UInt8 := if n < 10 then UInt8.ofNat (48 + n) else UInt8.ofNat (87 + n)
def esc1 (c : UInt8) : List UInt8 := if c = 34 ∨ c = 92 then [92, c] else if c.toNat < 32 then [92, 117, 48, 48, hexc (c.toNat / 16), hexc (c.toNat % 16)] else [c]
def escL (l : List UInt8) : List UInt8 := l.flatMap esc1
def jq (l : List UInt8) : List UInt8 := 34 :: (escL l ++ [34])
def commas : List (List UInt8) → List UInt8
  | [] => []
  | [x] => x
  | x :: y :: r => x ++ 44 :: commas (y :: r)
def w_null : List UInt8 := [110, 117, 108, 108]
def w_true : List UInt8 := [116, 114, 117, 101]
def w_false : List UInt8 := [102, 97, 108, 115, 101]
/-- A value's text; d is above its depth. -/
def rend : Nat → V → List UInt8
  | 0, _ => []
  | d + 1, v =>
    if v.f0 = 1 then w_null
    else if v.f0 = 2 then (if v.f1 = 1 then w_true else w_false)
    else if v.f0 = 3 then Lib.itoa v.f1
    else if v.f0 = 4 then jq (bl v.f2)
    else if v.f0 = 5 then 91 :: (commas (v.f3.map (rend d)) ++ [93])
    else 123 :: (commas (if v.f0 = 6 then List.zipWith (fun k x => jq (bl k) ++ 58 :: rend d x) v.f4 v.f3 else v.f3.map (rend d)) ++ [125])

/-! ### which values are good -/
def bareB (v : V) : Bool :=
  ((v.f0 == 3 && decide (-9007199254740992 ≤ v.f1) && decide (v.f1 ≤ 9007199254740992)) || (v.f0 == 2 && decide (0 ≤ v.f1) && decide (v.f1 ≤ 1)) || v.f1 == 0)
  && (v.f0 == 4 || v.f2.size == 0) && (v.f0 == 5 || v.f0 == 6 || v.f3.length == 0) && decide (v.f3.length ≤ 64)
def fitsB : Nat → V → Bool
  | 0, _ => false
  | d + 1, v => decide (1 ≤ v.f0) && decide (v.f0 ≤ 6) && bareB v
    && (if v.f0 = 6 then v.f4.length == v.f3.length && decide v.f4.Nodup else v.f4.length == 0)
    && v.f3.all (fitsB d)

/-! ### reading -/
def hexd (c : UInt8) : Option Nat := if 48 ≤ c.toNat ∧ c.toNat ≤ 57 then some (c.toNat - 48) else if 97 ≤ c.toNat ∧ c.toNat ≤ 102 then some (c.toNat - 87) else none
/-- two digits -/
def unhex : List UInt8 → Option (UInt8 × List UInt8)
  | a :: b :: r => match hexd a, hexd b with
    | some x, some y => if x ≤ 1 then some (UInt8.ofNat (16 * x + y), r) else none
    | _, _ => none
  | _ => none
theorem unhex_len {l : List UInt8} {c : UInt8} {r : List UInt8} (h : unhex l = some (c, r)) : r.length < l.length := by
 unfold unhex at h
 split at h
 ·split at h
  ·split at h
   ·simp only [Option.some.injEq, Prod.mk.injEq] at h
    rw [← h.2]; simp only [List.length_cons]; omega
   ·cases h
  ·cases h
 ·cases h
/-- behind a backslash -/
def unesc (l : List UInt8) : Option (UInt8 × List UInt8) :=
  if [34] <+: l then some (34, l.drop 1)
  else if [92] <+: l then some (92, l.drop 1)
  else if [117, 48, 48] <+: l then unhex (l.drop 3)
  else none
theorem unesc_len {l : List UInt8} {c : UInt8} {r : List UInt8} (h : unesc l = some (c, r)) : r.length < l.length := by
 unfold unesc at h
 split at h
 ·rename_i hp
  have := hp.length_le
  simp only [Option.some.injEq, Prod.mk.injEq] at h
  rw [← h.2, List.length_drop]; simp at this; omega
 ·split at h
  ·rename_i hp
   have := hp.length_le
   simp only [Option.some.injEq, Prod.mk.injEq] at h
   rw [← h.2, List.length_drop]; simp at this; omega
  ·split at h
   ·have := unhex_len h
    rw [List.length_drop] at this
    omega
   ·cases h
/-- behind the first quote: the text, and what is left; out: what has been read of it -/
def readTx (out : List UInt8) (l : List UInt8) : Option (List UInt8 × List UInt8) :=
  match l with
  | [] => none
  | c :: r =>
    if c = 34 then some (out, r)
    else if c = 92 then
      match h : unesc r with
      | some (x, r') => readTx (out ++ [x]) r'
      | none => none
    else if c.toNat < 32 then none else readTx (out ++ [c]) r
termination_by l.length
decreasing_by
  · have := unesc_len h; simp only [List.length_cons]; omega
  · simp
def readQ (l : List UInt8) : Option (List UInt8 × List UInt8) := if [34] <+: l then readTx [] (l.drop 1) else none
theorem readTx_len : ∀ (n : Nat) (l out t r : List UInt8), l.length ≤ n → readTx out l = some (t, r) → r.length < l.length := by
 intro n
 induction n with
 | zero => intro l out t r hn h; cases l with
  | nil => rw [readTx] at h; cases h
  | cons c l => simp at hn
 | succ n ih =>
  intro l out t r hn h
  cases l with
  | nil => rw [readTx] at h; cases h
  | cons c l =>
   simp only [List.length_cons] at hn ⊢
   rw [readTx] at h
   split at h
   ·simp only [Option.some.injEq, Prod.mk.injEq] at h
    rw [← h.2]; omega
   ·split at h
    ·split at h
     ·rename_i x r' e
      have h1 := unesc_len e
      have h2 := ih r' _ _ _ (by omega) h
      omega
     ·cases h
    ·split at h
     ·cases h
     ·have h2 := ih l _ _ _ (by omega) h
      omega
theorem readQ_len {l t r : List UInt8} (h : readQ l = some (t, r)) : r.length + 1 < l.length := by
 unfold readQ at h
 split at h
 ·rename_i hp
  have h1 := hp.length_le
  have h2 := readTx_len _ _ _ _ _ (Nat.le_refl _) h
  rw [List.length_drop] at h2
  simp at h1
  omega
 ·cases h
def isnum (c : UInt8) : Bool := c == 45 || (decide (48 ≤ c.toNat) && decide (c.toNat ≤ 57))
def readNum (l : List UInt8) : Option (V × List UInt8) :=
  match Lib.parseIntB 64 (l.takeWhile isnum) with
  | .ok x => if Lib.itoa x = l.takeWhile isnum then some (⟨3, x, ⟨#[]⟩, [], []⟩, l.drop (l.takeWhile isnum).length) else none
  | _ => none
def endc (obj : Bool) : UInt8 := if obj then 125 else 93
def kindc (obj : Bool) : Int := if obj then 6 else 5
mutual
/-- The value at the front, and what is left. -/
def readV : Nat → List UInt8 → Option (V × List UInt8)
  | 0, _ => none
  | k + 1, s =>
    if w_null <+: s then some (⟨1, 0, ⟨#[]⟩, [], []⟩, s.drop 4)
    else if w_true <+: s then some (⟨2, 1, ⟨#[]⟩, [], []⟩, s.drop 4)
    else if w_false <+: s then some (⟨2, 0, ⟨#[]⟩, [], []⟩, s.drop 5)
    else if [34] <+: s then (readQ s).map fun p => (⟨4, 0, ba p.1, [], []⟩, p.2)
    else if [91] <+: s then readRow k false (s.drop 1)
    else if [123] <+: s then readRow k true (s.drop 1)
    else readNum s
/-- behind the opening bracket -/
def readRow : Nat → Bool → List UInt8 → Option (V × List UInt8)
  | 0, _, _ => none
  | k + 1, obj, s => if [endc obj] <+: s then some (⟨kindc obj, 0, ⟨#[]⟩, [], []⟩, s.drop 1) else items k obj [] [] s
/-- the values that are left; ls, ks: what has been read -/
def items : Nat → Bool → List V → List ByteArray → List UInt8 → Option (V × List UInt8)
  | 0, _, _, _, _ => none
  | k + 1, true, ls, ks, s =>
    match readQ s with
    | some (t, r) => if [58] <+: r then item k true ls (ks ++ [ba t]) (r.drop 1) else none
    | none => none
  | k + 1, false, ls, ks, s => item k false ls ks s
def item : Nat → Bool → List V → List ByteArray → List UInt8 → Option (V × List UInt8)
  | 0, _, _, _, _ => none
  | k + 1, obj, ls, ks, s =>
    match readV k s with
    | some (x, r) =>
      if [endc obj] <+: r then some (⟨kindc obj, 0, ⟨#[]⟩, ls ++ [x], ks⟩, r.drop 1)
      else if [44] <+: r then items k obj (ls ++ [x]) ks (r.drop 1)
      else none
    | none => none
end
end Go.Proofs.YtifejhbochkifaaGreatDoor.X

/-! HJsL -/
namespace Go.Proofs.YtifejhbochkifaaGreatDoor.X
open Go.RowKit Go.Proofs.YtifejhbochkifaaGreatDoorW.PrintWords Go.Proofs.YtifejhbochkifaaGreatDoor.Spec
set_option linter.unusedVariables false
set_option linter.unusedSimpArgs false

theorem dec_digits (u : Nat) : ∀ x ∈ Lib.decDigits u, 48 ≤ x.toNat ∧ x.toNat ≤ 57 := by
 induction u using Nat.strongRecOn with
 | _ u ih =>
  intro x hx
  rw [Lib.decDigits] at hx
  split at hx
  ·rename_i h
   obtain rfl := List.mem_singleton.1 hx
   rw [UInt8.toNat_ofNat']
   omega
  ·rename_i h
   rcases List.mem_append.1 hx with hx | hx
   ·exact ih (u / 10) (by omega) x hx
   ·obtain rfl := List.mem_singleton.1 hx
    rw [UInt8.toNat_ofNat']
    omega
theorem dec_ne (u : Nat) : Lib.decDigits u ≠ [] := by
 rw [Lib.decDigits]
 split <;> simp
theorem parse_append (a b : List UInt8) : ∀ acc, Lib.parseUint10 acc (a ++ b) = match Lib.parseUint10 acc a with | .ok x => Lib.parseUint10 x b | .«syntax» => .«syntax» | .range => .range := by
 induction a with
 | nil => intro acc; simp [Lib.parseUint10]
 | cons c r ih =>
  intro acc
  simp only [List.cons_append, Lib.parseUint10]
  by_cases h1 : 48 ≤ c.toNat ∧ c.toNat ≤ 57
  ·rw [if_pos h1, if_pos h1]
   by_cases h2 : 1844674407370955162 ≤ acc
   ·rw [if_pos h2, if_pos h2]
   ·rw [if_neg h2, if_neg h2]
    by_cases h3 : 18446744073709551616 ≤ acc * 10 + (c.toNat - 48)
    ·rw [if_pos h3, if_pos h3]
    ·rw [if_neg h3, if_neg h3]; exact ih _
  ·rw [if_neg h1, if_neg h1]
theorem parse_dec (u : Nat) : u < 18446744073709551616 → Lib.parseUint10 0 (Lib.decDigits u) = .ok u := by
 induction u using Nat.strongRecOn with
 | _ u ih =>
  intro hu
  rw [Lib.decDigits]
  have hd : ∀ d, d < 10 → (UInt8.ofNat (48 + d)).toNat = 48 + d := fun d hd => by rw [UInt8.toNat_ofNat']; omega
  split
  ·rename_i h
   simp only [Lib.parseUint10]
   rw [hd u h, if_pos (by omega), if_neg (by omega), if_neg (by omega)]
   congr 1; omega
  ·rename_i h
   rw [parse_append, ih (u / 10) (by omega) (by omega)]
   simp only [Lib.parseUint10]
   rw [hd (u % 10) (by omega), if_pos (by omega), if_neg (by omega), if_neg (by omega)]
   congr 1; omega
theorem parse_itoa (n : Int) (h0 : -9223372036854775808 ≤ n) (h1 : n ≤ 9223372036854775807) : Lib.parseIntB 64 (Lib.itoa n) = .ok n := by
 rw [Lib.parseIntB_64]
 unfold Lib.itoa
 split
 ·rename_i hn
  rw [Lib.atoiAll_minus]
  unfold Lib.parseMag
  rw [if_neg (dec_ne _), parse_dec _ (by omega)]
  simp only [Lib.signed]
  rw [if_neg (by omega)]
  congr 1; omega
 ·rename_i hn
  obtain ⟨c, r, hc⟩ := List.exists_cons_of_ne_nil (dec_ne n.toNat)
  have hd := dec_digits n.toNat c (by rw [hc]; exact List.mem_cons_self ..)
  rw [hc, Lib.atoiAll_plain c r (by omega) (by omega), ← hc]
  unfold Lib.parseMag
  rw [if_neg (dec_ne _), parse_dec _ (by omega)]
  simp only [Lib.signless]
  rw [if_neg (by omega)]
  congr 1; omega
theorem itoa_mem (n : Int) : ∀ x ∈ Lib.itoa n, isnum x = true := by
 intro x hx
 have h : x.toNat = 45 ∨ 48 ≤ x.toNat ∧ x.toNat ≤ 57 := by
  unfold Lib.itoa at hx
  split at hx
  ·rcases List.mem_cons.1 hx with rfl | hx
   ·exact .inl rfl
   ·exact .inr (dec_digits _ x hx)
  ·exact .inr (dec_digits _ x hx)
 unfold isnum
 rcases h with h | h
 ·have : x = 45 := UInt8.toNat_inj.1 h
  subst this; rfl
 ·simp [h.1, h.2]
theorem itoa_ne (n : Int) : Lib.itoa n ≠ [] := by
 unfold Lib.itoa
 split
 ·simp
 ·exact dec_ne _
/-- what may stand behind a value: nothing that a number goes on with -/
def nonum (r : List UInt8) : Prop := ∀ c t, r = c :: t → isnum c = false
theorem take_num {a r : List UInt8} (ha : ∀ x ∈ a, isnum x = true) (hr : nonum r) : (a ++ r).takeWhile isnum = a := by
 induction a with
 | nil =>
  cases r with
  | nil => rfl
  | cons c t => simp [hr c t rfl]
 | cons c t ih =>
  rw [List.cons_append, List.takeWhile_cons, if_pos (ha c (List.mem_cons_self ..)), ih (fun x hx => ha x (List.mem_cons_of_mem _ hx))]
theorem readNum_itoa (n : Int) (h0 : -9223372036854775808 ≤ n) (h1 : n ≤ 9223372036854775807) (r : List UInt8) (hr : nonum r) : readNum (Lib.itoa n ++ r) = some (⟨3, n, ⟨#[]⟩, [], []⟩, r) := by
 unfold readNum
 rw [take_num (itoa_mem n) hr, parse_itoa n h0 h1]
 simp

/-! ### texts -/
theorem hexd_hexc : ∀ n : Fin 16, hexd (hexc n.val) = some n.val := by decide +kernel
theorem low_byte : ∀ n : Fin 32, hexd (hexc (n.val / 16)) = some (n.val / 16) ∧ hexd (hexc (n.val % 16)) = some (n.val % 16) ∧ n.val / 16 ≤ 1 ∧ 16 * (n.val / 16) + n.val % 16 = n.val := by decide +kernel
theorem readTx_esc (l : List UInt8) : ∀ out r, readTx out (escL l ++ 34 :: r) = some (out ++ l, r) := by
 induction l with
 | nil => intro out r; simp only [escL, List.flatMap_nil, List.nil_append, List.append_nil]; rw [readTx]; simp
 | cons c t ih =>
  intro out r
  have he : escL (c :: t) ++ 34 :: r = esc1 c ++ (escL t ++ 34 :: r) := by simp [escL]
  rw [he]
  have hfin : ∀ o, o = out ++ [c] → readTx o (escL t ++ 34 :: r) = some (out ++ c :: t, r) := fun o ho => by
   rw [ih o r, ho]; simp
  generalize escL t ++ 34 :: r = R at hfin ⊢
  unfold esc1
  split
  ·rename_i h
   simp only [List.cons_append, List.nil_append]
   rw [readTx, if_neg (by decide), if_pos rfl]
   have hu : unesc (c :: R) = some (c, R) := by
    unfold unesc
    rcases h with rfl | rfl
    ·simp
    ·simp
   split
   ·rename_i x r' e
    rw [hu] at e
    simp only [Option.some.injEq, Prod.mk.injEq] at e
    obtain ⟨rfl, rfl⟩ := e
    exact hfin _ rfl
   ·rename_i e
    rw [hu] at e; cases e
  ·rename_i h
   rw [not_or] at h
   split
   ·rename_i h32
    simp only [List.cons_append, List.nil_append]
    rw [readTx, if_neg (by decide), if_pos rfl]
    obtain ⟨l1, l2, l3, l4⟩ := low_byte ⟨c.toNat, h32⟩
    simp only at l1 l2 l3 l4
    have hu : unesc (117 :: 48 :: 48 :: hexc (c.toNat / 16) :: hexc (c.toNat % 16) :: R) = some (c, R) := by
     unfold unesc
     simp [unhex, l1, l2, l3, l4]
    split
    ·rename_i x r' e
     rw [hu] at e
     simp only [Option.some.injEq, Prod.mk.injEq] at e
     obtain ⟨rfl, rfl⟩ := e
     exact hfin _ rfl
    ·rename_i e
     rw [hu] at e; cases e
   ·rename_i h32
    simp only [List.cons_append, List.nil_append]
    rw [readTx, if_neg h.1, if_neg h.2, if_neg h32]
    exact hfin _ rfl
theorem readQ_jq (l r : List UInt8) : readQ (jq l ++ r) = some (l, r) := by
 unfold readQ jq
 simp only [List.cons_append, List.append_assoc, List.nil_append, List.drop_succ_cons, List.drop_zero]
 rw [if_pos (by simp), readTx_esc]
 simp

/-! ### values -/
theorem fits_succ {d : Nat} {v : V} (h : fitsB (d + 1) v = true) : (1 ≤ v.f0 ∧ v.f0 ≤ 6) ∧ bareB v = true ∧ (if v.f0 = 6 then v.f4.length == v.f3.length && decide v.f4.Nodup else v.f4.length == 0) = true ∧ ∀ x ∈ v.f3, fitsB d x = true := by
 unfold fitsB at h
 simp only [Bool.and_eq_true, decide_eq_true_eq, List.all_eq_true] at h
 exact ⟨⟨h.1.1.1.1, h.1.1.1.2⟩, h.1.1.2, h.1.2, h.2⟩
theorem fits_pos {d : Nat} {v : V} (h : fitsB d v = true) : ∃ e, d = e + 1 := by
 cases d with
 | zero => simp [fitsB] at h
 | succ e => exact ⟨e, rfl⟩
theorem ext_V {v : V} {a b : Int} {t : ByteArray} {l : List V} {k : List ByteArray} (h0 : v.f0 = a) (h1 : v.f1 = b) (h2 : v.f2 = t) (h3 : v.f3 = l) (h4 : v.f4 = k) : v = ⟨a, b, t, l, k⟩ := by
 cases v; simp_all
theorem ba_empty {s : ByteArray} (h : s.size = 0) : s = ⟨#[]⟩ := by
 apply ByteArray.ext
 exact Array.eq_empty_of_size_eq_zero h
/-- a text of a value does not begin as an end, nor as a comma -/
theorem rend_head {d : Nat} {v : V} (h : fitsB d v = true) : ∃ c t, rend d v = c :: t ∧ c ≠ 93 ∧ c ≠ 125 ∧ c ≠ 44 := by
 obtain ⟨d, rfl⟩ := fits_pos h
 unfold rend
 split
 ·exact ⟨_, _, rfl, by decide, by decide, by decide⟩
 ·split
  ·split <;> exact ⟨_, _, rfl, by decide, by decide, by decide⟩
  ·split
   ·obtain ⟨c, t, hc⟩ := List.exists_cons_of_ne_nil (itoa_ne v.f1)
    have hn := itoa_mem v.f1 c (by rw [hc]; exact List.mem_cons_self ..)
    refine ⟨c, t, hc, ?_, ?_, ?_⟩ <;> (rintro rfl; exact absurd hn (by decide))
   ·split
    ·exact ⟨_, _, rfl, by decide, by decide, by decide⟩
    ·split <;> exact ⟨_, _, rfl, by decide, by decide, by decide⟩
theorem commas_cons (x : List UInt8) (l : List (List UInt8)) : commas (x :: l) = x ++ (if l = [] then [] else 44 :: commas l) := by
 cases l with
 | nil => simp [commas]
 | cons y r => simp [commas]
theorem pre1 (c : UInt8) (r : List UInt8) : [c] <+: c :: r := by simp
theorem npre1 {c x : UInt8} (r : List UInt8) (h : c ≠ x) : ¬ [c] <+: x :: r := by simp [h]
theorem npre_nil (c : UInt8) (r : List UInt8) : ¬ (c :: r) <+: ([] : List UInt8) := by simp

/-- the values of a list, one after another -/
theorem items_list (d : Nat) (IH : ∀ v : V, fitsB d v = true → ∀ k r, 4 * (rend d v ++ r).length + 4 ≤ k → nonum r → readV k (rend d v ++ r) = some (v, r)) :
  ∀ (l ls : List V), l ≠ [] → (∀ x ∈ l, fitsB d x = true) → ∀ k r, 4 * (commas (l.map (rend d)) ++ 93 :: r).length + 6 ≤ k → items k false ls [] (commas (l.map (rend d)) ++ 93 :: r) = some (⟨5, 0, ⟨#[]⟩, ls ++ l, []⟩, r) := by
 intro l
 induction l with
 | nil => intro ls h; exact absurd rfl h
 | cons v t ih =>
  intro ls _ hf k r hk
  have hv := hf v (List.mem_cons_self ..)
  rw [List.map_cons, commas_cons] at hk ⊢
  obtain ⟨k, rfl⟩ : ∃ k', k = k' + 2 := ⟨k - 2, by omega⟩
  rw [items, item]
  by_cases ht : t = []
  ·subst ht
   simp only [List.map_nil, if_true, List.append_nil] at hk ⊢
   have hr : nonum (93 :: r) := fun c u e => by injection e with e1 _; subst e1; decide
   rw [IH v hv k (93 :: r) (by omega) hr]
   show (if [endc false] <+: 93 :: r then _ else _) = _
   rw [if_pos (show [endc false] <+: 93 :: r from pre1 93 r)]
   rfl
  ·have hm : t.map (rend d) ≠ [] := by simpa using ht
   rw [if_neg hm] at hk ⊢
   have ha : rend d v ++ 44 :: commas (t.map (rend d)) ++ 93 :: r = rend d v ++ (44 :: (commas (t.map (rend d)) ++ 93 :: r)) := by simp
   rw [ha] at hk ⊢
   have hr : nonum (44 :: (commas (t.map (rend d)) ++ 93 :: r)) := fun c u e => by injection e with e1 _; subst e1; decide
   rw [IH v hv k _ (by omega) hr]
   show (if [endc false] <+: 44 :: _ then _ else _) = _
   rw [if_neg (npre1 (c := endc false) _ (by decide)), if_pos (pre1 44 _)]
   have := ih (ls ++ [v]) ht (fun x hx => hf x (List.mem_cons_of_mem _ hx)) k r (by
    rw [List.length_append, List.length_cons] at hk
    omega)
   rw [List.drop_succ_cons, List.drop_zero, this]
   simp
theorem items_obj (d : Nat) (IH : ∀ v : V, fitsB d v = true → ∀ k r, 4 * (rend d v ++ r).length + 4 ≤ k → nonum r → readV k (rend d v ++ r) = some (v, r)) :
  ∀ (l ls : List V) (ks kk : List ByteArray), l ≠ [] → ks.length = l.length → (∀ x ∈ l, fitsB d x = true) → ∀ k r, 4 * (commas (List.zipWith (fun k x => jq (bl k) ++ 58 :: rend d x) ks l) ++ 125 :: r).length + 6 ≤ k →
   items k true ls kk (commas (List.zipWith (fun k x => jq (bl k) ++ 58 :: rend d x) ks l) ++ 125 :: r) = some (⟨6, 0, ⟨#[]⟩, ls ++ l, kk ++ ks⟩, r) := by
 intro l
 induction l with
 | nil => intro ls ks kk h; exact absurd rfl h
 | cons v t ih =>
  intro ls ks kk _ hl hf k r hk
  obtain ⟨q, ks, rfl⟩ : ∃ q ks', ks = q :: ks' := by cases ks with | nil => simp at hl | cons q ks => exact ⟨q, ks, rfl⟩
  simp only [List.length_cons, Nat.add_right_cancel_iff] at hl
  have hv := hf v (List.mem_cons_self ..)
  rw [List.zipWith_cons_cons, commas_cons] at hk ⊢
  obtain ⟨k, rfl⟩ : ∃ k', k = k' + 2 := ⟨k - 2, by omega⟩
  by_cases ht : t = []
  ·subst ht
   have : ks = [] := by simpa using hl
   subst this
   simp only [List.zipWith_nil_right, if_true, List.append_nil] at hk ⊢
   have ha : jq (bl q) ++ 58 :: rend d v ++ 125 :: r = jq (bl q) ++ (58 :: (rend d v ++ 125 :: r)) := by simp
   rw [ha] at hk ⊢
   rw [items, readQ_jq]
   show (if [58] <+: 58 :: _ then _ else _) = _
   rw [if_pos (pre1 58 _), List.drop_succ_cons, List.drop_zero, item]
   have hr : nonum (125 :: r) := fun c u e => by injection e with e1 _; subst e1; decide
   rw [IH v hv k (125 :: r) (by rw [List.length_append, List.length_cons] at hk; omega) hr]
   show (if [endc true] <+: 125 :: r then _ else _) = _
   rw [if_pos (show [endc true] <+: 125 :: r from pre1 125 r)]
   simp [kindc]
  ·have hm : List.zipWith (fun k x => jq (bl k) ++ 58 :: rend d x) ks t ≠ [] := by
    intro e
    have := congrArg List.length e
    rw [List.length_zipWith, hl] at this
    simp at this
    exact ht this
   rw [if_neg hm] at hk ⊢
   have ha : ∀ Z, jq (bl q) ++ 58 :: rend d v ++ 44 :: Z ++ 125 :: r = jq (bl q) ++ (58 :: (rend d v ++ (44 :: (Z ++ 125 :: r)))) := fun Z => by simp
   rw [ha] at hk ⊢
   rw [items, readQ_jq]
   show (if [58] <+: 58 :: _ then _ else _) = _
   rw [if_pos (pre1 58 _), List.drop_succ_cons, List.drop_zero, item]
   have hr : nonum (44 :: (commas (List.zipWith (fun k x => jq (bl k) ++ 58 :: rend d x) ks t) ++ 125 :: r)) := fun c u e => by injection e with e1 _; subst e1; decide
   rw [IH v hv k _ (by rw [List.length_append, List.length_cons] at hk; omega) hr]
   show (if [endc true] <+: 44 :: _ then _ else _) = _
   rw [if_neg (npre1 (c := endc true) _ (by decide)), if_pos (pre1 44 _)]
   have := ih (ls ++ [v]) ks (kk ++ [q]) ht hl (fun x hx => hf x (List.mem_cons_of_mem _ hx)) k r (by
    rw [List.length_append, List.length_cons, List.length_append, List.length_cons] at hk
    omega)
   rw [List.drop_succ_cons, List.drop_zero, show (ba (bl q)) = q from ba_bl q, this]
   simp

theorem items_head (d : Nat) (v : V) (t : List V) (hv : fitsB d v = true) (r : List UInt8) : ¬ [(93 : UInt8)] <+: commas ((v :: t).map (rend d)) ++ r := by
 obtain ⟨c, u, hc, h1, h2, h3⟩ := rend_head hv
 rw [List.map_cons, commas_cons, hc]
 simp [Ne.symm h1]

/-- Reading a value's text, whatever stands behind it. -/
theorem readV_rend : ∀ (d : Nat) (v : V), fitsB d v = true → ∀ k r, 4 * (rend d v ++ r).length + 4 ≤ k → nonum r → readV k (rend d v ++ r) = some (v, r) := by
 intro d
 induction d with
 | zero => intro v h; simp [fitsB] at h
 | succ d IH =>
  intro v h k r hk hr
  obtain ⟨⟨p0, p1⟩, hb, hkeys, hl⟩ := fits_succ h
  obtain ⟨k, rfl⟩ : ∃ k', k = k' + 2 := ⟨k - 2, by omega⟩
  unfold bareB at hb
  simp only [Bool.and_eq_true, Bool.or_eq_true, beq_iff_eq, decide_eq_true_eq] at hb
  obtain ⟨⟨⟨hb1, hb2⟩, hb3⟩, hb4⟩ := hb
  rw [rend] at hk ⊢
  by_cases c1 : v.f0 = 1
  ·rw [if_pos c1]
   have hvv : v = ⟨1, 0, ⟨#[]⟩, [], []⟩ := ext_V c1 (by omega) (ba_empty (by omega)) (List.eq_nil_of_length_eq_zero (by omega)) (List.eq_nil_of_length_eq_zero (by rw [if_neg (by omega)] at hkeys; simpa using hkeys))
   rw [readV, if_pos (List.prefix_append ..), hvv]
   rfl
  by_cases c2 : v.f0 = 2
  ·rw [if_neg c1, if_pos c2]
   have hg : ∀ b, v.f1 = b → v = ⟨2, b, ⟨#[]⟩, [], []⟩ := fun b hb => ext_V c2 hb (ba_empty (by omega)) (List.eq_nil_of_length_eq_zero (by omega)) (List.eq_nil_of_length_eq_zero (by rw [if_neg (by omega)] at hkeys; simpa using hkeys))
   by_cases e1 : v.f1 = 1
   ·rw [if_pos e1, readV, if_neg (by simp [w_true, w_null]), if_pos (List.prefix_append ..), hg 1 e1]
    rfl
   ·rw [if_neg e1, readV, if_neg (by simp [w_false, w_null]), if_neg (by simp [w_false, w_true]), if_pos (List.prefix_append ..), hg 0 (by omega)]
    rfl
  by_cases c3 : v.f0 = 3
  ·rw [if_neg c1, if_neg c2, if_pos c3]
   have hvv : v = ⟨3, v.f1, ⟨#[]⟩, [], []⟩ := ext_V c3 rfl (ba_empty (by omega)) (List.eq_nil_of_length_eq_zero (by omega)) (List.eq_nil_of_length_eq_zero (by rw [if_neg (by omega)] at hkeys; simpa using hkeys))
   obtain ⟨c, t, hc⟩ := List.exists_cons_of_ne_nil (itoa_ne v.f1)
   have hn := itoa_mem v.f1 c (by rw [hc]; exact List.mem_cons_self ..)
   have hx : ∀ (x : UInt8) (q : List UInt8), isnum x = false → ¬ (x :: q) <+: Lib.itoa v.f1 ++ r := fun x q hx hp => by
    rw [hc, List.cons_append, List.cons_prefix_cons] at hp
    rw [hp.1, hn] at hx
    cases hx
   have hrn := readNum_itoa v.f1 (by omega) (by omega) r hr
   rw [readV, if_neg (show ¬ w_null <+: _ from hx 110 _ (by decide)), if_neg (show ¬ w_true <+: _ from hx 116 _ (by decide)), if_neg (show ¬ w_false <+: _ from hx 102 _ (by decide)), if_neg (hx 34 _ (by decide)), if_neg (hx 91 _ (by decide)), if_neg (hx 123 _ (by decide)), hrn]
   exact congrArg (fun z => some (z, r)) hvv.symm
  by_cases c4 : v.f0 = 4
  ·rw [if_neg c1, if_neg c2, if_neg c3, if_pos c4]
   have hvv : v = ⟨4, 0, v.f2, [], []⟩ := ext_V c4 (by omega) rfl (List.eq_nil_of_length_eq_zero (by omega)) (List.eq_nil_of_length_eq_zero (by rw [if_neg (by omega)] at hkeys; simpa using hkeys))
   rw [readV, if_neg (by simp [w_null, jq]), if_neg (by simp [w_true, jq]), if_neg (by simp [w_false, jq]), if_pos (by simp [jq]), readQ_jq]
   simp only [Option.map_some, ba_bl]
   exact congrArg (fun z => some (z, r)) hvv.symm
  by_cases c5 : v.f0 = 5
  ·rw [if_neg c1, if_neg c2, if_neg c3, if_neg c4, if_pos c5] at hk ⊢
   have hvv : v = ⟨5, 0, ⟨#[]⟩, v.f3, []⟩ := ext_V c5 (by omega) (ba_empty (by omega)) rfl (List.eq_nil_of_length_eq_zero (by rw [if_neg (by omega)] at hkeys; simpa using hkeys))
   have ha : 91 :: (commas (v.f3.map (rend d)) ++ [93]) ++ r = 91 :: (commas (v.f3.map (rend d)) ++ 93 :: r) := by simp
   rw [ha] at hk ⊢
   rw [readV, if_neg (by simp [w_null]), if_neg (by simp [w_true]), if_neg (by simp [w_false]), if_neg (npre1 _ (by decide)), if_pos (pre1 ..), List.drop_succ_cons, List.drop_zero, readRow]
   by_cases hn : v.f3 = []
   ·rw [hn]
    show (if [endc false] <+: 93 :: r then _ else _) = _
    rw [if_pos (show [endc false] <+: 93 :: r from pre1 93 r), hvv, hn]
    rfl
   ·have hh : ¬ [endc false] <+: commas (v.f3.map (rend d)) ++ 93 :: r := by
     cases hq : v.f3 with
     | nil => exact absurd hq hn
     | cons x t => exact items_head d x t (hl x (by rw [hq]; exact List.mem_cons_self ..)) _
    rw [if_neg hh, items_list d (fun v hv k r => IH v hv k r) v.f3 [] hn hl k r (by rw [List.length_cons] at hk; omega)]
    exact congrArg (fun z => some (z, r)) hvv.symm
  ·have c6 : v.f0 = 6 := by omega
   rw [if_neg c1, if_neg c2, if_neg c3, if_neg c4, if_neg c5, if_pos c6] at hk ⊢
   rw [if_pos c6, Bool.and_eq_true] at hkeys
   have hkl : v.f4.length = v.f3.length := by simpa using hkeys.1
   have hvv : v = ⟨6, 0, ⟨#[]⟩, v.f3, v.f4⟩ := ext_V c6 (by omega) (ba_empty (by omega)) rfl rfl
   have ha : ∀ Z, 123 :: (Z ++ [(125 : UInt8)]) ++ r = 123 :: (Z ++ 125 :: r) := fun Z => by simp
   rw [ha] at hk ⊢
   rw [readV, if_neg (by simp [w_null]), if_neg (by simp [w_true]), if_neg (by simp [w_false]), if_neg (npre1 _ (by decide)), if_neg (npre1 _ (by decide)), if_pos (pre1 ..), List.drop_succ_cons, List.drop_zero, readRow]
   by_cases hn : v.f3 = []
   ·have hn4 : v.f4 = [] := List.eq_nil_of_length_eq_zero (by rw [hkl, hn]; rfl)
    rw [hn, hn4]
    show (if [endc true] <+: 125 :: r then _ else _) = _
    rw [if_pos (show [endc true] <+: 125 :: r from pre1 125 r), hvv, hn, hn4]
    rfl
   ·have hh : ¬ [endc true] <+: commas (List.zipWith (fun k x => jq (bl k) ++ 58 :: rend d x) v.f4 v.f3) ++ 125 :: r := by
     cases hq : v.f3 with
     | nil => exact absurd hq hn
     | cons x t =>
      cases hq4 : v.f4 with
      | nil => rw [hq, hq4] at hkl; simp at hkl
      | cons y u => rw [List.zipWith_cons_cons, commas_cons]; simp [jq, endc]
    rw [if_neg hh, items_obj d (fun v hv k r => IH v hv k r) v.f3 [] v.f4 [] hn hkl hl k r (by rw [List.length_cons] at hk; omega)]
    exact congrArg (fun z => some (z, r)) hvv.symm
end Go.Proofs.YtifejhbochkifaaGreatDoor.X

/-! HJsB -/
namespace Go.Proofs.YtifejhbochkifaaGreatDoor.X
open Go.RowKit Go.Proofs.YtifejhbochkifaaGreatDoorW.PrintWords Go.Proofs.YtifejhbochkifaaGreatDoor.Spec
set_option linter.unusedVariables false
theorem esc1_le (c : UInt8) : (esc1 c).length ≤ 6 := by
 unfold esc1
 split
 ·simp
 ·split <;> simp
theorem escL_snoc6 (l : List UInt8) (c : UInt8) : (escL (l ++ [c])).length ≤ (escL l).length + 6 := by
 have := esc1_le c
 simp only [escL, List.flatMap_append, List.flatMap_cons, List.flatMap_nil, List.append_nil, List.length_append]
 omega
theorem readTx_bound : ∀ (n : Nat) (l out t r : List UInt8), l.length ≤ n → readTx out l = some (t, r) → (escL t).length + 6 * r.length + 6 ≤ (escL out).length + 6 * l.length := by
 intro n
 induction n with
 | zero => intro l out t r hn h; cases l with
  | nil => rw [readTx] at h; cases h
  | cons c l => simp at hn
 | succ n ih =>
  intro l out t r hn h
  cases l with
  | nil => rw [readTx] at h; cases h
  | cons c l =>
   simp only [List.length_cons] at hn ⊢
   rw [readTx] at h
   split at h
   ·simp only [Option.some.injEq, Prod.mk.injEq] at h
    rw [← h.1, ← h.2]; omega
   ·split at h
    ·split at h
     ·rename_i x r' e
      have h1 := unesc_len e
      have h2 := ih r' _ _ _ (by omega) h
      have h3 := escL_snoc6 out x
      omega
     ·cases h
    ·split at h
     ·cases h
     ·have h2 := ih l _ _ _ (by omega) h
      have h3 := escL_snoc6 out c
      omega
theorem readQ_bound {l t r : List UInt8} (h : readQ l = some (t, r)) : (jq t).length + 6 * r.length ≤ 6 * l.length ∧ r.length ≤ l.length := by
 have h0 := readQ_len h
 unfold readQ at h
 split at h
 ·rename_i hp
  have h1 := hp.length_le
  have h2 := readTx_bound _ _ _ _ _ (Nat.le_refl _) h
  rw [List.length_drop] at h2
  simp only [List.length_singleton] at h1
  have h3 : (escL []).length = 0 := rfl
  simp only [jq, List.length_cons, List.length_append, List.length_nil]
  omega
 ·cases h
theorem commas_snoc (l : List (List UInt8)) (p : List UInt8) : (commas (l ++ [p])).length ≤ (commas l).length + 1 + p.length := by
 induction l with
 | nil => simp [commas]
 | cons x l ih =>
  rw [List.cons_append, commas_cons, commas_cons]
  rw [if_neg (by simp)]
  split
  ·rename_i h; subst h; simp [commas]; omega
  ·simp only [List.length_append, List.length_cons]; omega
def partsB (d : Nat) : Bool → List V → List ByteArray → List (List UInt8)
  | true, ls, ks => List.zipWith (fun k x => jq (bl k) ++ 58 :: rend d x) ks ls
  | false, ls, _ => ls.map (rend d)
theorem rendB_row (d : Nat) (obj : Bool) (ls : List V) (ks : List ByteArray) : (rend (d + 1) ⟨kindc obj, 0, ⟨#[]⟩, ls, ks⟩).length = (commas (partsB d obj ls ks)).length + 2 := by
 cases obj
 ·show (91 :: (commas (ls.map (rend d)) ++ [93])).length = _
  simp [partsB]
 ·show (123 :: (commas (List.zipWith (fun k x => jq (bl k) ++ 58 :: rend d x) ks ls) ++ [125])).length = _
  simp [partsB]
theorem partsB_obj (d : Nat) (ls : List V) (ks : List ByteArray) (x : V) (t : ByteArray) (h : ks.length = ls.length) : partsB d true (ls ++ [x]) (ks ++ [t]) = partsB d true ls ks ++ [jq (bl t) ++ 58 :: rend d x] := by
 simp only [partsB]
 rw [List.zipWith_append h]
 rfl
theorem partsB_list (d : Nat) (ls : List V) (ks : List ByteArray) (x : V) : partsB d false (ls ++ [x]) ks = partsB d false ls ks ++ [rend d x] := by
 simp [partsB]
theorem pre_len {a l : List UInt8} (h : a <+: l) : a.length ≤ l.length := h.length_le
theorem parse_itoa_len {l : List UInt8} {x : Int} (h : Lib.itoa x = l.takeWhile isnum) : (Lib.itoa x).length + (l.drop (l.takeWhile isnum).length).length = l.length := by
 rw [h, List.length_drop]
 have := (List.takeWhile_sublist (l := l) isnum).length_le
 omega
theorem rend0_len (n : Nat) {a b : Nat} (h : a ≤ b) (v : V) : (rend 0 v).length + 6 * a ≤ 6 * b := by
 show 0 + _ ≤ _
 omega
theorem read_bound : ∀ k,
  (∀ s v r, readV k s = some (v, r) → (∀ d, (rend d v).length + 6 * r.length ≤ 6 * s.length) ∧ r.length ≤ s.length) ∧
  (∀ obj s v r, readRow k obj s = some (v, r) → (∀ d, (rend d v).length + 6 * r.length ≤ 6 * s.length + 6) ∧ r.length ≤ s.length) ∧
  (∀ obj ls ks s v r, (obj = true → ks.length = ls.length) → items k obj ls ks s = some (v, r) → (∀ d, (rend (d + 1) v).length + 6 * r.length ≤ (commas (partsB d obj ls ks)).length + 6 * s.length) ∧ r.length ≤ s.length) ∧
  (∀ ls ks s v r, item k false ls ks s = some (v, r) → (∀ d, (rend (d + 1) v).length + 6 * r.length ≤ (commas (partsB d false ls ks)).length + 6 * s.length) ∧ r.length ≤ s.length) ∧
  (∀ ls ks t s v r, ks.length = ls.length → item k true ls (ks ++ [t]) s = some (v, r) → (∀ d, (rend (d + 1) v).length + 6 * r.length ≤ (commas (partsB d true ls ks)).length + (jq (bl t)).length + 1 + 6 * s.length) ∧ r.length ≤ s.length) := by
 intro k
 induction k with
 | zero =>
  refine ⟨?_, ?_, ?_, ?_, ?_⟩
  ·intro s v r h; rw [readV] at h; cases h
  ·intro obj s v r h; rw [readRow] at h; cases h
  ·intro obj ls ks s v r _ h; rw [items] at h; cases h
  ·intro ls ks s v r h; rw [item] at h; cases h
  ·intro ls ks t s v r _ h; rw [item] at h; cases h
 | succ k ih =>
  obtain ⟨ihV, ihR, ihI, ihL, ihO⟩ := ih
  refine ⟨?_, ?_, ?_, ?_, ?_⟩
  ·intro s v r h
   rw [readV] at h
   split at h
   ·rename_i hp
    have := pre_len hp
    simp only [w_null, List.length_cons, List.length_nil] at this
    simp only [Option.some.injEq, Prod.mk.injEq] at h
    obtain ⟨rfl, rfl⟩ := h
    refine ⟨fun d => ?_, by rw [List.length_drop]; omega⟩
    cases d with
    | zero => exact rend0_len 0 (by rw [List.length_drop]; omega) _
    | succ d => show w_null.length + _ ≤ _; rw [List.length_drop]; simp only [w_null, List.length_cons, List.length_nil]; omega
   ·split at h
    ·rename_i hp
     have := pre_len hp
     simp only [w_true, List.length_cons, List.length_nil] at this
     simp only [Option.some.injEq, Prod.mk.injEq] at h
     obtain ⟨rfl, rfl⟩ := h
     refine ⟨fun d => ?_, by rw [List.length_drop]; omega⟩
     cases d with
     | zero => exact rend0_len 0 (by rw [List.length_drop]; omega) _
     | succ d => show w_true.length + _ ≤ _; rw [List.length_drop]; simp only [w_true, List.length_cons, List.length_nil]; omega
    ·split at h
     ·rename_i hp
      have := pre_len hp
      simp only [w_false, List.length_cons, List.length_nil] at this
      simp only [Option.some.injEq, Prod.mk.injEq] at h
      obtain ⟨rfl, rfl⟩ := h
      refine ⟨fun d => ?_, by rw [List.length_drop]; omega⟩
      cases d with
      | zero => exact rend0_len 0 (by rw [List.length_drop]; omega) _
      | succ d => show w_false.length + _ ≤ _; rw [List.length_drop]; simp only [w_false, List.length_cons, List.length_nil]; omega
     ·split at h
      ·rw [Option.map_eq_some_iff] at h
       obtain ⟨⟨t, r'⟩, hq, he⟩ := h
       simp only [Prod.mk.injEq] at he
       obtain ⟨rfl, rfl⟩ := he
       have hb := readQ_bound hq
       refine ⟨fun d => ?_, hb.2⟩
       cases d with
       | zero => exact rend0_len 0 hb.2 _
       | succ d => show (jq (bl (ba t))).length + _ ≤ _; rw [bl_ba]; exact hb.1
      ·split at h
       ·rename_i hp
        have h1 := pre_len hp
        have h2 := ihR false _ _ _ h
        rw [List.length_drop] at h2
        simp only [List.length_singleton] at h1
        exact ⟨fun d => by have := h2.1 d; omega, by omega⟩
       ·split at h
        ·rename_i hp
         have h1 := pre_len hp
         have h2 := ihR true _ _ _ h
         rw [List.length_drop] at h2
         simp only [List.length_singleton] at h1
         exact ⟨fun d => by have := h2.1 d; omega, by omega⟩
        ·unfold readNum at h
         split at h
         ·split at h
          ·rename_i x _ hx
           simp only [Option.some.injEq, Prod.mk.injEq] at h
           obtain ⟨rfl, rfl⟩ := h
           have hl := parse_itoa_len hx
           refine ⟨fun d => ?_, by omega⟩
           cases d with
           | zero => exact rend0_len 0 (by omega) _
           | succ d => show (Lib.itoa x).length + _ ≤ _; omega
          ·cases h
         ·cases h
  ·intro obj s v r h
   rw [readRow] at h
   split at h
   ·rename_i hp
    have h1 := pre_len hp
    simp only [List.length_singleton] at h1
    simp only [Option.some.injEq, Prod.mk.injEq] at h
    obtain ⟨rfl, rfl⟩ := h
    rw [List.length_drop]
    refine ⟨fun d => ?_, by omega⟩
    cases d with
    | zero => show 0 + _ ≤ _; omega
    | succ d =>
     rw [rendB_row]
     have : (commas (partsB d obj [] [])).length = 0 := by cases obj <;> rfl
     omega
   ·have h2 := ihI obj [] [] s v r (fun _ => rfl) h
    refine ⟨fun d => ?_, h2.2⟩
    cases d with
    | zero => show 0 + _ ≤ _; omega
    | succ d =>
     have h3 := h2.1 d
     have : (commas (partsB d obj [] [])).length = 0 := by cases obj <;> rfl
     omega
  ·intro obj ls ks s v r hk h
   cases obj with
   | true =>
    rw [items] at h
    split at h
    ·rename_i t r' hq
     split at h
     ·rename_i hp
      have h1 := pre_len hp
      simp only [List.length_singleton] at h1
      have hb := readQ_bound hq
      have h2 := ihO ls ks (ba t) _ v r (hk rfl) h
      rw [bl_ba, List.length_drop] at h2
      exact ⟨fun d => by have := h2.1 d; omega, by omega⟩
     ·cases h
    ·cases h
   | false =>
    rw [items] at h
    exact ihL ls ks s v r h
  ·intro ls ks s v r h
   rw [item] at h
   split at h
   ·rename_i x r' hx
    have hv := ihV _ _ _ hx
    split at h
    ·rename_i hp
     have h1 := pre_len hp
     simp only [List.length_singleton] at h1
     simp only [Option.some.injEq, Prod.mk.injEq] at h
     obtain ⟨rfl, rfl⟩ := h
     rw [List.length_drop]
     refine ⟨fun d => ?_, by omega⟩
     rw [rendB_row, partsB_list]
     have h3 := commas_snoc (partsB d false ls ks) (rend d x)
     have h4 := hv.1 d
     omega
    ·split at h
     ·rename_i hp
      have h1 := pre_len hp
      simp only [List.length_singleton] at h1
      have h2 := ihI false (ls ++ [x]) ks _ v r (fun e => by cases e) h
      rw [List.length_drop] at h2
      refine ⟨fun d => ?_, by omega⟩
      have h3 := commas_snoc (partsB d false ls ks) (rend d x)
      have h4 := hv.1 d
      have h5 := h2.1 d
      rw [partsB_list] at h5
      omega
     ·cases h
   ·cases h
  ·intro ls ks t s v r hk h
   rw [item] at h
   split at h
   ·rename_i x r' hx
    have hv := ihV _ _ _ hx
    split at h
    ·rename_i hp
     have h1 := pre_len hp
     simp only [List.length_singleton] at h1
     simp only [Option.some.injEq, Prod.mk.injEq] at h
     obtain ⟨rfl, rfl⟩ := h
     rw [List.length_drop]
     refine ⟨fun d => ?_, by omega⟩
     rw [rendB_row, partsB_obj d ls ks x t hk]
     have h3 := commas_snoc (partsB d true ls ks) (jq (bl t) ++ 58 :: rend d x)
     have h4 := hv.1 d
     simp only [List.length_append, List.length_cons] at h3
     omega
    ·split at h
     ·rename_i hp
      have h1 := pre_len hp
      simp only [List.length_singleton] at h1
      have h2 := ihI true (ls ++ [x]) (ks ++ [t]) _ v r (fun _ => by simp [hk]) h
      rw [List.length_drop] at h2
      refine ⟨fun d => ?_, by omega⟩
      have h3 := commas_snoc (partsB d true ls ks) (jq (bl t) ++ 58 :: rend d x)
      have h4 := hv.1 d
      have h5 := h2.1 d
      rw [partsB_obj d ls ks x t hk] at h5
      simp only [List.length_append, List.length_cons] at h3
      omega
     ·cases h
   ·cases h
end Go.Proofs.YtifejhbochkifaaGreatDoor.X

/-! HRdr -/
namespace Go.Proofs.YtifejhbochkifaaGreatDoor.X
open Go.RowKit Go.Proofs.YtifejhbochkifaaGreatDoorW.PrintWords Go.Proofs.YtifejhbochkifaaGreatDoorW.PrintLast Go.Proofs.YtifejhbochkifaaGreatDoorW.PrintMore Go.Proofs.YtifejhbochkifaaGreatDoor.Spec
set_option linter.unusedVariables false
set_option linter.unusedSimpArgs false

/-- The reader in block b: what is left of the text, and whether something was wrong. -/
def Rs (w : World) (b : Nat) (s : List UInt8) (bad : Bool) : Prop := w.heap[b]? = some (.cells #[.string (ba s), .bool bad] 46 (0, 0))
theorem Rs.c0 {w : World} {b : Nat} {s : List UInt8} {bad : Bool} (h : Rs w b s bad) : w.cell? ⟨b, 0, none⟩ = some (.string (ba s)) := (blk_cell h 0).trans rfl
theorem Rs.c1 {w : World} {b : Nat} {s : List UInt8} {bad : Bool} (h : Rs w b s bad) : w.cell? ⟨b, 1, none⟩ = some (.bool bad) := (blk_cell h 1).trans rfl
theorem Rs.lt {w : World} {b : Nat} {s : List UInt8} {bad : Bool} (h : Rs w b s bad) : b < w.heap.size := blk_lt h
theorem set_heap {w : World} {b j : Nat} {cells : Array Value} {T : TypeId} (h : w.heap[b]? = some (.cells cells T (0, 0))) (v : Value) : (w.setCell ⟨b, j, none⟩ v).heap[b]? = some (.cells (cells.setIfInBounds j v) T (0, 0)) := blk_set h j v
theorem Rs.set0 {w : World} {b : Nat} {s s' : List UInt8} {bad : Bool} (h : Rs w b s bad) : Rs (w.setCell ⟨b, 0, none⟩ (.string (ba s'))) b s' bad := (set_heap h _).trans rfl
theorem Rs.set1 {w : World} {b : Nat} {s : List UInt8} {bad bad' : Bool} (h : Rs w b s bad) : Rs (w.setCell ⟨b, 1, none⟩ (.bool bad')) b s bad' := (set_heap h _).trans rfl
theorem Rs.below {w w' : World} {b : Nat} {s : List UInt8} {bad : Bool} (h : Rs w b s bad) (hb : Below w.heap.size w w') : Rs w' b s bad := blk_below h hb
theorem Rs.alloc {w : World} {b : Nat} {s : List UInt8} {bad : Bool} (h : Rs w b s bad) (o : Obj) : Rs (w.alloc o) b s bad := blk_alloc h o
theorem Rs.grown {w w' : World} {b : Nat} {s : List UInt8} {bad : Bool} {row : Option Nat} (h : Rs w b s bad) (hg : w.grownBy w' row) (hn : some b ≠ row) : Rs w' b s bad := (hg.block b h.lt hn).trans h
theorem gb_set (w : World) (b j : Nat) (v : Value) : w.grownBy (w.setCell ⟨b, j, none⟩ v) (some b) :=
 ⟨rfl, rfl, rfl, by simp, fun i hi hn => Below.heap_setCell w ⟨b, j, none⟩ v i (fun e => hn (congrArg some e))⟩

theorem cut_prefix (s p : ByteArray) (w : World) :
  Calls Tryz.prog 58 #[.string s, .string p] w fun e w' => e = .returned (.tuple #[.string ⟨(Lib.trimPrefix s.data.toList p.data.toList).toArray⟩, .bool (Lib.hasPrefix s.data.toList p.data.toList)]) ∧ w' = w := by
 go_enter Tryz.func58, Tryz.ntmps58
 go_wp2
 ·have h2 : (!((s.extract 0 p.size).toList == p.toList)) = true := by assumption
  have h3 : (decide (p.size ≤ s.size) && ((s.extract 0 p.size).toList == p.toList)) = false := by
   have : ((s.extract 0 p.size).toList == p.toList) = false := by simpa using h2
   rw [this]
   simp
  go_ret2
  refine ⟨?_, rfl⟩
  rw [Lib.trimPrefix_miss s p h3, ← Lib.hasPrefix_raw, h3]
  rfl
 ·have h1 : p.size ≤ s.size := by assumption
  have h2 : (!((s.extract 0 p.size).toList == p.toList)) = false := by assumption
  have h2' : ((s.extract 0 p.size).toList == p.toList) = true := by simpa using h2
  go_ret2
  refine ⟨?_, rfl⟩
  rw [Lib.trimPrefix_hit s p h1 h2', ← Lib.hasPrefix_raw, h2', decide_eq_true h1]
  rfl
 ·have h1 : ¬ p.size ≤ s.size := by assumption
  have h3 : (decide (p.size ≤ s.size) && ((s.extract 0 p.size).toList == p.toList)) = false := by simp [h1]
  go_ret2
  refine ⟨?_, rfl⟩
  rw [Lib.trimPrefix_miss s p h3, ← Lib.hasPrefix_raw, h3]
  rfl
theorem cut_yes (s p : List UInt8) (h : p <+: s) (w : World) : Calls Tryz.prog 58 #[.string (ba s), .string (ba p)] w fun e w' => e = .returned (.tuple #[.string (ba (s.drop p.length)), .bool true]) ∧ w' = w := by
 refine (cut_prefix (ba s) (ba p) w).mono ?_
 rintro e w' ⟨rfl, rfl⟩
 have h2 : Lib.hasPrefix s p = true := by unfold Lib.hasPrefix; exact List.isPrefixOf_iff_prefix.2 h
 refine ⟨?_, rfl⟩
 have e1 : Lib.hasPrefix (ba s).data.toList (ba p).data.toList = true := h2
 have e2 : Lib.trimPrefix (ba s).data.toList (ba p).data.toList = s.drop p.length := by unfold Lib.trimPrefix; rw [e1]; rfl
 rw [e1, e2]; rfl
theorem cut_no (s p : List UInt8) (h : ¬ p <+: s) (w : World) : Calls Tryz.prog 58 #[.string (ba s), .string (ba p)] w fun e w' => e = .returned (.tuple #[.string (ba s), .bool false]) ∧ w' = w := by
 refine (cut_prefix (ba s) (ba p) w).mono ?_
 rintro e w' ⟨rfl, rfl⟩
 have h2 : Lib.hasPrefix s p = false := by
  unfold Lib.hasPrefix
  exact Bool.eq_false_iff.2 (fun hh => h (List.isPrefixOf_iff_prefix.1 hh))
 refine ⟨?_, rfl⟩
 have e1 : Lib.hasPrefix (ba s).data.toList (ba p).data.toList = false := h2
 have e2 : Lib.trimPrefix (ba s).data.toList (ba p).data.toList = s := by unfold Lib.trimPrefix; rw [e1]; rfl
 rw [e1, e2]; rfl

set_option maxHeartbeats 1000000 in
theorem take_yes (b : Nat) (s p : List UInt8) (bad : Bool) (w : World) (h : Rs w b s bad) (hp : p <+: s) :
  Calls Tryz.prog 38 #[.pointer (some ⟨b, 0, none⟩), .string (ba p)] w fun e w' => e = .returned (.bool true) ∧ Rs w' b (s.drop p.length) bad ∧ w.grownBy w' (some b) := by
 have H := Aside0.mk h
 have h0 := h.c0
 have f0 := blk_frozen h 0
 have HP := Aside0.mk hp
 clear h hp
 go_enter Tryz.func38, Tryz.ntmps38
 go_wp2_with fail
 refine (cut_yes s p HP.out w).mono ?_
 rintro e w1 ⟨rfl, rfl⟩
 go_wp2
 go_ret
 exact ⟨rfl, H.out.set0, gb_set w1 b 0 _⟩
set_option maxHeartbeats 1000000 in
theorem take_no (b : Nat) (s p : List UInt8) (bad : Bool) (w : World) (h : Rs w b s bad) (hp : ¬ p <+: s) :
  Calls Tryz.prog 38 #[.pointer (some ⟨b, 0, none⟩), .string (ba p)] w fun e w' => e = .returned (.bool false) ∧ w' = w := by
 have h0 := h.c0
 have HP := Aside0.mk hp
 clear h hp
 go_enter Tryz.func38, Tryz.ntmps38
 go_wp2_with fail
 refine (cut_no s p HP.out w).mono ?_
 rintro e w1 ⟨rfl, rfl⟩
 go_wp2
 go_ret
 exact ⟨rfl, rfl⟩
set_option maxHeartbeats 1000000 in
theorem need_yes (b : Nat) (s p : List UInt8) (bad : Bool) (w : World) (h : Rs w b s bad) (hp : p <+: s) :
  Calls Tryz.prog 60 #[.pointer (some ⟨b, 0, none⟩), .string (ba p)] w fun e w' => e = .returned (.tuple #[]) ∧ Rs w' b (s.drop p.length) bad ∧ w.grownBy w' (some b) := by
 have H := Aside0.mk h
 have HP := Aside0.mk hp
 clear h hp
 go_enter Tryz.func60, Tryz.ntmps60
 go_wp2_with fail
 refine (take_yes b s p bad w H.out HP.out).mono ?_
 rintro e w1 ⟨rfl, h1, g1⟩
 have h1c := h1.c1
 have f1 := blk_frozen h1 1
 have H1 := Aside0.mk h1
 have G1 := Aside0.mk g1
 clear h1 g1
 go_wp2
 go_end0
 exact ⟨rfl, H1.out.set1, G1.out.trans (gb_set w1 b 1 _)⟩
set_option maxHeartbeats 1000000 in
theorem need_no (b : Nat) (s p : List UInt8) (bad : Bool) (w : World) (h : Rs w b s bad) (hp : ¬ p <+: s) :
  Calls Tryz.prog 60 #[.pointer (some ⟨b, 0, none⟩), .string (ba p)] w fun e w' => e = .returned (.tuple #[]) ∧ Rs w' b s true ∧ w.grownBy w' (some b) := by
 have H := Aside0.mk h
 have HP := Aside0.mk hp
 clear h hp
 go_enter Tryz.func60, Tryz.ntmps60
 go_wp2_with fail
 refine (take_no b s p bad w H.out HP.out).mono ?_
 rintro e w1 ⟨rfl, rfl⟩
 have h1c := H.out.c1
 have f1 := blk_frozen H.out 1
 go_wp2
 go_end0
 exact ⟨rfl, H.out.set1, gb_set w1 b 1 _⟩
end Go.Proofs.YtifejhbochkifaaGreatDoor.X

/-! HEsc -/
namespace Go.Proofs.YtifejhbochkifaaGreatDoor.X
open Go.RowKit Go.Proofs.YtifejhbochkifaaGreatDoorW.PrintWords Go.Proofs.YtifejhbochkifaaGreatDoorW.PrintLast Go.Proofs.YtifejhbochkifaaGreatDoorW.PrintMore Go.Proofs.YtifejhbochkifaaGreatDoor.Spec
set_option linter.unusedVariables false
set_option linter.unusedSimpArgs false
def digitsA : ByteArray := ⟨#[48, 49, 50, 51, 52, 53, 54, 55, 56, 57, 97, 98, 99, 100, 101, 102]⟩
def hexi (c : UInt8) : Int := match hexd c with | some n => n | none => -1
theorem hexi_fin : ∀ n : Fin 256, Lib.indexByte (bl digitsA) (UInt8.ofNat n.val) = hexi (UInt8.ofNat n.val) := by decide +kernel
theorem hexi_call (c : UInt8) (w : World) : Calls Tryz.prog 78 #[.string (⟨#[48, 49, 50, 51, 52, 53, 54, 55, 56, 57, 97, 98, 99, 100, 101, 102]⟩ : ByteArray), .int .u8 (c.toNat : Int)] w fun e w' => e = .returned (.int .i64 (hexi c)) ∧ w' = w := by
 refine (Tryz.strings_IndexByte _ _ w).mono ?_
 rintro e w' ⟨rfl, rfl⟩
 refine ⟨?_, rfl⟩
 have h := hexi_fin ⟨c.toNat, c.toNat_lt⟩
 simp only [UInt8.ofNat_toNat] at h
 rw [← h, show (c.toNat : Int).toNat.toUInt8 = c from by rw [Int.toNat_natCast]; exact UInt8.ofNat_toNat]
 rfl
theorem hexi_range (c : UInt8) : -1 ≤ hexi c ∧ hexi c < 16 := by
 unfold hexi hexd
 split
 ·rename_i n e
  split at e
  ·injection e with e; omega
  ·split at e
   ·injection e with e; omega
   ·cases e
 ·omega
theorem hexi_some {c : UInt8} (h : 0 ≤ hexi c) : hexd c = some (hexi c).toNat := by
 unfold hexi at h ⊢
 split at h
 ·rename_i n e; rw [e]; simp
 ·omega
theorem hexi_none {c : UInt8} (h : hexi c < 0) : hexd c = none := by
 unfold hexi at h
 split at h
 ·omega
 ·rename_i e; exact e
theorem or_fin : ∀ a b : Fin 16, bits BinOp.or IntKind.i64 ((a.val : Int) * 16) (b.val : Int) % 256 = ((UInt8.ofNat (16 * a.val + b.val)).toNat : Int) := by decide +kernel
theorem or_hex (x y : Int) (h0 : 0 ≤ x) (h1 : x < 16) (g0 : 0 ≤ y) (g1 : y < 16) : bits BinOp.or IntKind.i64 (x * 16) y % 256 = ((UInt8.ofNat (16 * x.toNat + y.toNat)).toNat : Int) := by
 have := or_fin ⟨x.toNat, by omega⟩ ⟨y.toNat, by omega⟩
 simp only [Int.toNat_of_nonneg h0, Int.toNat_of_nonneg g0] at this
 exact this

/-- What escaped leaves. -/
def EscOut (w : World) (b : Nat) (s : List UInt8) (e : Ending) (w' : World) : Prop :=
  ∃ (x : Int) (s' : List UInt8) (bad : Bool), e = .returned (.int .u8 x) ∧ Rs w' b s' bad ∧ w.grownBy w' (some b) ∧ 0 ≤ x ∧ x < 256 ∧ s'.length ≤ s.length ∧
    (∀ c r, unesc s = some (c, r) → x = (c.toNat : Int) ∧ s' = r ∧ bad = false) ∧ (unesc s = none → bad = true)
set_option maxHeartbeats 4000000 in
set_option maxRecDepth 100000 in
theorem escaped_calls (b : Nat) (s : List UInt8) (w : World) (h : Rs w b s false) :
  Calls Tryz.prog 63 #[.pointer (some ⟨b, 0, none⟩)] w (EscOut w b s) := by
 have H := Aside0.mk h
 clear h
 by_cases h34 : [34] <+: s
 ·have HP := Aside0.mk h34
  have HE := Aside0.mk (show unesc s = some (34, s.drop 1) by unfold unesc; rw [if_pos h34])
  clear h34
  go_enter Tryz.func63, Tryz.ntmps63
  go_wp2_with fail
  refine (take_yes b s [34] false w H.out HP.out).mono ?_
  rintro e w1 ⟨rfl, h1, g1⟩
  have H1 := Aside0.mk h1
  have G1 := Aside0.mk g1
  clear h1 g1
  go_wp2
  go_ret
  refine ⟨34, _, false, rfl, H1.out, G1.out, by decide, by decide, by simp, ?_, ?_⟩
  ·intro c r e; rw [HE.out] at e; simp only [Option.some.injEq, Prod.mk.injEq] at e; obtain ⟨rfl, rfl⟩ := e; exact ⟨rfl, rfl, rfl⟩
  ·intro e; rw [HE.out] at e; cases e
 by_cases h92 : [92] <+: s
 ·have HN := Aside0.mk h34
  have HP := Aside0.mk h92
  have HE := Aside0.mk (show unesc s = some (92, s.drop 1) by unfold unesc; rw [if_neg h34, if_pos h92])
  clear h34 h92
  go_enter Tryz.func63, Tryz.ntmps63
  go_wp2_with fail
  refine (take_no b s [34] false w H.out HN.out).mono ?_
  rintro e w1 ⟨rfl, rfl⟩
  go_wp2_with fail
  refine (take_yes b s [92] false w1 H.out HP.out).mono ?_
  rintro e w2 ⟨rfl, h1, g1⟩
  have H1 := Aside0.mk h1
  have G1 := Aside0.mk g1
  clear h1 g1
  go_wp2
  go_ret
  refine ⟨92, _, false, rfl, H1.out, G1.out, by decide, by decide, by simp, ?_, ?_⟩
  ·intro c r e; rw [HE.out] at e; simp only [Option.some.injEq, Prod.mk.injEq] at e; obtain ⟨rfl, rfl⟩ := e; exact ⟨rfl, rfl, rfl⟩
  ·intro e; rw [HE.out] at e; cases e
 by_cases hu : [117, 48, 48] <+: s
 ·have hus : unesc s = unhex (s.drop 3) := by unfold unesc; rw [if_neg h34, if_neg h92, if_pos hu]
  have hls : (s.drop 3).length + 3 = s.length := by have := hu.length_le; simp only [List.length_cons, List.length_nil] at this; rw [List.length_drop]; omega
  obtain ⟨t, ht⟩ : ∃ t, s.drop 3 = t := ⟨_, rfl⟩
  rw [ht] at hus hls
  have HD := Aside0.mk ht
  have HN := Aside0.mk h34
  have HN2 := Aside0.mk h92
  have HP := Aside0.mk hu
  have HU := Aside0.mk hus
  have HL := Aside0.mk hls
  clear h34 h92 hu ht hus hls
  go_enter Tryz.func63, Tryz.ntmps63
  go_wp2_with fail
  refine (take_no b s [34] false w H.out HN.out).mono ?_
  rintro e w1 ⟨rfl, rfl⟩
  go_wp2_with fail
  refine (take_no b s [92] false w1 H.out HN2.out).mono ?_
  rintro e w2 ⟨rfl, rfl⟩
  go_wp2_with fail
  refine (need_yes b s [117, 48, 48] false w2 H.out HP.out).mono ?_
  rintro e w3 ⟨rfl, h1, g1⟩
  rw [show ([117, 48, 48] : List UInt8).length = 3 from rfl, HD.out] at h1
  have H1 := Aside0.mk h1
  have G1 := Aside0.mk g1
  have c0 := h1.c0
  have c1 := h1.c1
  have f0 := blk_frozen h1 0
  have f1 := blk_frozen h1 1
  have hsz : (ba t).size = t.length := size_ba t
  clear h1 g1
  by_cases h2 : t.length < 2
  ·have d2 : decide ((t.length : Int) < 2) = true := decide_eq_true (by omega)
   have HE := Aside0.mk (show unesc s = none by
    rw [HU.out]
    match t, h2 with
    | [], _ => rfl
    | [a], _ => rfl)
   clear HU
   go_wp2
   go_ret
   refine ⟨0, t, true, rfl, H1.out.set1, G1.out.trans (gb_set _ b 1 _), by decide, by decide, by have := HL.out; omega, ?_, fun _ => rfl⟩
   intro c r e; rw [HE.out] at e; cases e
  ·obtain ⟨x, y, r, rfl⟩ : ∃ x y r, t = x :: y :: r := by
    match t, h2 with
    | x :: y :: r, _ => exact ⟨x, y, r, rfl⟩
    | [], h => simp at h
    | [a], h => simp at h
   have HE := Aside0.mk (show unesc s = unhex (x :: y :: r) from HU.out)
   clear HU
   obtain ⟨S, hS⟩ : ∃ S, ba (x :: y :: r) = S := ⟨_, rfl⟩
   have hx : ∀ h : 0 < S.size, S[0]'h = x := fun h => by subst hS; rfl
   have hy : ∀ h : 1 < S.size, S[1]'h = y := fun h => by subst hS; rfl
   have hr : S.extract 2 S.size = ba r := by subst hS; apply ByteArray.ext; simp [ba, ByteArray.size]
   rw [hS] at c0 hsz
   have hz0 : 2 ≤ S.size := by rw [hsz]; simp
   have z1 : 0 < S.size := by omega
   have z2 : 1 < S.size := by omega
   have z3 : (1 : Int) < (S.size : Int) := by omega
   have z4 : (1 : Int).toNat < S.size := by simpa using z2
   have d2 : decide ((S.size : Int) < 2) = false := decide_eq_false (by omega)
   have HS := Aside0.mk hS
   have HX := Aside0.mk hx
   have HY := Aside0.mk hy
   have HR := Aside0.mk hr
   clear hS hx hy hr hsz h2
   go_wp2_with fail
   go_quiet (exact Calls.quiet_of_same (hexi_call _ _))
   obtain ⟨A, hA⟩ : ∃ A, hexi S[0] = A := ⟨_, rfl⟩
   obtain ⟨B, hB⟩ : ∃ B, hexi S[1] = B := ⟨_, rfl⟩
   rw [hA, hB]
   rw [HX.out] at hA
   rw [HY.out] at hB
   have HA := Aside0.mk hA
   have HB := Aside0.mk hB
   have rA := Aside0.mk (hA ▸ hexi_range x)
   have rB := Aside0.mk (hB ▸ hexi_range y)
   clear hA hB
   have FIN := Aside0.mk (fun q : Bool => (show Rs (((w3.drewN nq).setCell ⟨b, 0, none⟩ (.string (S.extract 2 S.size))).setCell ⟨b, 1, none⟩ (.bool q)) b r q ∧ w2.grownBy (((w3.drewN nq).setCell ⟨b, 0, none⟩ (.string (S.extract 2 S.size))).setCell ⟨b, 1, none⟩ (.bool q)) (some b) by
    rw [HR.out]
    exact ⟨((H1.out.below (pw_below_drewN (Below.refl _ _) nq)).set0).set1, ((G1.out.trans (grown_of_below (pw_below_drewN (Below.refl _ _) nq) _)).trans (gb_set _ b 0 _)).trans (gb_set _ b 1 _)⟩))
   have hfin := Aside0.mk (fun (X : Int) (q : Bool) (hq : (0 ≤ A ∧ A ≤ 1 ∧ 0 ≤ B → q = false ∧ X = bits BinOp.or IntKind.i64 (A * 16) B) ∧ (¬ (0 ≤ A ∧ A ≤ 1 ∧ 0 ≤ B) → q = true)) (w9 : World) (hw : Rs w9 b r q ∧ w2.grownBy w9 (some b)) => (show EscOut w2 b s (.returned (.int .u8 (X % 256))) w9 by
    refine ⟨X % 256, r, q, rfl, hw.1, hw.2, Int.emod_nonneg _ (by decide), Int.emod_lt_of_pos _ (by decide), by have h_ := HL.out; simp only [List.length_cons] at h_; omega, ?_, ?_⟩
    ·intro c r' e
     rw [HE.out] at e
     by_cases hc : 0 ≤ A ∧ A ≤ 1 ∧ 0 ≤ B
     ·obtain ⟨rfl, rfl⟩ := hq.1 hc
      unfold unhex at e
      simp only [hexi_some (c := x) (by rw [HA.out]; exact hc.1), hexi_some (c := y) (by rw [HB.out]; exact hc.2.2), HA.out, HB.out] at e
      rw [if_pos (by omega)] at e
      simp only [Option.some.injEq, Prod.mk.injEq] at e
      obtain ⟨rfl, rfl⟩ := e
      exact ⟨or_hex A B hc.1 rA.out.2 hc.2.2 rB.out.2, rfl, rfl⟩
     ·exfalso
      unfold unhex at e
      by_cases ha : 0 ≤ A
      ·simp only [hexi_some (c := x) (by rw [HA.out]; exact ha), HA.out] at e
       by_cases hb : 0 ≤ B
       ·simp only [hexi_some (c := y) (by rw [HB.out]; exact hb), HB.out] at e
        rw [if_neg (by omega)] at e
        cases e
       ·simp only [hexi_none (c := y) (by rw [HB.out]; omega)] at e
        cases e
      ·simp only [hexi_none (c := x) (by rw [HA.out]; omega)] at e
       cases e
    ·intro e
     rw [HE.out] at e
     refine hq.2 (fun hc => ?_)
     unfold unhex at e
     simp only [hexi_some (c := x) (by rw [HA.out]; exact hc.1), hexi_some (c := y) (by rw [HB.out]; exact hc.2.2), HA.out, HB.out] at e
     rw [if_pos (by omega)] at e
     cases e))
   clear HE HL H1 G1 HA HB
   go_wp2
   ·rename_i p1 p2
    go_ret
    exact hfin.out _ (decide (A < 0) || decide (1 < A) || decide (B < 0)) ⟨fun h => ⟨by simp only [Bool.or_eq_false_iff, decide_eq_false_iff_not]; omega, rfl⟩, fun h => by simp only [Bool.or_eq_true, decide_eq_true_eq]; omega⟩ _ (FIN.out _)
   ·rename_i p1 p2
    go_ret
    exact hfin.out _ _ ⟨fun h => by omega, fun h => rfl⟩ _ (FIN.out _)
   ·rename_i p1
    go_ret
    exact hfin.out _ _ ⟨fun h => by omega, fun h => rfl⟩ _ (FIN.out _)
 ·have HE := Aside0.mk (show unesc s = none by unfold unesc; rw [if_neg h34, if_neg h92, if_neg hu])
  have HN := Aside0.mk h34
  have HN2 := Aside0.mk h92
  have HP := Aside0.mk hu
  clear h34 h92 hu
  go_enter Tryz.func63, Tryz.ntmps63
  go_wp2_with fail
  refine (take_no b s [34] false w H.out HN.out).mono ?_
  rintro e w1 ⟨rfl, rfl⟩
  go_wp2_with fail
  refine (take_no b s [92] false w1 H.out HN2.out).mono ?_
  rintro e w2 ⟨rfl, rfl⟩
  go_wp2_with fail
  refine (need_no b s [117, 48, 48] false w2 H.out HP.out).mono ?_
  rintro e w3 ⟨rfl, h1, g1⟩
  have H1 := Aside0.mk h1
  have G1 := Aside0.mk g1
  have c0 := h1.c0
  have c1 := h1.c1
  have f0 := blk_frozen h1 0
  have f1 := blk_frozen h1 1
  clear h1 g1
  go_wp2
  go_ret
  refine ⟨0, s, true, rfl, H1.out.set1, G1.out.trans (gb_set _ b 1 _), by decide, by decide, Nat.le_refl _, ?_, fun _ => rfl⟩
  intro c r e; rw [HE.out] at e; cases e
end Go.Proofs.YtifejhbochkifaaGreatDoor.X

/-! HTxt -/
namespace Go.Proofs.YtifejhbochkifaaGreatDoor.X
open Go.RowKit Go.Proofs.YtifejhbochkifaaGreatDoorW.PrintWords Go.Proofs.YtifejhbochkifaaGreatDoorW.PrintLast Go.Proofs.YtifejhbochkifaaGreatDoorW.PrintMore Go.Proofs.YtifejhbochkifaaGreatDoor.Spec
set_option linter.unusedVariables false
set_option linter.unusedSimpArgs false
theorem isb_grown {T e : TypeId} {B c b : Nat} {bs : List Value} {w w' : World} (h : Lib.IsBuilder T e B c bs w) (hg : w.grownBy w' (some b)) (hb : b < B) : Lib.IsBuilder T e B c bs w' := by
 have at_ : ∀ p, Lib.BuilderAt T e B c p bs w → Lib.BuilderAt T e B c p bs w' := by
  rintro p ⟨hB, v, h1, h2, h3⟩
  exact ⟨hB, v, (hg.block c (blk_lt h1) (fun e => by injection e with e; omega)).trans h1, own_move h2 (fun k hk => by
   obtain ⟨cells, hc⟩ := own_typed h2 k hk
   exact hg.block k (blk_lt hc) (fun e => by injection e with e; have := own_base h2 k hk; omega)), h3⟩
 exact h.imp (at_ _) (at_ _)
theorem gb_below {B b : Nat} {w w1 w2 : World} (hg : w.grownBy w1 (some b)) (hb : Below B w1 w2) (h : w.heap.size ≤ B) (h1 : B ≤ w1.heap.size) : w.grownBy w2 (some b) :=
 ⟨hb.os.trans hg.os, hb.tape.trans hg.tape, hb.output.trans hg.output, Nat.le_trans hg.size hb.size, fun i hi hn => (hb.block i (by omega)).trans (hg.block i hi hn)⟩
theorem Rs.belowB {B : Nat} {w w' : World} {b : Nat} {s : List UInt8} {bad : Bool} (h : Rs w b s bad) (hb : Below B w w') (hB : b < B) : Rs w' b s bad := (hb.block b hB).trans h

theorem jumps2 {P : Program} {a : Act} {w : World} {Q : Exit → Act → World → Prop} {c rest : Code} (l : Nat) (J : Act → World → Prop) (μ : Act → World → Nat) (hf : findLabel c l = some (Code.skip.seq rest))
  (pass : ∀ a w, J a w → rest.wp P (Exit.jump l (fun a' w' => J a' w' ∧ μ a' w' < μ a w) Q) a w)
  (first : (∀ a w, J a w → rest.wp P (Exit.jump l J Q) a w) → c.wp P (Exit.jump l J Q) a w) : (Code.scope c).wp P Q a w :=
 wp_scope_jumps l J μ hf (first (fun a w hJ => wp_mono (pass a w hJ) (fun e a w hq => by
  cases e <;> first | exact hq | exact ⟨hq.1, hq.2.1⟩))) (fun a w hJ => wp_seq (wp_skip (pass a w hJ)))
/-- What holds at each jump. -/
def TxJ (b B : Nat) (w0 : World) (R0 : Option (List UInt8 × List UInt8)) (N : Nat) (a : Act) (w : World) : Prop :=
  ∃ (out s : List UInt8) (bad : Bool) (u4 u5 u6 u7 u8 u9 u10 u11 u12 u13 u14 u15 u16 u17 u18 u19 u20 u21 u22 u23 u24 u25 u26 u27 u28 u29 u30 u31 u32 u33 u34 u35 u36 u37 u38 u39 u40 u41 u42 u43 u44 u45 u46 u47 u48 u49 u50 u51 u52 u53 : Value), a = { tmps := #[.pointer (some ⟨b, 0, none⟩), undef, .string ⟨#[]⟩, .pointer (some ⟨B, 0, none⟩), u4, u5, u6, u7, u8, u9, u10, u11, u12, u13, u14, u15, u16, u17, u18, u19, u20, u21, u22, u23, u24, u25, u26, u27, u28, u29, u30, u31, u32, u33, u34, u35, u36, u37, u38, u39, u40, u41, u42, u43, u44, u45, u46, u47, u48, u49, u50, u51, u52, u53], defers := [] } ∧ Aside0 (Rs w b s bad) ∧ Aside0 (Lib.IsBuilder 79 5 B B (Lib.byteCells out) w) ∧ Aside0 (w0.grownBy w (some b)) ∧ Aside0 ((bad = false → readTx out s = R0) ∧ (bad = true → R0 = none) ∧ out.length + s.length ≤ N) 
def TxM (b : Nat) (_ : Act) (w : World) : Nat := match w.cell? ⟨b, 0, none⟩ with | some (.string s) => s.size | _ => 0
theorem TxM_of {b : Nat} {a : Act} {w : World} {s : List UInt8} {bad : Bool} (h : Rs w b s bad) : TxM b a w = s.length := by
 unfold TxM
 rw [h.c0]
 simp
def TxOut (w : World) (b : Nat) (n : Nat) (R0 : Option (List UInt8 × List UInt8)) (e : Ending) (w' : World) : Prop :=
  ∃ (t s' : List UInt8) (bad : Bool), e = .returned (.string (ba t)) ∧ Rs w' b s' bad ∧ w.grownBy w' (some b) ∧ s'.length ≤ n ∧ t.length ≤ n ∧
    (∀ t' r, R0 = some (t', r) → t = t' ∧ s' = r ∧ bad = false) ∧ (R0 = none → bad = true)
theorem readTx_34 (out r : List UInt8) : readTx out (34 :: r) = some (out, r) := by rw [readTx]; simp
theorem readTx_nil (out : List UInt8) : readTx out [] = none := by rw [readTx]
theorem readTx_esc1 {out r r' : List UInt8} {c : UInt8} (h : unesc r = some (c, r')) : readTx out (92 :: r) = readTx (out ++ [c]) r' := by
 rw [readTx, if_neg (by decide), if_pos rfl]
 split
 ·rename_i x r2 e
  rw [h] at e
  simp only [Option.some.injEq, Prod.mk.injEq] at e
  obtain ⟨rfl, rfl⟩ := e
  rfl
 ·rename_i e
  rw [h] at e; cases e
theorem readTx_esc0 {out r : List UInt8} (h : unesc r = none) : readTx out (92 :: r) = none := by
 rw [readTx, if_neg (by decide), if_pos rfl]
 split
 ·rename_i x r2 e
  rw [h] at e; cases e
 ·rfl
theorem readTx_low {out r : List UInt8} {c : UInt8} (h34 : c ≠ 34) (h92 : c ≠ 92) (h : c.toNat < 32) : readTx out (c :: r) = none := by
 rw [readTx, if_neg h34, if_neg h92, if_pos h]
theorem readTx_go {out r : List UInt8} {c : UInt8} (h34 : c ≠ 34) (h92 : c ≠ 92) (h : ¬ c.toNat < 32) : readTx out (c :: r) = readTx (out ++ [c]) r := by
 rw [readTx, if_neg h34, if_neg h92, if_neg h]

set_option maxHeartbeats 8000000 in
set_option maxRecDepth 100000 in
theorem text_calls (b : Nat) (s0 : List UInt8) (w : World) (h : Rs w b s0 false) (hs : s0.length ≤ 1000000) :
  Calls Tryz.prog 40 #[.pointer (some ⟨b, 0, none⟩)] w (TxOut w b s0.length (readQ s0)) := by
 obtain ⟨R0, hR⟩ : ∃ R, readQ s0 = R := ⟨_, rfl⟩
 obtain ⟨N, hN⟩ : ∃ N, s0.length = N := ⟨_, rfl⟩
 rw [hR, hN]
 have hbw : b < w.heap.size := h.lt
 have H := Aside0.mk h
 have HQ := Aside0.mk (show readQ s0 = R0 ∧ s0.length = N from ⟨hR, hN⟩)
 have hN6 : N ≤ 1000000 := by omega
 clear h hR hN hs
 go_enter Tryz.func40, Tryz.ntmps40
 go_wp2
 refine jumps2 0 (TxJ b w.heap.size w R0 N) (TxM b) rfl ?pass ?first
 case pass =>
  rintro a' w1 ⟨out, s, bad, u4, u5, u6, u7, u8, u9, u10, u11, u12, u13, u14, u15, u16, u17, u18, u19, u20, u21, u22, u23, u24, u25, u26, u27, u28, u29, u30, u31, u32, u33, u34, u35, u36, u37, u38, u39, u40, u41, u42, u43, u44, u45, u46, u47, u48, u49, u50, u51, u52, u53, rfl, H1, HI, HG, HJ⟩
  have c0 := H1.out.c0
  have c1 := H1.out.c1
  have f0 := blk_frozen H1.out 0
  have f1 := blk_frozen H1.out 1
  have hB1 : w.heap.size ≤ w1.heap.size := HG.out.size
  by_cases hend : bad = true ∨ s = []
  ·have HN := Aside0.mk (show R0 = none by
    rcases hend with e | e
    ·exact HJ.out.2.1 e
    ·cases bad with
     | true => exact HJ.out.2.1 rfl
     | false => rw [← HJ.out.1 rfl, e, readTx_nil])
   have HE := Aside0.mk (show TxOut w b N R0 (.returned (.string ⟨#[]⟩)) (w1.setCell ⟨b, 1, none⟩ (.bool true)) from
    ⟨[], s, true, rfl, H1.out.set1, HG.out.trans (gb_set _ b 1 _), by have := HJ.out.2.2; omega, by simp, fun t' r e => (by rw [HN.out] at e; cases e), fun _ => rfl⟩)
   rcases hend with rfl | rfl
   ·go_wp2
    simp only [Exit.jump]
    go_ret
    exact HE.out
   ·have he : (ba []) = (⟨#[]⟩ : ByteArray) := rfl
    rw [he] at c0
    cases bad
    ·go_wp2
     simp only [Exit.jump]
     go_ret
     exact HE.out
    ·go_wp2
     simp only [Exit.jump]
     go_ret
     exact HE.out
  ·rw [not_or] at hend
   obtain ⟨hb, hs⟩ := hend
   have hb' : bad = false := Bool.eq_false_iff.2 hb
   subst hb'
   obtain ⟨c, r, rfl⟩ := List.exists_cons_of_ne_nil hs
   obtain ⟨z, hz⟩ : ∃ z, ba (c :: r) = z := ⟨_, rfl⟩
   have hzs : z.size = r.length + 1 := by rw [← hz, size_ba]; rfl
   have hz1 : z.toList.isEmpty = false := by
    rw [toList_bl, ← hz, bl_ba]; rfl
   rw [hz] at c0
   have hJ1 := HJ.out.1 rfl
   have hJ3 := HJ.out.2.2
   simp only [List.length_cons] at hJ3
   have hol : (Lib.byteCells out).length + 1 ≤ 140737488355328 := by rw [Lib.byteCells_length]; omega
   clear hb hs
   by_cases h34 : c = 34
   ·subst h34
    rw [readTx_34] at hJ1
    have HR := Aside0.mk hJ1
    clear hJ1
    go_wp2_with fail
    refine (take_yes b (34 :: r) [34] false w1 H1.out (pre1 34 r)).mono ?_
    rintro e w2 ⟨rfl, h2, g2⟩
    have H2 := Aside0.mk h2
    have HI2 := Aside0.mk (isb_grown HI.out g2 hbw)
    have HG2 := Aside0.mk (HG.out.trans g2)
    clear h2 g2
    go_wp2_with fail
    refine (Sh.Builder_String_any w.heap.size w.heap.size out _ HI2.out HG2.out.size).mono ?_
    rintro e w3 ⟨rfl, hb3⟩
    have HE := Aside0.mk (show TxOut w b N R0 (.returned (.string (ba out))) w3 from
     ⟨out, r, false, rfl, H2.out.belowB hb3 hbw, gb_below HG2.out hb3 (Nat.le_refl _) HG2.out.size, by omega, by omega, fun t' r' e => (by rw [← HR.out] at e; simp only [Option.some.injEq, Prod.mk.injEq] at e; exact ⟨e.1, e.2, rfl⟩), fun e => (by rw [← HR.out] at e; cases e)⟩)
    clear hb3
    go_wp2
    simp only [Exit.jump]
    go_ret
    exact HE.out
   by_cases h92 : c = 92
   ·subst h92
    have HR := Aside0.mk hJ1
    clear hJ1
    go_wp2_with fail
    refine (take_no b (92 :: r) [34] false w1 H1.out (npre1 r (by decide))).mono ?_
    rintro e w2 ⟨rfl, rfl⟩
    go_wp2_with fail
    refine (take_yes b (92 :: r) [92] false w2 H1.out (pre1 92 r)).mono ?_
    rintro e w3 ⟨rfl, h2, g2⟩
    have H2 := Aside0.mk h2
    have HI2 := Aside0.mk (isb_grown HI.out g2 hbw)
    have HG2 := Aside0.mk (HG.out.trans g2)
    clear h2 g2
    go_wp2_with fail
    refine (escaped_calls b r w3 H2.out).mono ?_
    rintro e w4 ⟨x, s', bad', rfl, h4, g4, x0, x1, hl4, hs4, hn4⟩
    have H4 := Aside0.mk h4
    have HI4 := Aside0.mk (isb_grown HI2.out g4 hbw)
    have HG4 := Aside0.mk (HG2.out.trans g4)
    have HX := Aside0.mk (And.intro hs4 hn4)
    clear h4 g4 hs4 hn4
    go_wp2_with fail
    refine (Sh.Builder_WriteByte w.heap.size w.heap.size (Lib.byteCells out) x w4 HI4.out hol HG4.out.size).mono ?_
    rintro e w5 ⟨rfl, h5, hb5⟩
    have hcx : Lib.byteCells out ++ [Value.int .u8 x] = Lib.byteCells (out ++ [UInt8.ofNat x.toNat]) := by
     rw [Lib.byteCells_append]
     congr 1
     show [Value.int .u8 x] = [Value.int .u8 _]
     congr 2
     rw [UInt8.toNat_ofNat']
     omega
    rw [hcx] at h5
    have H5 := Aside0.mk (H4.out.belowB hb5 hbw)
    have HI5 := Aside0.mk (show Lib.IsBuilder 79 5 w.heap.size w.heap.size (Lib.byteCells (out ++ [UInt8.ofNat x.toNat])) w5 from Or.inr h5)
    have HG5 := Aside0.mk (gb_below HG4.out hb5 (Nat.le_refl _) HG4.out.size)
    clear h5 hb5
    have HJ5 := Aside0.mk (show (bad' = false → readTx (out ++ [UInt8.ofNat x.toNat]) s' = R0) ∧ (bad' = true → R0 = none) ∧ (out ++ [UInt8.ofNat x.toNat]).length + s'.length ≤ N by
     refine ⟨?_, ?_, by simp only [List.length_append, List.length_cons, List.length_nil]; omega⟩
     ·intro hb
      cases hu : unesc r with
      | none => have := HX.out.2 hu; rw [hb] at this; cases this
      | some p =>
       obtain ⟨cc, rr⟩ := p
       obtain ⟨e1, e2, _⟩ := HX.out.1 cc rr hu
       rw [← HR.out, readTx_esc1 hu, e2, e1, Int.toNat_natCast, UInt8.ofNat_toNat]
     ·intro hb
      cases hu : unesc r with
      | none => rw [← HR.out, readTx_esc0 hu]
      | some p =>
       obtain ⟨cc, rr⟩ := p
       obtain ⟨_, _, e3⟩ := HX.out.1 cc rr hu
       rw [hb] at e3; cases e3)
    clear hcx
    go_wp2
    go_step3
    refine ⟨rfl, ⟨out ++ [UInt8.ofNat x.toNat], s', bad', _, _, _, _, _, _, _, _, _, _, _, _, _, _, _, _, _, _, _, _, _, _, _, _, _, _, _, _, _, _, _, _, _, _, _, _, _, _, _, _, _, _, _, _, _, _, _, _, _, _, rfl, H5, HI5, HG5, HJ5⟩, ?_⟩
    rw [TxM_of H5.out, TxM_of H1.out]
    simp only [List.length_cons]
    omega
   ·have HR := Aside0.mk hJ1
    have hzi : 0 < z.size := by omega
    have hzc : ∀ h : 0 < z.size, z[0]'h = c := fun h => by subst hz; rfl
    have hzx : z.extract 1 (r.length + 1) = ba r := by subst hz; apply ByteArray.ext; simp [ba, ByteArray.size]
    have HZ := Aside0.mk hzc
    have HZX := Aside0.mk hzx
    have HZE := Aside0.mk hz
    clear hJ1 hzc hzx hz
    go_wp2_with fail
    refine (take_no b (c :: r) [34] false w1 H1.out (npre1 r (Ne.symm h34))).mono ?_
    rintro e w2 ⟨rfl, rfl⟩
    go_wp2_with fail
    refine (take_no b (c :: r) [92] false w2 H1.out (npre1 r (Ne.symm h92))).mono ?_
    rintro e w3 ⟨rfl, rfl⟩
    go_wp2_with fail
    refine (Sh.Builder_WriteByte w.heap.size w.heap.size (Lib.byteCells out) ((z[0]'hzi).toNat : Int) w3 HI.out hol HG.out.size).mono ?_
    rintro e w4 ⟨rfl, h5, hb5⟩
    rw [HZ.out] at h5
    have hcx : Lib.byteCells out ++ [Value.int .u8 (c.toNat : Int)] = Lib.byteCells (out ++ [c]) := by rw [Lib.byteCells_append]; rfl
    rw [hcx] at h5
    have H5 := Aside0.mk (H1.out.belowB hb5 hbw)
    have HI5 := Aside0.mk (show Lib.IsBuilder 79 5 w.heap.size w.heap.size (Lib.byteCells (out ++ [c])) w4 from Or.inr h5)
    have HG5 := Aside0.mk (gb_below HG.out hb5 (Nat.le_refl _) HG.out.size)
    clear h5 hb5 hcx
    have k0 := H5.out.c0
    rw [HZE.out] at k0
    have k1 := H5.out.c1
    have j0 := blk_frozen H5.out 0
    have j1 := blk_frozen H5.out 1
    have hcd : ((z[0]'hzi).toNat : Int) = (c.toNat : Int) := by rw [HZ.out]
    by_cases h32 : c.toNat < 32
    ·have hd : decide ((c.toNat : Int) < 32) = true := decide_eq_true (by omega)
     have HD := Aside0.mk hd
     have HN := Aside0.mk (show R0 = none by rw [← HR.out, readTx_low h34 h92 h32])
     go_wp2
     go_step3
     refine ⟨rfl, ⟨out ++ [c], r, true, _, _, _, _, _, _, _, _, _, _, _, _, _, _, _, _, _, _, _, _, _, _, _, _, _, _, _, _, _, _, _, _, _, _, _, _, _, _, _, _, _, _, _, _, _, _, _, _, _, _, rfl, ⟨?_⟩, ⟨?_⟩, ⟨?_⟩, ⟨fun e => (by cases e), fun _ => HN.out, by simp only [List.length_append, List.length_cons, List.length_nil]; omega⟩⟩, ?_⟩
     ·(try rw [HD.out]); rw [HZX.out]; exact H5.out.set1.set0
     ·exact isb_grown HI5.out ((gb_set _ b 1 _).trans (gb_set _ b 0 _)) hbw
     ·exact HG5.out.trans ((gb_set _ b 1 _).trans (gb_set _ b 0 _))
     ·(try rw [HD.out]); rw [HZX.out, TxM_of (H5.out.set1.set0), TxM_of H1.out]
      simp only [List.length_cons]; omega
    ·have hd : decide ((c.toNat : Int) < 32) = false := decide_eq_false (by omega)
     have HD := Aside0.mk hd
     have HN := Aside0.mk (show readTx (out ++ [c]) r = R0 by rw [← HR.out, readTx_go h34 h92 h32])
     go_wp2
     go_step3
     refine ⟨rfl, ⟨out ++ [c], r, false, _, _, _, _, _, _, _, _, _, _, _, _, _, _, _, _, _, _, _, _, _, _, _, _, _, _, _, _, _, _, _, _, _, _, _, _, _, _, _, _, _, _, _, _, _, _, _, _, _, _, rfl, ⟨?_⟩, ⟨?_⟩, ⟨?_⟩, ⟨fun _ => HN.out, fun e => (by cases e), by simp only [List.length_append, List.length_cons, List.length_nil]; omega⟩⟩, ?_⟩
     ·(try rw [HD.out]); rw [HZX.out]; exact H5.out.set1.set0
     ·exact isb_grown HI5.out ((gb_set _ b 1 _).trans (gb_set _ b 0 _)) hbw
     ·exact HG5.out.trans ((gb_set _ b 1 _).trans (gb_set _ b 0 _))
     ·(try rw [HD.out]); rw [HZX.out, TxM_of (H5.out.set1.set0), TxM_of H1.out]
      simp only [List.length_cons]; omega
 case first =>
  intro PASS
  by_cases h34 : [34] <+: s0
  ·have HP := Aside0.mk h34
   have HR := Aside0.mk (show readTx [] (s0.drop 1) = R0 ∧ (s0.drop 1).length + 1 = N by
    refine ⟨?_, ?_⟩
    ·rw [← HQ.out.1]; unfold readQ; rw [if_pos h34]
    ·have := h34.length_le; simp at this; rw [← HQ.out.2, List.length_drop]; omega)
   clear h34
   go_wp2_with fail
   refine (need_yes b s0 [34] false _ (H.out.alloc _) HP.out).mono ?_
   rintro e w1 ⟨rfl, h1, g1⟩
   have H1 := Aside0.mk h1
   have HG1 := Aside0.mk ((World.grownBy_alloc w (.cells #[.pointer none, .slice none 0 0] 79) (some b)).trans g1)
   have HI1 := Aside0.mk (isb_grown (Lib.fresh_isBuilder 79 5 w) g1 hbw)
   clear h1 g1
   go_wp2
   go_step3
   simp only [Exit.then]
   rename_i K hK
   exact hK _ _ (PASS _ _ ⟨[], s0.drop 1, false, _, _, _, _, _, _, _, _, _, _, _, _, _, _, _, _, _, _, _, _, _, _, _, _, _, _, _, _, _, _, _, _, _, _, _, _, _, _, _, _, _, _, _, _, _, _, _, _, _, _, rfl, H1, HI1, HG1, ⟨fun _ => HR.out.1, fun e => (by cases e), by have := HR.out.2; simp only [List.length_nil]; omega⟩⟩)
  ·have HP := Aside0.mk h34
   have HR := Aside0.mk (show R0 = none by rw [← HQ.out.1]; unfold readQ; rw [if_neg h34])
   clear h34
   go_wp2_with fail
   refine (need_no b s0 [34] false _ (H.out.alloc _) HP.out).mono ?_
   rintro e w1 ⟨rfl, h1, g1⟩
   have H1 := Aside0.mk h1
   have HG1 := Aside0.mk ((World.grownBy_alloc w (.cells #[.pointer none, .slice none 0 0] 79) (some b)).trans g1)
   have HI1 := Aside0.mk (isb_grown (Lib.fresh_isBuilder 79 5 w) g1 hbw)
   clear h1 g1
   go_wp2
   go_step3
   simp only [Exit.then]
   rename_i K hK
   exact hK _ _ (PASS _ _ ⟨[], s0, true, _, _, _, _, _, _, _, _, _, _, _, _, _, _, _, _, _, _, _, _, _, _, _, _, _, _, _, _, _, _, _, _, _, _, _, _, _, _, _, _, _, _, _, _, _, _, _, _, _, _, rfl, H1, HI1, HG1, ⟨fun e => (by cases e), fun _ => HR.out, by have := HQ.out.2; simp only [List.length_nil]; omega⟩⟩)
end Go.Proofs.YtifejhbochkifaaGreatDoor.X

/-! HWords -/
namespace Go.Proofs.YtifejhbochkifaaGreatDoor.X
open Go Go.RowKit Go.ChangeMaps Go.Proofs.YtifejhbochkifaaGreatDoorW.PrintWords Go.Proofs.YtifejhbochkifaaGreatDoorW.PrintLast Go.Proofs.YtifejhbochkifaaGreatDoorW.PrintMore Go.Proofs.YtifejhbochkifaaGreatDoor.Spec
set_option linter.unusedVariables false
set_option linter.unusedSimpArgs false
def wVal (a b : Int) : Value := .agg #[.int .i64 a, .int .i64 b, .string ⟨#[]⟩, .slice none 0 0, .slice none 0 0]
def wEnts : Array MapEntry := #[⟨.string ⟨#[110, 117, 108, 108]⟩, wVal 1 0, 0⟩, ⟨.string ⟨#[116, 114, 117, 101]⟩, wVal 2 1, 1⟩, ⟨.string ⟨#[102, 97, 108, 115, 101]⟩, wVal 2 0, 2⟩]
theorem block_set {w : World} {b : Nat} {o o' : Obj} (h : w.heap[b]? = some o') : (setBlock w b o).heap[b]? = some o := by
 have hl := (Array.getElem?_eq_some_iff.1 h).1
 simp [setBlock, hl]
theorem below_setBlock {B b : Nat} {w0 w : World} (h : Below B w0 w) (hb : B ≤ b) (o : Obj) : Below B w0 (setBlock w b o) :=
 ⟨h.os, h.tape, h.output, by simpa [setBlock] using h.size, fun i hi => by
  have hne : b ≠ i := by omega
  have := h.block i hi
  simp only [setBlock]
  rw [Array.getElem?_setIfInBounds_ne hne]
  exact this⟩
theorem run_upd (w : World) (b : Nat) (es : Array MapEntry) (clock : Nat) (k : ByteArray) (v : Value) (hb : w.heap[b]? = some (.map es clock)) (hf : Instr.findNow .string (.string k) es.toList 0 = some none) :
  (Instr.mapUpdate 59 (.map (some b)) (.string k) v).run Tryz.prog w = .ok () (setBlock w b (.map (es.push ⟨.string k, v, clock⟩) (clock + 1))) := by
 have h1 := MapKept.run_checkKey (P := Tryz.prog) (w := w) Tryz.underlying9 (k := .string k) (d := .string) trivial false 9999
 have h2 := MapKept.run_findKey (P := Tryz.prog) (w := w) Tryz.underlying9 hf
 simp only [Instr.mapUpdate, getObj, Sem.run_bind, Sem.run, hb, Result.andThen, run_underlying Tryz.underlying59, h1, h2]
 simp [setObj, Sem.run, hb, setBlock]
set_option maxHeartbeats 2000000 in
theorem words_calls (w : World) : Calls Tryz.prog 37 #[] w fun e w' => e = .returned (.map (some w.heap.size)) ∧ w'.heap[w.heap.size]? = some (.map wEnts 3) ∧ Below w.heap.size w w' := by
 have hmm := @run_makeMap Tryz.prog 59 w
 have b0 : (w.alloc (.map #[] 0)).heap[w.heap.size]? = some (.map #[] 0) := Go.heap_alloc_new w _
 have e1 := run_upd (w.alloc (.map #[] 0)) w.heap.size #[] 0 ⟨#[110, 117, 108, 108]⟩ (.agg #[.int .i64 1, .int .i64 0, .string ⟨#[]⟩, .slice none 0 0, .slice none 0 0]) b0 rfl
 have b1 := block_set (o := .map (#[].push ⟨.string ⟨#[110, 117, 108, 108]⟩, .agg #[.int .i64 1, .int .i64 0, .string ⟨#[]⟩, .slice none 0 0, .slice none 0 0], 0⟩) (0 + 1)) b0
 have l1 := below_setBlock ((Below.refl w.heap.size w).alloc (Nat.le_refl _) (.map #[] 0)) (Nat.le_refl _) (.map (#[].push ⟨.string ⟨#[110, 117, 108, 108]⟩, .agg #[.int .i64 1, .int .i64 0, .string ⟨#[]⟩, .slice none 0 0, .slice none 0 0], 0⟩) (0 + 1))
 generalize setBlock (w.alloc (.map #[] 0)) w.heap.size _ = W1 at e1 b1 l1
 have e2 := run_upd W1 w.heap.size _ _ ⟨#[116, 114, 117, 101]⟩ (.agg #[.int .i64 2, .int .i64 1, .string ⟨#[]⟩, .slice none 0 0, .slice none 0 0]) b1 (by kernel_rfl)
 have b2 := block_set (o := .map (#[⟨.string ⟨#[110, 117, 108, 108]⟩, wVal 1 0, 0⟩, ⟨.string ⟨#[116, 114, 117, 101]⟩, wVal 2 1, 1⟩]) 2) b1
 have l2 := below_setBlock l1 (Nat.le_refl _) (.map (#[⟨.string ⟨#[110, 117, 108, 108]⟩, wVal 1 0, 0⟩, ⟨.string ⟨#[116, 114, 117, 101]⟩, wVal 2 1, 1⟩]) 2)
 have e2' : (Instr.mapUpdate 59 (.map (some w.heap.size)) (.string ⟨#[116, 114, 117, 101]⟩) (.agg #[.int .i64 2, .int .i64 1, .string ⟨#[]⟩, .slice none 0 0, .slice none 0 0])).run Tryz.prog W1 = .ok () (setBlock W1 w.heap.size (.map (#[⟨.string ⟨#[110, 117, 108, 108]⟩, wVal 1 0, 0⟩, ⟨.string ⟨#[116, 114, 117, 101]⟩, wVal 2 1, 1⟩]) 2)) := e2
 clear e2
 generalize setBlock W1 w.heap.size _ = W2 at e2' b2 l2
 have e3 := run_upd W2 w.heap.size _ _ ⟨#[102, 97, 108, 115, 101]⟩ (.agg #[.int .i64 2, .int .i64 0, .string ⟨#[]⟩, .slice none 0 0, .slice none 0 0]) b2 (by kernel_rfl)
 have b3 := block_set (o := .map wEnts 3) b2
 have l3 := below_setBlock l2 (Nat.le_refl _) (.map wEnts 3)
 have e3' : (Instr.mapUpdate 59 (.map (some w.heap.size)) (.string ⟨#[102, 97, 108, 115, 101]⟩) (.agg #[.int .i64 2, .int .i64 0, .string ⟨#[]⟩, .slice none 0 0, .slice none 0 0])).run Tryz.prog W2 = .ok () (setBlock W2 w.heap.size (.map wEnts 3)) := e3
 clear e3
 generalize setBlock W2 w.heap.size _ = W3 at e3' b3 l3
 have HF := Aside0.mk (And.intro b3 l3)
 clear b0 b1 l1 b2 l2 b3 l3
 go_enter Tryz.func37, Tryz.ntmps37
 go_wp2
 go_ret
 exact ⟨rfl, HF.out.1, HF.out.2⟩
end Go.Proofs.YtifejhbochkifaaGreatDoor.X
