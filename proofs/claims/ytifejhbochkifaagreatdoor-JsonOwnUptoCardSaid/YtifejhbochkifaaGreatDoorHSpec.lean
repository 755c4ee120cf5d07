/- Plain functions on lists of bytes: what the program's text functions compute. No program in sight. -/
import Derived.Lib.IndexLaws
import Derived.Lib.Strings
import Derived.Test.YtifejhbochkifaaGreatDoorWWords
namespace Go.Proofs.YtifejhbochkifaaGreatDoor.Spec
open Go.Proofs.YtifejhbochkifaaGreatDoorW.PrintWords

/-- bytes of a string, and back -/
def bl (s : ByteArray) : List UInt8 := s.data.toList
def ba (l : List UInt8) : ByteArray := ⟨l.toArray⟩
@[simp] theorem bl_ba (l : List UInt8) : bl (ba l) = l := by simp [bl, ba]
@[simp] theorem ba_bl (s : ByteArray) : ba (bl s) = s := by simp [bl, ba]
@[simp] theorem size_ba (l : List UInt8) : (ba l).size = l.length := by simp [ba, ByteArray.size]
theorem bl_length (s : ByteArray) : (bl s).length = s.size := (Lib.size_eq s).symm
theorem toList_bl (s : ByteArray) : s.toList = bl s := Lib.toList_data s
theorem ba_inj {a b : List UInt8} (h : ba a = ba b) : a = b := by have := congrArg bl h; simpa using this
theorem bl_inj {a b : ByteArray} (h : bl a = bl b) : a = b := by have := congrArg ba h; simpa using this
theorem bl_append (a b : ByteArray) : bl (a ++ b) = bl a ++ bl b := by simp [bl]

/-- a byte of a string, at an index in it -/
theorem bt_get (s : ByteArray) (i : Nat) (h : i < s.size) : bt s (i : Int) = (((bl s)[i]'(by rw [bl_length]; exact h)).toNat : Int) := by
 unfold bt
 rw [dif_pos (by simpa using h)]
 simp [bl, ByteArray.getElem_eq_getElem_data]

/-! ### a byte's first place -/
def pre (c : UInt8) (l : List UInt8) : List UInt8 := l.takeWhile (fun x => x != c)
def post (c : UInt8) (l : List UInt8) : List UInt8 := (l.dropWhile (fun x => x != c)).drop 1
theorem pre_length_le (c : UInt8) (l : List UInt8) : (pre c l).length ≤ l.length := by
 induction l with
 | nil => simp [pre]
 | cons x r ih => unfold pre at *; simp only [List.takeWhile_cons]; split <;> simp; omega
theorem pre_of_not_mem {c : UInt8} {l : List UInt8} (h : c ∉ l) : pre c l = l := by
 induction l with
 | nil => rfl
 | cons x r ih =>
  simp only [List.mem_cons, not_or] at h
  have hx : (x != c) = true := bne_iff_ne.2 (fun e => h.1 e.symm)
  unfold pre at *
  rw [List.takeWhile_cons, if_pos hx, ih h.2]
theorem post_of_not_mem {c : UInt8} {l : List UInt8} (h : c ∉ l) : post c l = [] := by
 induction l with
 | nil => rfl
 | cons x r ih =>
  simp only [List.mem_cons, not_or] at h
  have hx : (x != c) = true := bne_iff_ne.2 (fun e => h.1 e.symm)
  unfold post at *
  rw [List.dropWhile_cons, if_pos hx, ih h.2]
theorem pre_post {c : UInt8} {l : List UInt8} (h : c ∈ l) : l = pre c l ++ c :: post c l := by
 induction l with
 | nil => cases h
 | cons x r ih =>
  by_cases hx : x = c
  ·subst hx; simp [pre, post]
  ·have hx' : (x != c) = true := bne_iff_ne.2 hx
   have hr : c ∈ r := by
    rcases List.mem_cons.1 h with h | h
    ·exact absurd h.symm hx
    ·exact h
   have := ih hr
   unfold pre post at *
   rw [List.takeWhile_cons, List.dropWhile_cons, if_pos hx', if_pos hx', List.cons_append, ← this]
theorem not_mem_pre (c : UInt8) (l : List UInt8) : c ∉ pre c l := by
 induction l with
 | nil => simp [pre]
 | cons x r ih =>
  unfold pre at *
  rw [List.takeWhile_cons]
  split
  ·rename_i hx
   simp only [List.mem_cons, not_or]
   exact ⟨fun e => (bne_iff_ne.1 hx) e.symm, ih⟩
  ·simp
theorem indexByte_eq (c : UInt8) (l : List UInt8) : Lib.indexByte l c = if c ∈ l then ((pre c l).length : Int) else -1 := by
 induction l with
 | nil => rfl
 | cons x r ih =>
  unfold Lib.indexByte
  by_cases hx : x = c
  ·subst hx; simp [pre]
  ·have hx' : (x == c) = false := beq_eq_false_iff_ne.2 hx
   have hx2 : (x != c) = true := bne_iff_ne.2 hx
   have hm : (c ∈ x :: r) ↔ c ∈ r := by
    simp only [List.mem_cons]
    exact ⟨fun h => h.elim (fun e => absurd e.symm hx) id, .inr⟩
   rw [hx', ih]
   by_cases hc : c ∈ r
   ·rw [if_pos hc, if_pos (hm.2 hc)]
    have : ¬ (((pre c r).length : Int) = -1) := by omega
    simp [pre, hx2]
    try omega
   ·rw [if_neg hc, if_neg (fun h => hc (hm.1 h))]
    simp

/-! ### Quote -/
def wordc (c : UInt8) : Bool := (97 ≤ c.toNat && c.toNat ≤ 122) || (65 ≤ c.toNat && c.toNat ≤ 90) || (48 ≤ c.toNat && c.toNat ≤ 57)
def plainc (c : UInt8) : Bool := wordc c || c == 45 || c == 46 || c == 95 || c == 126
def greatc (n : Nat) : UInt8 := if n < 10 then (48 + n).toUInt8 else (55 + n).toUInt8
def quote1 (c : UInt8) : List UInt8 := if plainc c then [c] else [37, greatc (c.toNat / 16), greatc (c.toNat % 16)]
def quoteL (l : List UInt8) : List UInt8 := l.flatMap quote1
theorem quote1_length (c : UInt8) : (quote1 c).length ≤ 3 ∧ 1 ≤ (quote1 c).length := by unfold quote1; split <;> simp
theorem quoteL_length (l : List UInt8) : (quoteL l).length ≤ 3 * l.length := by
 induction l with
 | nil => simp [quoteL]
 | cons c r ih => have := quote1_length c; simp only [quoteL, List.flatMap_cons, List.length_append, List.length_cons] at *; omega
theorem quoteL_append (a b : List UInt8) : quoteL (a ++ b) = quoteL a ++ quoteL b := by simp [quoteL]
theorem quoteL_snoc (a : List UInt8) (c : UInt8) : quoteL (a ++ [c]) = quoteL a ++ quote1 c := by simp [quoteL]

/-! ### Unquote -/
def hexv (c : UInt8) : Option Nat := if 48 ≤ c.toNat ∧ c.toNat ≤ 57 then some (c.toNat - 48) else if 97 ≤ c.toNat ∧ c.toNat ≤ 102 then some (c.toNat - 87) else if 65 ≤ c.toNat ∧ c.toNat ≤ 70 then some (c.toNat - 55) else none
def unquoteL : List UInt8 → Option (List UInt8)
  | [] => some []
  | c :: r =>
    if c = 37 then
      match r with
      | a :: b :: r' => match hexv a, hexv b with
        | some x, some y => (unquoteL r').map ((16 * x + y).toUInt8 :: ·)
        | _, _ => none
      | _ => none
    else (unquoteL r).map ((if c = 43 then 32 else c) :: ·)
theorem hexv_lt {c : UInt8} {x : Nat} (h : hexv c = some x) : x < 16 := by
 unfold hexv at h
 split at h
 ·injection h with h; omega
 ·split at h
  ·injection h with h; omega
  ·split at h
   ·injection h with h; omega
   ·cases h
def digv (c : UInt8) : Int := match hexv c with | some x => x | none => -1
theorem digv_lt {c : UInt8} : digv c < 16 ∧ -1 ≤ digv c := by
 unfold digv
 split
 ·rename_i x h; have := hexv_lt h; omega
 ·omega
theorem hexv_of_digv {c : UInt8} (h : 0 ≤ digv c) : hexv c = some (digv c).toNat := by
 unfold digv at *
 split at h
 ·rename_i x hx; rw [hx]; simp
 ·omega
theorem hexv_none_of_digv {c : UInt8} (h : digv c < 0) : hexv c = none := by
 unfold digv at *
 split at h
 ·omega
 ·assumption
theorem unq_short (r : List UInt8) (h : r.length < 2) : unquoteL (37 :: r) = none := by
 unfold unquoteL
 match r, h with
 | [], _ => simp
 | [a], _ => simp
theorem unq_bad (a b : UInt8) (r : List UInt8) (h : digv a < 0 ∨ digv b < 0) : unquoteL (37 :: a :: b :: r) = none := by
 unfold unquoteL
 rw [if_pos rfl]
 rcases h with h | h
 ·simp [hexv_none_of_digv h]
 ·simp only [hexv_none_of_digv h]
  split <;> simp_all
theorem unq_ok (a b : UInt8) (r : List UInt8) (ha : 0 ≤ digv a) (hb : 0 ≤ digv b) : unquoteL (37 :: a :: b :: r) = (unquoteL r).map ((16 * (digv a).toNat + (digv b).toNat).toUInt8 :: ·) := by
 conv => lhs; unfold unquoteL
 rw [if_pos rfl]
 simp only [hexv_of_digv ha, hexv_of_digv hb]
theorem unq_plain (c : UInt8) (r : List UInt8) (h : c ≠ 37) : unquoteL (c :: r) = (unquoteL r).map ((if c = 43 then 32 else c) :: ·) := by
 conv => lhs; unfold unquoteL
 rw [if_neg h]

/-! ### Split -/
def splitL (c : UInt8) : List UInt8 → List (List UInt8)
  | [] => [[]]
  | x :: r => if x = c then [] :: splitL c r else match splitL c r with
    | p :: ps => (x :: p) :: ps
    | [] => [[x]]
theorem splitL_eq (c : UInt8) (l : List UInt8) : splitL c l = pre c l :: (if c ∈ l then splitL c (post c l) else []) := by
 induction l with
 | nil => simp [splitL, pre]
 | cons x r ih =>
  by_cases hx : x = c
  ·subst hx; simp [splitL, pre, post]
  ·have hx' : (x != c) = true := bne_iff_ne.2 hx
   have hm : (c ∈ x :: r) ↔ c ∈ r := by
    simp only [List.mem_cons]
    exact ⟨fun h => h.elim (fun e => absurd e.symm hx) id, .inr⟩
   rw [splitL, if_neg hx, ih]
   simp only [hm]
   simp [pre, post, hx']
theorem splitL_ne (c : UInt8) (l : List UInt8) : splitL c l ≠ [] := by rw [splitL_eq]; simp
theorem splitL_length_pos (c : UInt8) (l : List UInt8) : 0 < (splitL c l).length := by rw [splitL_eq]; simp
end Go.Proofs.YtifejhbochkifaaGreatDoor.Spec
