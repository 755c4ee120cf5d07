/- JSON in plain Lean: which values fit, their texts, and what reading a text gives. No program in sight. -/
import Derived.Test.YtifejhbochkifaaGreatDoorX0
import Derived.Test.YtifejhbochkifaaGreatDoorHSpec
import Derived.Lib.ItoaNum
import Derived.Lib.ParseIntBTie
namespace Go.Proofs.YtifejhbochkifaaGreatDoor.X
open Go.RowKit Go.Proofs.YtifejhbochkifaaGreatDoorW.PrintWords Go.Proofs.YtifejhbochkifaaGreatDoor.Spec
set_option linter.unusedVariables false
abbrev V := S25
def z_V : V := ⟨0, 0, ⟨#[]⟩, [], []⟩

/-! ### texts -/
def hexc (n : Nat) : UInt8 := if n < 10 then UInt8.ofNat (48 + n) else UInt8.ofNat (87 + n)
def esc1 (c : UInt8) : List UInt8 := if c = 34 ∨ c = 92 then [92, c] else if c.toNat < 32 then [92, 117, 48, 48, hexc (c.toNat / 16), hexc (c.toNat % 16)] else [c]
def escL (l : List UInt8) : List UInt8 := l.flatMap esc1
def jq (l : List UInt8) : List UInt8 := 34 :: (escL l ++ [34])
def commas : List (List UInt8) → List UInt8
  | [] => []
  | [x] => x
  | x :: y :: r => x ++ 44 :: commas (y :: r)
def w_null : List UInt8 := [110, 117, 108, 108]
def w_true : List UInt8 := [116, 114, 117, 101]
def w_false : List UInt8 := [102, 97, 108, 115, 101]
/-- A value's text; d is above its depth. -/
def rend : Nat → V → List UInt8
  | 0, _ => []
  | d + 1, v =>
    if v.f0 = 1 then w_null
    else if v.f0 = 2 then (if v.f1 = 1 then w_true else w_false)
    else if v.f0 = 3 then Lib.itoa v.f1
    else if v.f0 = 4 then jq (bl v.f2)
    else if v.f0 = 5 then 91 :: (commas (v.f3.map (rend d)) ++ [93])
    else 123 :: (commas (if v.f0 = 6 then List.zipWith (fun k x => jq (bl k) ++ 58 :: rend d x) v.f4 v.f3 else v.f3.map (rend d)) ++ [125])

/-! ### which values are good -/
def bareB (v : V) : Bool :=
  ((v.f0 == 3 && decide (-9007199254740992 ≤ v.f1) && decide (v.f1 ≤ 9007199254740992)) || (v.f0 == 2 && decide (0 ≤ v.f1) && decide (v.f1 ≤ 1)) || v.f1 == 0)
  && (v.f0 == 4 || v.f2.size == 0) && (v.f0 == 5 || v.f0 == 6 || v.f3.length == 0) && decide (v.f3.length ≤ 64)
def fitsB : Nat → V → Bool
  | 0, _ => false
  | d + 1, v => decide (1 ≤ v.f0) && decide (v.f0 ≤ 6) && bareB v
    && (if v.f0 = 6 then v.f4.length == v.f3.length && decide v.f4.Nodup else v.f4.length == 0)
    && v.f3.all (fitsB d)

/-! ### reading -/
def hexd (c : UInt8) : Option Nat := if 48 ≤ c.toNat ∧ c.toNat ≤ 57 then some (c.toNat - 48) else if 97 ≤ c.toNat ∧ c.toNat ≤ 102 then some (c.toNat - 87) else none
/-- two digits -/
def unhex : List UInt8 → Option (UInt8 × List UInt8)
  | a :: b :: r => match hexd a, hexd b with
    | some x, some y => if x ≤ 1 then some (UInt8.ofNat (16 * x + y), r) else none
    | _, _ => none
  | _ => none
theorem unhex_len {l : List UInt8} {c : UInt8} {r : List UInt8} (h : unhex l = some (c, r)) : r.length < l.length := by
 unfold unhex at h
 split at h
 ·split at h
  ·split at h
   ·simp only [Option.some.injEq, Prod.mk.injEq] at h
    rw [← h.2]; simp only [List.length_cons]; omega
   ·cases h
  ·cases h
 ·cases h
/-- behind a backslash -/
def unesc (l : List UInt8) : Option (UInt8 × List UInt8) :=
  if [34] <+: l then some (34, l.drop 1)
  else if [92] <+: l then some (92, l.drop 1)
  else if [117, 48, 48] <+: l then unhex (l.drop 3)
  else none
theorem unesc_len {l : List UInt8} {c : UInt8} {r : List UInt8} (h : unesc l = some (c, r)) : r.length < l.length := by
 unfold unesc at h
 split at h
 ·rename_i hp
  have := hp.length_le
  simp only [Option.some.injEq, Prod.mk.injEq] at h
  rw [← h.2, List.length_drop]; simp at this; omega
 ·split at h
  ·rename_i hp
   have := hp.length_le
   simp only [Option.some.injEq, Prod.mk.injEq] at h
   rw [← h.2, List.length_drop]; simp at this; omega
  ·split at h
   ·have := unhex_len h
    rw [List.length_drop] at this
    omega
   ·cases h
/-- behind the first quote: the text, and what is left; out: what has been read of it -/
def readTx (out : List UInt8) (l : List UInt8) : Option (List UInt8 × List UInt8) :=
  match l with
  | [] => none
  | c :: r =>
    if c = 34 then some (out, r)
    else if c = 92 then
      match h : unesc r with
      | some (x, r') => readTx (out ++ [x]) r'
      | none => none
    else if c.toNat < 32 then none else readTx (out ++ [c]) r
termination_by l.length
decreasing_by
  · have := unesc_len h; simp only [List.length_cons]; omega
  · simp
def readQ (l : List UInt8) : Option (List UInt8 × List UInt8) := if [34] <+: l then readTx [] (l.drop 1) else none
theorem readTx_len : ∀ (n : Nat) (l out t r : List UInt8), l.length ≤ n → readTx out l = some (t, r) → r.length < l.length := by
 intro n
 induction n with
 | zero => intro l out t r hn h; cases l with
  | nil => rw [readTx] at h; cases h
  | cons c l => simp at hn
 | succ n ih =>
  intro l out t r hn h
  cases l with
  | nil => rw [readTx] at h; cases h
  | cons c l =>
   simp only [List.length_cons] at hn ⊢
   rw [readTx] at h
   split at h
   ·simp only [Option.some.injEq, Prod.mk.injEq] at h
    rw [← h.2]; omega
   ·split at h
    ·split at h
     ·rename_i x r' e
      have h1 := unesc_len e
      have h2 := ih r' _ _ _ (by omega) h
      omega
     ·cases h
    ·split at h
     ·cases h
     ·have h2 := ih l _ _ _ (by omega) h
      omega
theorem readQ_len {l t r : List UInt8} (h : readQ l = some (t, r)) : r.length + 1 < l.length := by
 unfold readQ at h
 split at h
 ·rename_i hp
  have h1 := hp.length_le
  have h2 := readTx_len _ _ _ _ _ (Nat.le_refl _) h
  rw [List.length_drop] at h2
  simp at h1
  omega
 ·cases h
def isnum (c : UInt8) : Bool := c == 45 || (decide (48 ≤ c.toNat) && decide (c.toNat ≤ 57))
def readNum (l : List UInt8) : Option (V × List UInt8) :=
  match Lib.parseIntB 64 (l.takeWhile isnum) with
  | .ok x => if Lib.itoa x = l.takeWhile isnum then some (⟨3, x, ⟨#[]⟩, [], []⟩, l.drop (l.takeWhile isnum).length) else none
  | _ => none
def endc (obj : Bool) : UInt8 := if obj then 125 else 93
def kindc (obj : Bool) : Int := if obj then 6 else 5
mutual
/-- The value at the front, and what is left. -/
def readV : Nat → List UInt8 → Option (V × List UInt8)
  | 0, _ => none
  | k + 1, s =>
    if w_null <+: s then some (⟨1, 0, ⟨#[]⟩, [], []⟩, s.drop 4)
    else if w_true <+: s then some (⟨2, 1, ⟨#[]⟩, [], []⟩, s.drop 4)
    else if w_false <+: s then some (⟨2, 0, ⟨#[]⟩, [], []⟩, s.drop 5)
    else if [34] <+: s then (readQ s).map fun p => (⟨4, 0, ba p.1, [], []⟩, p.2)
    else if [91] <+: s then readRow k false (s.drop 1)
    else if [123] <+: s then readRow k true (s.drop 1)
    else readNum s
/-- behind the opening bracket -/
def readRow : Nat → Bool → List UInt8 → Option (V × List UInt8)
  | 0, _, _ => none
  | k + 1, obj, s => if [endc obj] <+: s then some (⟨kindc obj, 0, ⟨#[]⟩, [], []⟩, s.drop 1) else items k obj [] [] s
/-- the values that are left; ls, ks: what has been read -/
def items : Nat → Bool → List V → List ByteArray → List UInt8 → Option (V × List UInt8)
  | 0, _, _, _, _ => none
  | k + 1, true, ls, ks, s =>
    match readQ s with
    | some (t, r) => if [58] <+: r then item k true ls (ks ++ [ba t]) (r.drop 1) else none
    | none => none
  | k + 1, false, ls, ks, s => item k false ls ks s
def item : Nat → Bool → List V → List ByteArray → List UInt8 → Option (V × List UInt8)
  | 0, _, _, _, _ => none
  | k + 1, obj, ls, ks, s =>
    match readV k s with
    | some (x, r) =>
      if [endc obj] <+: r then some (⟨kindc obj, 0, ⟨#[]⟩, ls ++ [x], ks⟩, r.drop 1)
      else if [44] <+: r then items k obj (ls ++ [x]) ks (r.drop 1)
      else none
    | none => none
end
end Go.Proofs.YtifejhbochkifaaGreatDoor.X
