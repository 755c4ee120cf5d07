import Derived.Lib.IndexLaws
import Derived.Lib.Strings
import Derived.Test.YtmhaaggmfgojbaaDoorWWords
import Derived.Lib.LazyBuf
import Derived.Test.YtmhaaggmfgojbaaDoorX0
import Derived.Test.YtmhaaggmfgojbaaDoorBA
import Derived.Lib.CutLaws
import Derived.Lib.IndexMore
import Derived.Shelf.LaysM
import Derived.WalkKit
import Derived.Deep.LoopGhost
import Derived.Maps.Own
import Derived.Maps.OwnOps
import Derived.Maps.OwnSet
import Derived.Maps.Views
import Derived.Lib.SplitLaws
import Derived.RangeFuncNested
import Derived.RangeFuncBound
import Derived.RangeFuncCalls
import Derived.RangeFuncLeaves
import Derived.RangeFuncFrom
import Derived.Shelf.Abstract
import Derived.Shelf.RegionOpen
import Derived.OwnWalkIn
import Derived.TacticsInMore
import Derived.LoopNIn
import Derived.LoopIn
import Derived.StillTailTactics
import Derived.IntWalk
/-! HSpec -/
namespace Go.Proofs.YtmhaaggmfgojbaaDoor.Spec
open Go.Proofs.YtmhaaggmfgojbaaDoorW.PrintWords

/-- bytes of a string, and back -/
def bl (s : ByteArray) : List UInt8 := s.data.toList
def ba (l : List UInt8) : ByteArray := ⟨l.toArray⟩
@[simp] theorem bl_ba (l : List UInt8) : bl (ba l) = l := by simp [bl, ba]
@[simp] theorem ba_bl (s : ByteArray) : ba (bl s) = s := by simp [bl, ba]
@[simp] theorem size_ba (l : List UInt8) : (ba l).size = l.length := by simp [ba, ByteArray.size]
theorem bl_length (s : ByteArray) : (bl s).length = s.size := (Lib.size_eq s).symm
theorem toList_bl (s : ByteArray) : s.toList = bl s := Lib.toList_data s
theorem ba_inj {a b : List UInt8} (h : ba a = ba b) : a = b := by have := congrArg bl h; simpa using this
theorem bl_inj {a b : ByteArray} (h : bl a = bl b) : a = b := by have := congrArg ba h; simpa using this
theorem bl_append (a b : ByteArray) : bl (a ++ b) = bl a ++ bl b := by simp [bl]

/-- a byte of a string, at an index in it -/
theorem bt_get (s : ByteArray) (i : Nat) (h : i < s.size) : bt s (i : Int) = (((bl s)[i]'(by rw [bl_length]; exact h)).toNat : Int) := by
 unfold bt
 rw [dif_pos (by simpa using h)]
 simp [bl, ByteArray.getElem_eq_getElem_data]

/-! ### a byte's first place -/
def pre (c : UInt8) (l : List UInt8) : List UInt8 := l.takeWhile (fun x => x != c)
def post (c : UInt8) (l : List UInt8) : List UInt8 := (l.dropWhile (fun x => x != c)).drop 1
theorem pre_length_le (c : UInt8) (l : List UInt8) : (pre c l).length ≤ l.length := by
 induction l with
 | nil => simp [pre]
 | cons x r ih => unfold pre at *; simp only [List.takeWhile_cons]; split <;> simp; omega
theorem pre_of_not_mem {c : UInt8} {l : List UInt8} (h : c ∉ l) : pre c l = l := by
 induction l with
 | nil => rfl
 | cons x r ih =>
  simp only [List.mem_cons, not_or] at h
  have hx : (x != c) = true := bne_iff_ne.2 (fun e => h.1 e.symm)
  unfold pre at *
  rw [List.takeWhile_cons, if_pos hx, ih h.2]
theorem post_of_not_mem {c : UInt8} {l : List UInt8} (h : c ∉ l) : post c l = [] := by
 induction l with
 | nil => rfl
 | cons x r ih =>
  simp only [List.mem_cons, not_or] at h
  have hx : (x != c) = true := bne_iff_ne.2 (fun e => h.1 e.symm)
  unfold post at *
  rw [List.dropWhile_cons, if_pos hx, ih h.2]
theorem pre_post {c : UInt8} {l : List UInt8} (h : c ∈ l) : l = pre c l ++ c :: post c l := by
 induction l with
 | nil => cases h
 | cons x r ih =>
  by_cases hx : x = c
  ·subst hx; simp [pre, post]
  ·have hx' : (x != c) = true := bne_iff_ne.2 hx
   have hr : c ∈ r := by
    rcases List.mem_cons.1 h with h | h
    ·exact absurd h.symm hx
    ·exact h
   have := ih hr
   unfold pre post at *
   rw [List.takeWhile_cons, List.dropWhile_cons, if_pos hx', if_pos hx', List.cons_append, ← this]
theorem not_mem_pre (c : UInt8) (l : List UInt8) : c ∉ pre c l := by
 induction l with
 | nil => simp [pre]
 | cons x r ih =>
  unfold pre at *
  rw [List.takeWhile_cons]
  split
  ·rename_i hx
   simp only [List.mem_cons, not_or]
   exact ⟨fun e => (bne_iff_ne.1 hx) e.symm, ih⟩
  ·simp
theorem indexByte_eq (c : UInt8) (l : List UInt8) : Lib.indexByte l c = if c ∈ l then ((pre c l).length : Int) else -1 := by
 induction l with
 | nil => rfl
 | cons x r ih =>
  unfold Lib.indexByte
  by_cases hx : x = c
  ·subst hx; simp [pre]
  ·have hx' : (x == c) = false := beq_eq_false_iff_ne.2 hx
   have hx2 : (x != c) = true := bne_iff_ne.2 hx
   have hm : (c ∈ x :: r) ↔ c ∈ r := by
    simp only [List.mem_cons]
    exact ⟨fun h => h.elim (fun e => absurd e.symm hx) id, .inr⟩
   rw [hx', ih]
   by_cases hc : c ∈ r
   ·rw [if_pos hc, if_pos (hm.2 hc)]
    have : ¬ (((pre c r).length : Int) = -1) := by omega
    simp [pre, hx2]
    try omega
   ·rw [if_neg hc, if_neg (fun h => hc (hm.1 h))]
    simp

/-! ### Quote -/
def wordc (c : UInt8) : Bool := (97 ≤ c.toNat && c.toNat ≤ 122) || (65 ≤ c.toNat && c.toNat ≤ 90) || (48 ≤ c.toNat && c.toNat ≤ 57)
def plainc (c : UInt8) : Bool := wordc c || c == 45 || c == 46 || c == 95 || c == 126
def greatc (n : Nat) : UInt8 := if n < 10 then (48 + n).toUInt8 else (55 + n).toUInt8
def quote1 (c : UInt8) : List UInt8 := if plainc c then [c] else [37, greatc (c.toNat / 16), greatc (c.toNat % 16)]
def quoteL (l : List UInt8) : List UInt8 := l.flatMap quote1
theorem quote1_length (c : UInt8) : (quote1 c).length ≤ 3 ∧ 1 ≤ (quote1 c).length := by unfold quote1; split <;> simp
theorem quoteL_length (l : List UInt8) : (quoteL l).length ≤ 3 * l.length := by
 induction l with
 | nil => simp [quoteL]
 | cons c r ih => have := quote1_length c; simp only [quoteL, List.flatMap_cons, List.length_append, List.length_cons] at *; omega
theorem quoteL_append (a b : List UInt8) : quoteL (a ++ b) = quoteL a ++ quoteL b := by simp [quoteL]
theorem quoteL_snoc (a : List UInt8) (c : UInt8) : quoteL (a ++ [c]) = quoteL a ++ quote1 c := by simp [quoteL]

/-! ### Unquote -/
def hexv (c : UInt8) : Option Nat := if 48 ≤ c.toNat ∧ c.toNat ≤ 57 then some (c.toNat - 48) else if 97 ≤ c.toNat ∧ c.toNat ≤ 102 then some (c.toNat - 87) else if 65 ≤ c.toNat ∧ c.toNat ≤ 70 then some (c.toNat - 55) else none
def unquoteL : List UInt8 → Option (List UInt8)
  | [] => some []
  | c :: r =>
    if c = 37 then
      match r with
      | a :: b :: r' => match hexv a, hexv b with
        | some x, some y => (unquoteL r').map ((16 * x + y).toUInt8 :: ·)
        | _, _ => none
      | _ => none
    else (unquoteL r).map ((if c = 43 then 32 else c) :: ·)
theorem hexv_lt {c : UInt8} {x : Nat} (h : hexv c = some x) : x < 16 := by
 unfold hexv at h
 split at h
 ·injection h with h; omega
 ·split at h
  ·injection h with h; omega
  ·split at h
   ·injection h with h; omega
   ·cases h
def digv (c : UInt8) : Int := match hexv c with | some x => x | none => -1
theorem digv_lt {c : UInt8} : digv c < 16 ∧ -1 ≤ digv c := by
 unfold digv
 split
 ·rename_i x h; have := hexv_lt h; omega
 ·omega
theorem hexv_of_digv {c : UInt8} (h : 0 ≤ digv c) : hexv c = some (digv c).toNat := by
 unfold digv at *
 split at h
 ·rename_i x hx; rw [hx]; simp
 ·omega
theorem hexv_none_of_digv {c : UInt8} (h : digv c < 0) : hexv c = none := by
 unfold digv at *
 split at h
 ·omega
 ·assumption
theorem unq_short (r : List UInt8) (h : r.length < 2) : unquoteL (37 :: r) = none := by
 unfold unquoteL
 match r, h with
 | [], _ => simp
 | [a], _ => simp
theorem unq_bad (a b : UInt8) (r : List UInt8) (h : digv a < 0 ∨ digv b < 0) : unquoteL (37 :: a :: b :: r) = none := by
 unfold unquoteL
 rw [if_pos rfl]
 rcases h with h | h
 ·simp [hexv_none_of_digv h]
 ·simp only [hexv_none_of_digv h]
  split <;> simp_all
theorem unq_ok (a b : UInt8) (r : List UInt8) (ha : 0 ≤ digv a) (hb : 0 ≤ digv b) : unquoteL (37 :: a :: b :: r) = (unquoteL r).map ((16 * (digv a).toNat + (digv b).toNat).toUInt8 :: ·) := by
 conv => lhs; unfold unquoteL
 rw [if_pos rfl]
 simp only [hexv_of_digv ha, hexv_of_digv hb]
theorem unq_plain (c : UInt8) (r : List UInt8) (h : c ≠ 37) : unquoteL (c :: r) = (unquoteL r).map ((if c = 43 then 32 else c) :: ·) := by
 conv => lhs; unfold unquoteL
 rw [if_neg h]

/-! ### Split -/
def splitL (c : UInt8) : List UInt8 → List (List UInt8)
  | [] => [[]]
  | x :: r => if x = c then [] :: splitL c r else match splitL c r with
    | p :: ps => (x :: p) :: ps
    | [] => [[x]]
theorem splitL_eq (c : UInt8) (l : List UInt8) : splitL c l = pre c l :: (if c ∈ l then splitL c (post c l) else []) := by
 induction l with
 | nil => simp [splitL, pre]
 | cons x r ih =>
  by_cases hx : x = c
  ·subst hx; simp [splitL, pre, post]
  ·have hx' : (x != c) = true := bne_iff_ne.2 hx
   have hm : (c ∈ x :: r) ↔ c ∈ r := by
    simp only [List.mem_cons]
    exact ⟨fun h => h.elim (fun e => absurd e.symm hx) id, .inr⟩
   rw [splitL, if_neg hx, ih]
   simp only [hm]
   simp [pre, post, hx']
theorem splitL_ne (c : UInt8) (l : List UInt8) : splitL c l ≠ [] := by rw [splitL_eq]; simp
theorem splitL_length_pos (c : UInt8) (l : List UInt8) : 0 < (splitL c l).length := by rw [splitL_eq]; simp
end Go.Proofs.YtmhaaggmfgojbaaDoor.Spec

/-! HB64S -/
namespace Go.Proofs.YtmhaaggmfgojbaaDoor.X
open Go.RowKit Go.Proofs.YtmhaaggmfgojbaaDoorW.PrintWords Go.Proofs.YtmhaaggmfgojbaaDoor.Spec
set_option linter.unusedVariables false
set_option linter.unusedSimpArgs false

def alphaB : ByteArray := ⟨#[65, 66, 67, 68, 69, 70, 71, 72, 73, 74, 75, 76, 77, 78, 79, 80, 81, 82, 83, 84, 85, 86, 87, 88, 89, 90, 97, 98, 99, 100, 101, 102, 103, 104, 105, 106, 107, 108, 109, 110, 111, 112, 113, 114, 115, 116, 117, 118, 119, 120, 121, 122, 48, 49, 50, 51, 52, 53, 54, 55, 56, 57, 45, 95]⟩
def alpha (n : Nat) : UInt8 := alphaB.data.toList.getD n 0
structure ES where
  out : List UInt8
  have_ : Nat
  v : Nat
def eStep (s : ES) (b : UInt8) : ES :=
  if s.have_ = 4 then ⟨s.out ++ [alpha ((s.v * 256 + b.toNat) / 64 % 64), alpha ((s.v * 256 + b.toNat) % 64)], 0, 0⟩
  else if s.have_ = 2 then ⟨s.out ++ [alpha ((s.v * 256 + b.toNat) / 16 % 64)], 4, (s.v * 256 + b.toNat) % 16⟩
  else ⟨s.out ++ [alpha (b.toNat / 4 % 64)], 2, b.toNat % 4⟩
def eSt (l : List UInt8) : ES := l.foldl eStep ⟨[], 0, 0⟩
theorem eSt_snoc (l : List UInt8) (b : UInt8) : eSt (l ++ [b]) = eStep (eSt l) b := by simp [eSt, List.foldl_append]
def eEnd (s : ES) : List UInt8 := if s.have_ = 4 then s.out ++ [alpha (s.v * 4 % 64)] else if s.have_ = 2 then s.out ++ [alpha (s.v * 16 % 64)] else s.out
def encL (l : List UInt8) : List UInt8 := eEnd (eSt l)
/-- the machine's states -/
structure EOk (s : ES) (n : Nat) : Prop where
  st : s.have_ = 0 ∧ s.v = 0 ∨ s.have_ = 2 ∧ s.v < 4 ∨ s.have_ = 4 ∧ s.v < 16
  len : s.out.length ≤ 2 * n
theorem EOk.nil : EOk ⟨[], 0, 0⟩ 0 := ⟨.inl ⟨rfl, rfl⟩, Nat.le_refl _⟩
theorem EOk.step {s : ES} {n : Nat} (h : EOk s n) (b : UInt8) : EOk (eStep s b) (n + 1) := by
 have hl := h.len
 unfold eStep
 rcases h.st with ⟨h1, h2⟩ | ⟨h1, h2⟩ | ⟨h1, h2⟩
 ·rw [if_neg (by omega), if_neg (by omega)]
  exact ⟨.inr (.inl ⟨rfl, by show b.toNat % 4 < 4; omega⟩), by simp only [List.length_append, List.length_cons, List.length_nil]; omega⟩
 ·rw [if_neg (by omega), if_pos (by omega)]
  exact ⟨.inr (.inr ⟨rfl, by show (s.v * 256 + b.toNat) % 16 < 16; omega⟩), by simp only [List.length_append, List.length_cons, List.length_nil]; omega⟩
 ·rw [if_pos (by omega)]
  exact ⟨.inl ⟨rfl, rfl⟩, by simp only [List.length_append, List.length_cons, List.length_nil]; omega⟩
theorem eOk_take (l : List UInt8) : ∀ k : Nat, k ≤ l.length → EOk (eSt (l.take k)) k := by
 intro k
 induction k with
 | zero => intro _; exact EOk.nil
 | succ k ih =>
  intro hk
  rw [List.take_succ_eq_append_getElem (by omega), eSt_snoc]
  exact (ih (by omega)).step _
theorem encL_length (l : List UInt8) : (encL l).length ≤ 2 * l.length + 1 := by
 have h := eOk_take l l.length (Nat.le_refl _)
 rw [List.take_length] at h
 have := h.len
 unfold encL eEnd
 split
 ·simp only [List.length_append, List.length_cons, List.length_nil]; omega
 ·split
  ·simp only [List.length_append, List.length_cons, List.length_nil]; omega
  ·omega

/-- which letter a byte is -/
def letter (c : UInt8) : Int := Lib.indexByte alphaB.data.toList c
theorem letter_fin : ∀ n : Fin 256, (letter (UInt8.ofNat n.val) < 0 ∨ 0 ≤ letter (UInt8.ofNat n.val) ∧ letter (UInt8.ofNat n.val) < 64 ∧ alpha (letter (UInt8.ofNat n.val)).toNat = UInt8.ofNat n.val) := by decide +kernel
theorem letter_cases (c : UInt8) : letter c < 0 ∨ 0 ≤ letter c ∧ letter c < 64 ∧ alpha (letter c).toNat = c := by
 have := letter_fin ⟨c.toNat, c.toNat_lt⟩
 simpa using this
theorem letter_alpha_fin : ∀ n : Fin 64, letter (alpha n.val) = n.val := by decide +kernel
theorem letter_alpha (n : Nat) (h : n < 64) : letter (alpha n) = n := letter_alpha_fin ⟨n, h⟩
def dStep (s : ES) (d : Nat) : ES :=
  if s.have_ = 0 then ⟨s.out, 6, d⟩
  else if s.have_ = 6 then ⟨s.out ++ [UInt8.ofNat ((s.v * 64 + d) / 16 % 256)], 4, (s.v * 64 + d) % 16⟩
  else if s.have_ = 4 then ⟨s.out ++ [UInt8.ofNat ((s.v * 64 + d) / 4 % 256)], 2, (s.v * 64 + d) % 4⟩
  else ⟨s.out ++ [UInt8.ofNat ((s.v * 64 + d) % 256)], 0, 0⟩
def dSt : ES → List UInt8 → Option ES
  | s, [] => some s
  | s, c :: r => if letter c < 0 then none else dSt (dStep s (letter c).toNat) r
theorem dSt_snoc (s : ES) (l : List UInt8) (c : UInt8) : dSt s (l ++ [c]) = (dSt s l).bind fun t => if letter c < 0 then none else some (dStep t (letter c).toNat) := by
 induction l generalizing s with
 | nil => rfl
 | cons x r ih =>
  show dSt s (x :: (r ++ [c])) = _
  rw [dSt, dSt]
  split
  ·rfl
  ·exact ih _
structure DOk (s : ES) (n : Nat) : Prop where
  st : s.have_ = 0 ∧ s.v = 0 ∨ s.have_ = 2 ∧ s.v < 4 ∨ s.have_ = 4 ∧ s.v < 16 ∨ s.have_ = 6 ∧ s.v < 64
  len : s.out.length ≤ n
theorem DOk.nil : DOk ⟨[], 0, 0⟩ 0 := ⟨.inl ⟨rfl, rfl⟩, Nat.le_refl _⟩
theorem DOk.step {s : ES} {n : Nat} (h : DOk s n) (d : Nat) (hd : d < 64) : DOk (dStep s d) (n + 1) := by
 have hl := h.len
 unfold dStep
 rcases h.st with ⟨h1, h2⟩ | ⟨h1, h2⟩ | ⟨h1, h2⟩ | ⟨h1, h2⟩
 ·rw [if_pos h1]
  exact ⟨.inr (.inr (.inr ⟨rfl, hd⟩)), Nat.le_succ_of_le hl⟩
 ·rw [if_neg (by omega), if_neg (by omega), if_neg (by omega)]
  exact ⟨.inl ⟨rfl, rfl⟩, by simp only [List.length_append, List.length_cons, List.length_nil]; omega⟩
 ·rw [if_neg (by omega), if_neg (by omega), if_pos (by omega)]
  exact ⟨.inr (.inl ⟨rfl, by show (s.v * 64 + d) % 4 < 4; omega⟩), by simp only [List.length_append, List.length_cons, List.length_nil]; omega⟩
 ·rw [if_neg (by omega), if_pos (by omega)]
  exact ⟨.inr (.inr (.inl ⟨rfl, by show (s.v * 64 + d) % 16 < 16; omega⟩)), by simp only [List.length_append, List.length_cons, List.length_nil]; omega⟩
theorem dOk_take (l : List UInt8) : ∀ (k : Nat), k ≤ l.length → ∀ s, dSt ⟨[], 0, 0⟩ (l.take k) = some s → DOk s k := by
 intro k
 induction k with
 | zero => intro _ s h; obtain rfl := Option.some.inj h; exact DOk.nil
 | succ k ih =>
  intro hk s h
  rw [List.take_succ_eq_append_getElem (by omega), dSt_snoc] at h
  obtain ⟨t, ht, h⟩ := Option.bind_eq_some_iff.1 h
  split at h
  ·cases h
  ·rename_i hn
   obtain rfl := Option.some.inj h
   rcases letter_cases l[k] with h0 | ⟨h0, h1, _⟩
   ·exact absurd h0 hn
   ·exact (ih (by omega) t ht).step _ (by omega)
/-- a text's bytes; the flag: it is those bytes' own text -/
def decL (l : List UInt8) : Option (List UInt8) := (dSt ⟨[], 0, 0⟩ l).map ES.out
def decR (l : List UInt8) : List UInt8 × Bool := match decL l with | some o => (o, decide (encL o = l)) | none => ([], false)
theorem decL_length (l o : List UInt8) (h : decL l = some o) : o.length ≤ l.length := by
 unfold decL at h
 obtain ⟨s, hs, rfl⟩ := Option.map_eq_some_iff.1 h
 have := (dOk_take l l.length (Nat.le_refl _) s (by rw [List.take_length]; exact hs)).len
 exact this

/-! what is encoded is decoded again -/
theorem ofNat_eq (b : UInt8) (n : Nat) (h : n = b.toNat) : UInt8.ofNat n = b := by subst h; simp
def Sim (l : List UInt8) (s : ES) (t : ES) : Prop :=
  s.have_ = 0 ∧ s.v = 0 ∧ t = ⟨l, 0, 0⟩ ∨ (∃ l' b, l = l' ++ [b] ∧ s.have_ = 2 ∧ s.v = b.toNat % 4 ∧ t = ⟨l', 6, b.toNat / 4⟩) ∨ (∃ l' b, l = l' ++ [b] ∧ s.have_ = 4 ∧ s.v = b.toNat % 16 ∧ t = ⟨l', 4, b.toNat / 16⟩)
theorem dSt_letter (s : ES) (l : List UInt8) (t : ES) (h : dSt s l = some t) (n : Nat) (hn : n < 64) : dSt s (l ++ [alpha n]) = some (dStep t n) := by
 rw [dSt_snoc, h, Option.bind_some, letter_alpha n hn, if_neg (by omega)]
 rfl
theorem sim_step {l : List UInt8} {s t : ES} (h : Sim l s t) (ht : dSt ⟨[], 0, 0⟩ s.out = some t) (b : UInt8) : ∃ t', dSt ⟨[], 0, 0⟩ (eStep s b).out = some t' ∧ Sim (l ++ [b]) (eStep s b) t' := by
 have hb := b.toNat_lt
 rcases h with ⟨h1, h2, rfl⟩ | ⟨l', b0, rfl, h1, h2, rfl⟩ | ⟨l', b0, rfl, h1, h2, rfl⟩
 ·have e : eStep s b = ⟨s.out ++ [alpha (b.toNat / 4 % 64)], 2, b.toNat % 4⟩ := by unfold eStep; rw [if_neg (by omega), if_neg (by omega)]
  rw [e]
  refine ⟨_, dSt_letter _ _ _ ht _ (by omega), .inr (.inl ⟨l, b, rfl, rfl, rfl, ?_⟩)⟩
  unfold dStep
  rw [if_pos rfl]
  congr 1; omega
 ·have hb0 := b0.toNat_lt
  have e : eStep s b = ⟨s.out ++ [alpha ((s.v * 256 + b.toNat) / 16 % 64)], 4, (s.v * 256 + b.toNat) % 16⟩ := by unfold eStep; rw [if_neg (by omega), if_pos (by omega)]
  rw [e]
  refine ⟨_, dSt_letter _ _ _ ht _ (by omega), .inr (.inr ⟨l' ++ [b0], b, rfl, rfl, by show (s.v * 256 + b.toNat) % 16 = _; omega, ?_⟩)⟩
  unfold dStep
  rw [if_neg (by simp), if_pos rfl]
  congr 1
  ·rw [ofNat_eq b0 _ (by dsimp only; omega)]
  ·dsimp only; omega
 ·have hb0 := b0.toNat_lt
  have e : eStep s b = ⟨s.out ++ [alpha ((s.v * 256 + b.toNat) / 64 % 64), alpha ((s.v * 256 + b.toNat) % 64)], 0, 0⟩ := by unfold eStep; rw [if_pos (by omega)]
  rw [e]
  have h3 := dSt_letter _ _ _ ht ((s.v * 256 + b.toNat) / 64 % 64) (by omega)
  have h4 := dSt_letter _ _ _ h3 ((s.v * 256 + b.toNat) % 64) (by omega)
  rw [List.append_assoc] at h4
  refine ⟨_, h4, .inl ⟨rfl, rfl, ?_⟩⟩
  have e1 : dStep ⟨l', 4, b0.toNat / 16⟩ ((s.v * 256 + b.toNat) / 64 % 64) = ⟨l' ++ [b0], 2, b.toNat / 64⟩ := by
   unfold dStep
   rw [if_neg (by simp), if_neg (by simp), if_pos rfl]
   congr 1
   ·rw [ofNat_eq b0 _ (by dsimp only; omega)]
   ·dsimp only; omega
  rw [e1]
  unfold dStep
  rw [if_neg (by simp), if_neg (by simp), if_neg (by simp)]
  congr 1
  rw [ofNat_eq b _ (by dsimp only; omega)]
theorem sim_all (l : List UInt8) : ∀ k : Nat, k ≤ l.length → ∃ t, dSt ⟨[], 0, 0⟩ (eSt (l.take k)).out = some t ∧ Sim (l.take k) (eSt (l.take k)) t := by
 intro k
 induction k with
 | zero => intro _; exact ⟨_, rfl, .inl ⟨rfl, rfl, rfl⟩⟩
 | succ k ih =>
  intro hk
  obtain ⟨t, ht, hS⟩ := ih (by omega)
  rw [List.take_succ_eq_append_getElem (by omega), eSt_snoc]
  exact sim_step hS ht _
theorem dec_enc (l : List UInt8) : decL (encL l) = some l := by
 obtain ⟨t, ht, hS⟩ := sim_all l l.length (Nat.le_refl _)
 rw [List.take_length] at ht hS
 unfold decL encL eEnd
 rcases hS with ⟨h1, h2, rfl⟩ | ⟨l', b, rfl, h1, h2, rfl⟩ | ⟨l', b, rfl, h1, h2, rfl⟩
 ·rw [if_neg (by omega), if_neg (by omega), ht]
  rfl
 ·have hb := b.toNat_lt
  rw [if_neg (by omega), if_pos (by omega), dSt_letter _ _ _ ht _ (by omega)]
  unfold dStep
  rw [if_neg (by simp), if_pos rfl, Option.map_some]
  dsimp only
  rw [ofNat_eq b _ (by omega)]
 ·have hb := b.toNat_lt
  rw [if_pos (by omega), dSt_letter _ _ _ ht _ (by omega)]
  unfold dStep
  rw [if_neg (by simp), if_neg (by simp), if_pos rfl, Option.map_some]
  dsimp only
  rw [ofNat_eq b _ (by omega)]
theorem decR_enc (l : List UInt8) : decR (encL l) = (l, true) := by
 unfold decR
 rw [dec_enc]
 simp
/-- letters taken out of what is kept, six bits at a time -/
def drain : Nat → Nat → Nat → List UInt8 → List UInt8 × Nat
  | 0, hv, _, o => (o, hv)
  | n + 1, hv, B, o => if 6 ≤ hv then drain n (hv - 6) B (o ++ [alpha (B / 2 ^ (hv - 6) % 64)]) else (o, hv)
theorem drain_go {n hv B : Nat} {o : List UInt8} (h : 6 ≤ hv) : drain (n + 1) hv B o = drain n (hv - 6) B (o ++ [alpha (B / 2 ^ (hv - 6) % 64)]) := by
 conv => lhs; unfold drain
 rw [if_pos h]
theorem drain_end {n hv B : Nat} {o : List UInt8} (h : hv < 6) : drain n hv B o = (o, hv) := by
 cases n with
 | zero => rfl
 | succ n => unfold drain; rw [if_neg (by omega)]
theorem drain_step {s : ES} {k B : Nat} (c : UInt8) (hok : EOk s k) (h2 : s.have_ = 2 → B % 4 = s.v) (h4 : s.have_ = 4 → B % 16 = s.v) :
  drain 2 (s.have_ + 8) (B * 256 % 4294967296 + c.toNat) s.out = ((eStep s c).out, (eStep s c).have_) := by
 have hc := c.toNat_lt
 rcases hok.st with ⟨h, hv⟩ | ⟨h, hv⟩ | ⟨h, hv⟩
 ·rw [h, drain_go (by decide), drain_end (by decide)]
  unfold eStep
  rw [if_neg (by omega), if_neg (by omega)]
  have e : (B * 256 % 4294967296 + c.toNat) / 2 ^ (0 + 8 - 6) % 64 = c.toNat / 4 % 64 := by
   show (B * 256 % 4294967296 + c.toNat) / 4 % 64 = _
   omega
  rw [e]
 ·rw [h, drain_go (by decide), drain_end (by decide)]
  unfold eStep
  rw [if_neg (by omega), if_pos (by omega)]
  have := h2 h
  have e : (B * 256 % 4294967296 + c.toNat) / 2 ^ (2 + 8 - 6) % 64 = (s.v * 256 + c.toNat) / 16 % 64 := by
   show (B * 256 % 4294967296 + c.toNat) / 16 % 64 = _
   omega
  rw [e]
 ·rw [h, drain_go (by decide), drain_go (by decide), drain_end (by decide)]
  unfold eStep
  rw [if_pos (by omega)]
  have := h4 h
  have e : (B * 256 % 4294967296 + c.toNat) / 2 ^ (4 + 8 - 6) % 64 = (s.v * 256 + c.toNat) / 64 % 64 := by
   show (B * 256 % 4294967296 + c.toNat) / 64 % 64 = _
   omega
  have e2 : (B * 256 % 4294967296 + c.toNat) / 2 ^ (4 + 8 - 6 - 6) % 64 = (s.v * 256 + c.toNat) % 64 := by
   show (B * 256 % 4294967296 + c.toNat) / 1 % 64 = _
   omega
  rw [e, e2]
  simp
theorem keep_step {s : ES} {k B : Nat} (c : UInt8) (hok : EOk s k) (h2 : s.have_ = 2 → B % 4 = s.v) (h4 : s.have_ = 4 → B % 16 = s.v) :
  ((eStep s c).have_ = 2 → (B * 256 % 4294967296 + c.toNat) % 4 = (eStep s c).v) ∧ ((eStep s c).have_ = 4 → (B * 256 % 4294967296 + c.toNat) % 16 = (eStep s c).v) := by
 have hc := c.toNat_lt
 rcases hok.st with ⟨h, hv⟩ | ⟨h, hv⟩ | ⟨h, hv⟩
 ·unfold eStep
  rw [if_neg (by omega), if_neg (by omega)]
  exact ⟨fun _ => (by show _ = c.toNat % 4; omega), fun e => (by cases e)⟩
 ·unfold eStep
  rw [if_neg (by omega), if_pos (by omega)]
  have := h2 h
  exact ⟨fun e => (by cases e), fun _ => (by show _ = (s.v * 256 + c.toNat) % 16; omega)⟩
 ·unfold eStep
  rw [if_pos (by omega)]
  exact ⟨fun e => (by cases e), fun e => (by cases e)⟩
def Drains (f : Nat) (hv B : Nat) (o : List UInt8) (t : ES) : Prop := drain f hv B o = (t.out, t.have_)

theorem dSt_append (s : ES) (a b : List UInt8) : dSt s (a ++ b) = (dSt s a).bind fun t => dSt t b := by
 induction a generalizing s with
 | nil => rfl
 | cons x r ih =>
  show dSt s (x :: (r ++ b)) = _
  rw [dSt, dSt]
  split
  ·rfl
  ·exact ih _
theorem letter_range (c : UInt8) : -1 ≤ letter c ∧ letter c < 64 := by
 have fin : ∀ n : Fin 256, -1 ≤ letter (UInt8.ofNat n.val) ∧ letter (UInt8.ofNat n.val) < 64 := by decide +kernel
 have := fin ⟨c.toNat, c.toNat_lt⟩
 simpa using this
def DKeep (s : ES) (B : Nat) : Prop := B < 4294967296 ∧ (s.have_ = 2 → B % 4 = s.v) ∧ (s.have_ = 4 → B % 16 = s.v) ∧ (s.have_ = 6 → B % 64 = s.v)
theorem dkeep_step {s : ES} {k B d : Nat} (hok : DOk s k) (h : DKeep s B) (hd : d < 64) : DKeep (dStep s d) (B * 64 % 4294967296 + d) := by
 obtain ⟨h0, h2, h4, h6⟩ := h
 unfold dStep
 rcases hok.st with ⟨e1, e2⟩ | ⟨e1, e2⟩ | ⟨e1, e2⟩ | ⟨e1, e2⟩
 ·rw [if_pos e1]
  exact ⟨by omega, fun e => (by cases e), fun e => (by cases e), fun _ => (by show _ = d; omega)⟩
 ·rw [if_neg (by omega), if_neg (by omega), if_neg (by omega)]
  exact ⟨by omega, fun e => (by cases e), fun e => (by cases e), fun e => (by cases e)⟩
 ·have := h4 e1
  rw [if_neg (by omega), if_neg (by omega), if_pos (by omega)]
  exact ⟨by omega, fun _ => (by show _ = (s.v * 64 + d) % 4; omega), fun e => (by cases e), fun e => (by cases e)⟩
 ·have := h6 e1
  rw [if_neg (by omega), if_pos (by omega)]
  exact ⟨by omega, fun e => (by cases e), fun _ => (by show _ = (s.v * 64 + d) % 16; omega), fun e => (by cases e)⟩
theorem decR_none {l : List UInt8} {k : Nat} (h : dSt ⟨[], 0, 0⟩ (l.take k) = none) : decR l = ([], false) := by
 have : dSt ⟨[], 0, 0⟩ l = none := by
  have e := dSt_append ⟨[], 0, 0⟩ (l.take k) (l.drop k)
  rw [List.take_append_drop, h] at e
  exact e
 unfold decR decL
 rw [this]; rfl
theorem decR_some {l : List UInt8} {s : ES} (h : dSt ⟨[], 0, 0⟩ l = some s) : decR l = (s.out, decide (encL s.out = l)) := by
 unfold decR decL
 rw [h]; rfl
end Go.Proofs.YtmhaaggmfgojbaaDoor.X

/-! HEv -/
namespace Go.Proofs.YtmhaaggmfgojbaaDoor.X
open Go.RowKit Go.Proofs.YtmhaaggmfgojbaaDoorW.PrintWords Go.Proofs.YtmhaaggmfgojbaaDoor.Spec
set_option linter.unusedVariables false

def Ev {α : Type} (g : Nat → Option α) (x : α) : Prop := ∃ K, ∀ k, K ≤ k → g k = some x
theorem Ev.const {α : Type} {g : Option α} {x : α} (h : g = some x) : Ev (fun _ => g) x := ⟨0, fun _ _ => h⟩
theorem Ev.bind {α β : Type} {g : Nat → Option α} {h : Nat → α → Option β} {a : α} {x : β} (ha : Ev g a) (hx : Ev (fun k => h k a) x) : Ev (fun k => (g k).bind (h k)) x := by
 obtain ⟨K1, h1⟩ := ha
 obtain ⟨K2, h2⟩ := hx
 exact ⟨K1 + K2, fun k hk => by show (g k).bind (h k) = some x; rw [h1 k (by omega)]; exact h2 k (by omega)⟩
theorem Ev.step {α : Type} {g g' : Nat → Option α} {x : α} (h : ∀ k, g (k + 1) = g' k) (hx : Ev g' x) : Ev g x := by
 obtain ⟨K, hK⟩ := hx
 exact ⟨K + 1, fun k hk => by obtain ⟨j, rfl⟩ : ∃ j, k = j + 1 := ⟨k - 1, by omega⟩; rw [h]; exact hK j (by omega)⟩
theorem Ev.if_pos {α : Type} {c : Prop} [Decidable c] {g h : Nat → Option α} {x : α} (hc : c) (hx : Ev g x) : Ev (fun k => if c then g k else h k) x := by
 have e : (fun k => if c then g k else h k) = g := funext fun k => _root_.if_pos hc
 rw [e]; exact hx
theorem Ev.if_neg {α : Type} {c : Prop} [Decidable c] {g h : Nat → Option α} {x : α} (hc : ¬ c) (hx : Ev h x) : Ev (fun k => if c then g k else h k) x := by
 have e : (fun k => if c then g k else h k) = h := funext fun k => _root_.if_neg hc
 rw [e]; exact hx
theorem Ev.some {α : Type} (x : α) : Ev (fun _ => Option.some x) x := ⟨0, fun _ _ => rfl⟩
theorem Ev.get {α : Type} {g : Nat → Option α} {x : α} (h : Ev g x) : ∃ k, g k = Option.some x := let ⟨K, hK⟩ := h; ⟨K, hK K (Nat.le_refl _)⟩
theorem Ev.uni {α : Type} {g : Nat → Option α} {x y : α} (h : Ev g x) (e : x = y) : Ev g y := e ▸ h
theorem Ev.of_mono {α : Type} {g : Nat → Option α} {x : α} (hm : ∀ k, LeO (g k) (g (k + 1))) {K : Nat} (h : g K = Option.some x) : Ev g x :=
 ⟨K, fun k hk => by
  obtain ⟨d, rfl⟩ : ∃ d, k = K + d := ⟨k - K, by omega⟩
  clear hk
  induction d with
  | zero => exact h
  | succ d ih => exact hm _ _ ih⟩

theorem w64 {n : Int} (h0 : -9223372036854775808 ≤ n) (h1 : n ≤ 9223372036854775807) : wrap64 n = n := by unfold wrap64; omega

/-- bytes as numbers -/
def nb (l : List UInt8) : List Int := l.map fun b => (b.toNat : Int)
@[simp] theorem nb_length (l : List UInt8) : (nb l).length = l.length := by simp [nb]
theorem nb_append (a b : List UInt8) : nb (a ++ b) = nb a ++ nb b := by simp [nb]
theorem str_nb (l : List UInt8) : strOfNums (nb l) = ba l := Lib.Lz.strOfNums_map l
theorem str_nil : strOfNums [] = ba [] := rfl

/-! the first place of a byte -/
theorem pre_get {c : UInt8} {l : List UInt8} {i : Nat} (h : i < (pre c l).length) : ∃ h' : i < l.length, l[i] ≠ c := by
 have hl := pre_length_le c l
 refine ⟨by omega, ?_⟩
 have hp : pre c l <+: l := List.takeWhile_prefix _
 obtain ⟨r, hr⟩ := hp
 have e : l[i]'(by omega) = (pre c l)[i] := by
  have : l[i]? = (pre c l)[i]? := by
   conv => lhs; rw [← hr]
   rw [List.getElem?_append_left h]
  rw [List.getElem?_eq_getElem (by omega), List.getElem?_eq_getElem h] at this
  exact Option.some.inj this
 rw [e]
 intro hc
 have := not_mem_pre c l
 have hm : (pre c l)[i] ∈ pre c l := List.getElem_mem h
 rw [hc] at hm
 exact this hm
theorem pre_at {c : UInt8} {l : List UInt8} (h : (pre c l).length < l.length) : l[(pre c l).length] = c := by
 have hm : c ∈ l := by
  by_cases hm : c ∈ l
  ·exact hm
  ·rw [pre_of_not_mem hm] at h; omega
 have hp := pre_post hm
 have : l[(pre c l).length]? = some c := by
  have hq : l[(pre c l).length]? = (pre c l ++ c :: post c l)[(pre c l).length]? := congrArg (fun z : List UInt8 => z[(pre c l).length]?) hp
  rw [hq, List.getElem?_append_right (Nat.le_refl _)]; simp
 rw [List.getElem?_eq_getElem h] at this
 exact Option.some.inj this
theorem pre_lt_iff {c : UInt8} {l : List UInt8} : (pre c l).length < l.length ↔ c ∈ l := by
 constructor
 ·intro h
  exact (pre_at h) ▸ List.getElem_mem h
 ·intro h
  have := congrArg List.length (pre_post h)
  simp at this; omega
theorem toNat_inj {a b : UInt8} : ((a.toNat : Int) = (b.toNat : Int)) ↔ a = b := by
 constructor
 ·intro h
  exact UInt8.toNat_inj.1 (by omega)
 ·rintro rfl; rfl
theorem toNat_lt (a : UInt8) : a.toNat < 256 := a.toNat_lt
end Go.Proofs.YtmhaaggmfgojbaaDoor.X

/-! HLib -/
namespace Go.Proofs.YtmhaaggmfgojbaaDoor.X
open Go.RowKit Go.Proofs.YtmhaaggmfgojbaaDoorW.PrintWords Go.Proofs.YtmhaaggmfgojbaaDoorW.PrintLast Go.Proofs.YtmhaaggmfgojbaaDoorW.PrintMore Go.Proofs.YtmhaaggmfgojbaaDoor.Spec
set_option linter.unusedVariables false
set_option linter.unusedSimpArgs false

theorem drawn0_of_eq {w w' : World} (h : w' = w) : Drawn0 w w' := h ▸ Drawn0.refl w
theorem drawn0_of_n {w w' : World} (h : ∃ n, w' = w.drewN n) : Drawn0 w w' := ⟨h⟩

def strings_IndexByte.f (a0 : ByteArray) (a1 : Int) : Option Int := some (Lib.indexByte (bl a0) a1.toNat.toUInt8)
theorem strings_IndexByte.calls (a0 : ByteArray) (a1 : Int) (r : Int) (w : World) (h : strings_IndexByte.f a0 a1 = some r) :
  Calls Tryd.prog 62 #[.string a0, .int .u8 a1] w fun e w' => e = .returned (.int .i64 r) ∧ Drawn0 w w' := by
 obtain rfl := Option.some.inj h
 exact (Tryd.strings_IndexByte a0 a1 w).mono fun e w' ⟨he, hw⟩ => ⟨he, drawn0_of_eq hw⟩

set_option maxHeartbeats 2000000 in
set_option maxRecDepth 100000 in
theorem stringslite_Index_one (s : ByteArray) (c : UInt8) (w : World) :
  Calls Tryd.prog 65 #[.string s, .string ⟨#[c]⟩] w fun e w' => e = .returned (.int .i64 (Lib.indexByte s.data.toList c)) ∧ w' = w := by
 go_enter Tryd.func65, Tryd.ntmps65
 go_wp2_with (go_at_call 69; refine (Tryd.stringslite_IndexByte _ _ _).mono ?_; rintro e w' ⟨rfl, rfl⟩)
 ·go_ret
  refine ⟨?_, rfl⟩
  have h : ([c] == s.toList) = true := by assumption
  have e : s.data.toList = [c] := by rw [← Lib.toList_data]; exact (beq_iff_eq.1 h).symm
  rw [e]
  simp [Lib.indexByte]
 ·go_ret
  exact ⟨rfl, rfl⟩

theorem pre_extract (s : ByteArray) (c : UInt8) (hc : c ∈ bl s) : ba (pre c (bl s)) = s.extract 0 (pre c (bl s)).length := by
 apply bl_inj
 rw [bl_ba, show bl (s.extract 0 (pre c (bl s)).length) = (s.extract 0 (pre c (bl s)).length).data.toList from rfl, Lib.extract_eq]
 simp only [Nat.sub_zero, List.drop_zero]
 rw [show s.data.toList = bl s from rfl]
 conv => rhs; rw [show List.take (pre c (bl s)).length (bl s) = List.take (pre c (bl s)).length (pre c (bl s) ++ c :: post c (bl s)) from by rw [← pre_post hc]]
 simp
theorem post_extract (s : ByteArray) (c : UInt8) (hc : c ∈ bl s) : ba (post c (bl s)) = s.extract ((pre c (bl s)).length + 1) s.size := by
 have hp := congrArg List.length (pre_post hc)
 rw [List.length_append, List.length_cons, bl_length] at hp
 apply bl_inj
 rw [bl_ba, show bl (s.extract ((pre c (bl s)).length + 1) s.size) = (s.extract ((pre c (bl s)).length + 1) s.size).data.toList from rfl, Lib.extract_eq]
 rw [show s.data.toList = bl s from rfl]
 have : List.drop ((pre c (bl s)).length + 1) (bl s) = List.drop ((pre c (bl s)).length + 1) (pre c (bl s) ++ c :: post c (bl s)) := by rw [← pre_post hc]
 rw [this]
 simp
 rw [List.take_of_length_le (by omega)]

end Go.Proofs.YtmhaaggmfgojbaaDoor.X

/-! HGokD -/
namespace Go.Proofs.YtmhaaggmfgojbaaDoor.X
open Go.RowKit Go.Proofs.YtmhaaggmfgojbaaDoorW.PrintWords Go.Proofs.YtmhaaggmfgojbaaDoorW.PrintLast Go.Proofs.YtmhaaggmfgojbaaDoorW.PrintMore Go.Proofs.YtmhaaggmfgojbaaDoor.Spec
set_option linter.unusedVariables false
set_option linter.unusedSimpArgs false

/-- what the search wants of a world: MaxLen holds some number -/
def GOK (w : World) : Prop := ∃ m, w.cell? ⟨2, 0, none⟩ = some (.int .i64 m)
theorem GOK.below {w w' : World} (h : GOK w) (hb : Below w.heap.size w w') : GOK w' := by
 obtain ⟨m, hm⟩ := h
 exact ⟨m, (hb.cell (World.block_lt_of_cell? w _ hm)).trans hm⟩
theorem GOK.drawn {w w' : World} (h : GOK w) (hb : Drawn0 w w') : GOK w' := by
 obtain ⟨n, rfl⟩ := hb
 obtain ⟨m, hm⟩ := h
 exact ⟨m, by simpa using hm⟩
theorem GOK.drewN {w : World} (n : Nat) (h : GOK w) : GOK (w.drewN n) := h.drawn ⟨n, rfl⟩

theorem indexByte_index (l : List UInt8) (c : UInt8) : Lib.index l [c] = Lib.indexByte l c := by
 induction l with
 | nil => rfl
 | cons x r ih =>
  unfold Lib.index Lib.indexByte
  rw [ih]
  by_cases h : x = c
  ·subst h; simp [List.isPrefixOf]
  ·have h1 : (x == c) = false := beq_eq_false_iff_ne.2 h
   have h2 : (c == x) = false := beq_eq_false_iff_ne.2 (fun e => h e.symm)
   simp [List.isPrefixOf, h1, h2]
end Go.Proofs.YtmhaaggmfgojbaaDoor.X

/-! HGok -/
namespace Go.Proofs.YtmhaaggmfgojbaaDoor.X
theorem GOK.shaped {w : World} (h : w.ShapedOpen Tryd.prog) : GOK w :=
 Go.Proofs.cell_of_shapedOpen_int (zero := #[.int .i64 0]) (t := 3) h (of_decide_eq_true (by kernel_rfl)) (by kernel_rfl) rfl (by kernel_rfl) (by kernel_rfl) Tryd.underlying3
end Go.Proofs.YtmhaaggmfgojbaaDoor.X

/-! HCut -/
namespace Go.Proofs.YtmhaaggmfgojbaaDoor.X
open Go.RowKit Go.Proofs.YtmhaaggmfgojbaaDoorW.PrintWords Go.Proofs.YtmhaaggmfgojbaaDoorW.PrintLast Go.Proofs.YtmhaaggmfgojbaaDoorW.PrintMore Go.Proofs.YtmhaaggmfgojbaaDoor.Spec
set_option linter.unusedVariables false
set_option linter.unusedSimpArgs false
def strings_Cut.f (a0 a1 : ByteArray) : Option (ByteArray × ByteArray × Bool) :=
  match bl a1 with
  | [c] => if a0.size ≤ 140737488355328 then some (ba (pre c (bl a0)), ba (post c (bl a0)), decide (c ∈ bl a0)) else none
  | _ => none
set_option maxHeartbeats 2000000 in
set_option maxRecDepth 100000 in
theorem stringslite_Cut_one (s : ByteArray) (c : UInt8) (w : World) (hs : s.size ≤ 140737488355328) :
  Calls Tryd.prog 56 #[.string s, .string ⟨#[c]⟩] w fun e w' => e = .returned (.tuple #[.string (ba (pre c (bl s))), .string (ba (post c (bl s))), .bool (decide (c ∈ bl s))]) ∧ Drawn0 w w' := by
 by_cases hc : c ∈ bl s
 ·have hi : Lib.indexByte s.data.toList c = ((pre c (bl s)).length : Int) := by
   rw [show s.data.toList = bl s from rfl, indexByte_eq, if_pos hc]
  have hp := congrArg List.length (pre_post hc)
  rw [List.length_append, List.length_cons, bl_length] at hp
  have e1 := pre_extract s c hc
  have e2 := post_extract s c hc
  rw [e1, e2]
  generalize hi' : (pre c (bl s)).length = i at *
  have c1 : (0 : Int) ≤ ↑i := by omega
  have c2 : (↑i : Int) ≤ ↑s.size := by omega
  have c3 : (0 : Int) ≤ ↑i + 1 := by omega
  have c4 : (↑i + 1 : Int) ≤ ↑s.size := by omega
  have hd : decide (c ∈ bl s) = true := decide_eq_true hc
  rw [hd]
  have HI := Aside0.mk hi
  clear hp e1 e2 hi hi' hd hc
  go_enter Tryd.func56, Tryd.ntmps56
  go_wp2_with (go_at_call 65; refine (stringslite_Index_one _ _ _).mono ?_; rintro e w' ⟨rfl, rfl⟩; rw [HI.out])
  go_region
  go_wp2
  go_ret3
  exact ⟨rfl, ⟨1, rfl⟩⟩
 ·have hi : Lib.indexByte s.data.toList c = -1 := by
   rw [show s.data.toList = bl s from rfl, indexByte_eq, if_neg hc]
  rw [pre_of_not_mem hc, post_of_not_mem hc, ba_bl, decide_eq_false hc]
  have HI := Aside0.mk hi
  clear hi hc
  go_enter Tryd.func56, Tryd.ntmps56
  go_wp2_with (go_at_call 65; refine (stringslite_Index_one _ _ _).mono ?_; rintro e w' ⟨rfl, rfl⟩; rw [HI.out])
  go_ret3
  exact ⟨rfl, Drawn0.refl _⟩
theorem strings_Cut.calls (a0 : ByteArray) (a1 : ByteArray) (r1 : ByteArray) (r2 : ByteArray) (r3 : Bool) (w : World) (h : strings_Cut.f a0 a1 = some (r1, r2, r3)) :
  Calls Tryd.prog 46 #[.string a0, .string a1] w fun e w' => e = .returned (.tuple #[.string r1, .string r2, .bool r3]) ∧ Drawn0 w w' := by
 unfold strings_Cut.f at h
 split at h
 ·rename_i c hc
  split at h
  case isFalse => cases h
  rename_i hs
  simp only [Option.some.injEq, Prod.mk.injEq] at h
  obtain ⟨rfl, rfl, rfl⟩ := h
  obtain rfl : a1 = ⟨#[c]⟩ := bl_inj (by rw [hc]; rfl)
  go_enter Tryd.func46, Tryd.ntmps46
  go_wp2_with (go_at_call 56; refine (stringslite_Cut_one _ _ _ hs).mono ?_; rintro e w' ⟨rfl, hd⟩)
  go_ret3
  exact ⟨rfl, by assumption⟩
 ·cases h

end Go.Proofs.YtmhaaggmfgojbaaDoor.X

/-! HParts -/
namespace Go.Proofs.YtmhaaggmfgojbaaDoor.X
open Go.RowKit Go.Proofs.YtmhaaggmfgojbaaDoorW.PrintWords Go.Proofs.YtmhaaggmfgojbaaDoor.Spec
set_option linter.unusedVariables false
set_option linter.unusedSimpArgs false
def spParts (c : UInt8) (s : ByteArray) : List ByteArray := (splitL c (bl s)).map ba
theorem spParts_hit (c : UInt8) (s : ByteArray) (h : c ∈ bl s) : spParts c s = s.extract 0 (pre c (bl s)).length :: spParts c (s.extract ((pre c (bl s)).length + 1) s.size) := by
 unfold spParts
 rw [splitL_eq, if_pos h, ← post_extract s c h, bl_ba, List.map_cons, pre_extract s c h]
theorem splitL_sizes (c : UInt8) (l : List UInt8) : ∀ x ∈ splitL c l, x.length ≤ l.length := by
 induction l with
 | nil => intro x hx; simp [splitL] at hx; subst hx; simp
 | cons y r ih =>
  intro x hx
  rw [splitL] at hx
  split at hx
  ·rcases List.mem_cons.1 hx with h | h
   ·subst h; simp
   ·have := ih x h; simp; omega
  ·split at hx
   ·rename_i p ps hps
    rcases List.mem_cons.1 hx with h | h
    ·subst h; have := ih p (by rw [hps]; simp); simp; omega
    ·have := ih x (by rw [hps]; exact List.mem_cons_of_mem _ h); simp; omega
   ·simp at hx; subst hx; simp
theorem spParts_sizes (c : UInt8) (s : ByteArray) : ∀ x ∈ spParts c s, x.size ≤ s.size := by
 intro x hx
 obtain ⟨l, hl, rfl⟩ := List.mem_map.1 hx
 have := splitL_sizes c (bl s) l hl
 rw [bl_length] at this
 simpa using this
theorem splitL_length (c : UInt8) (l : List UInt8) : (splitL c l).length ≤ l.length + 1 := by
 induction l with
 | nil => simp [splitL]
 | cons y r ih =>
  rw [splitL]
  split
  ·simp; omega
  ·split
   ·rename_i p ps hps; rw [hps] at ih; simp at ih ⊢; omega
   ·simp
theorem spParts_length (c : UInt8) (s : ByteArray) : (spParts c s).length ≤ s.size + 1 := by
 have := splitL_length c (bl s)
 rw [bl_length] at this
 simpa [spParts] using this
theorem spParts_miss (c : UInt8) (s : ByteArray) (h : c ∉ bl s) : spParts c s = [s] := by
 unfold spParts
 rw [splitL_eq, if_neg h, pre_of_not_mem h]; simp

end Go.Proofs.YtmhaaggmfgojbaaDoor.X

/-! HSlc -/
namespace Go.Proofs.YtmhaaggmfgojbaaDoor.X
open Go.RowKit Go.Proofs.YtmhaaggmfgojbaaDoorW.PrintWords Go.Proofs.YtmhaaggmfgojbaaDoorW.PrintLast Go.Proofs.YtmhaaggmfgojbaaDoorW.PrintMore Go.Proofs.YtmhaaggmfgojbaaDoor.Spec
set_option linter.unusedVariables false
set_option linter.unusedSimpArgs false

theorem slc_info : (Tryd.prog.info? 9).map (fun i => (i.zero, i.size, i.bytes)) = some (some (.string ⟨#[]⟩), 1, 16) := by kernel_rfl
theorem slc_eq (w : World) (a : Option Addr) (n c : Nat) : (binOp .eql 41 (.slice a n c) (.slice none 0 0)).run Tryd.prog w = .ok (.bool a.isNone) w := run_eql_slice_nil w _ _ a n c Tryd.underlying41
theorem slc_made (w : World) (base : Nat) (hb : base ≤ w.heap.size) : Kd.R Kd.string 9 (w.alloc (.cells #[] 9)) base (fun _ => True) (.slice (some ⟨w.heap.size, 0, none⟩) 0 0) [] :=
 Kd.R_of_own (World.ownsRow_made w #[] 0 hb (Nat.zero_le _) rfl) (fun _ _ => trivial)

def slices_Clone_string_string.f (l : List ByteArray) : Option (List ByteArray) := if l.length ≤ 1000000000 then some l else none
set_option maxHeartbeats 2000000 in
set_option maxRecDepth 100000 in
theorem slices_Clone_string_string.calls (A0 : Option Addr) (c0 : Nat) (l0 : List ByteArray) (r : List ByteArray) (w : World) (hr0 : Kd.C Kd.string w A0 l0.length l0) (hc0 : l0.length ≤ c0) (h : slices_Clone_string_string.f l0 = some r) :
  Calls Tryd.prog 37 #[.slice A0 l0.length c0] w fun e w' => ∃ v0_ : Value, e = .returned v0_ ∧ Kd.R Kd.string 9 w' w.heap.size (fun _ => True) v0_ r ∧ Below w.heap.size w w' := by
 unfold slices_Clone_string_string.f at h
 split at h
 case isFalse => cases h
 rename_i hs
 obtain rfl := Option.some.inj h
 clear h
 have hq := slc_eq
 cases A0 with
 | none =>
  have hl : l0 = [] := by
   rcases Nat.eq_zero_or_pos l0.length with h0 | h0
   ·exact List.length_eq_zero_iff.1 h0
   ·obtain ⟨ad, h, _⟩ := hr0.2.2 h0
    cases h
  subst hl
  go_enter Tryd.func37, Tryd.ntmps37
  go_wp2
  go_ret
  exact ⟨_, rfl, Kd.R_nil _ _ _ _ _, Below.refl _ _⟩
 | some ad =>
  have HR := Aside0.mk hr0
  clear hr0
  have hl1 : l0.length ≤ 1000000000 := hs
  go_enter Tryd.func37, Tryd.ntmps37
  go_wp2_with (at_builtin; refine Kd.R_append_rows Kd.string (w0 := w) w.heap.size rfl (.tmp 5) (.tmp 6) 41 9 (.string ⟨#[]⟩) 16 rfl Tryd.underlying41 slc_info rfl (by decide) (by omega) _ [] l0 _ _ _ (fun _ => True) (fun _ => False) rfl rfl (slc_made w _ (Nat.le_refl _)) (Kd.C_alloc HR.out _) (fun _ _ h => h) (fun _ h => h.elim) (fun _ _ => trivial) ((Below.refl _ w).alloc (Nat.le_refl _) _) (by simp) (by simp; omega) ?_; intro v1 w1 ho hb hg hat)
  have HO := Aside0.mk ho
  have HB := Aside0.mk hb
  clear ho hb hg hat
  go_wp2
  go_ret
  exact ⟨_, rfl, HO.out, HB.out⟩

def slices_Clip_string_string.f (l : List ByteArray) : Option (List ByteArray) := some l
set_option maxHeartbeats 2000000 in
set_option maxRecDepth 100000 in
theorem slices_Clip_string_string.calls (P0_ : Nat → Prop) (A0 : Option Addr) (c0 : Nat) (l0 : List ByteArray) (r : List ByteArray) (w : World) (hs0 : Kd.V Kd.string 9 w w.heap.size (fun k_ => P0_ k_) (.slice A0 l0.length c0) l0) (h : slices_Clip_string_string.f l0 = some r) :
  Calls Tryd.prog 36 #[.slice A0 l0.length c0] w fun e w' => ∃ v0_ : Value, e = .returned v0_ ∧ Kd.V Kd.string 9 w' w.heap.size (fun k_ => (P0_ k_ ∨ w.heap.size ≤ k_)) v0_ r ∧ Below w.heap.size w w' := by
 obtain rfl := Option.some.inj h
 clear h
 obtain ⟨_, hl, hf⟩ := Kd.V_at hs0
 have h63 := (Kd.F_now hf).2.1
 have HV := Aside0.mk (Kd.V_mk (e := 9) (base := w.heap.size) (Nat.le_refl l0.length) (Kd.F_mono hf (fun k hk => (.inl hk : P0_ k ∨ w.heap.size ≤ k))))
 have hnil : A0 = none → l0.length = 0 := by
  intro he
  rcases Nat.eq_zero_or_pos l0.length with h0 | h0
  ·exact h0
  ·obtain ⟨ad, h, _⟩ := (Kd.F_now hf).2.2 h0
   rw [he] at h
   cases h
 clear hs0 hf
 cases A0 with
 | none =>
  have h0 : l0 = [] := List.length_eq_zero_iff.1 (hnil rfl)
  subst h0
  go_enter Tryd.func36, Tryd.ntmps36
  go_wp2
  go_ret
  exact ⟨_, rfl, HV.out, Below.refl _ _⟩
 | some ad =>
  obtain ⟨ab, ao, asp⟩ := ad
  go_enter Tryd.func36, Tryd.ntmps36
  go_wp2
  go_ret
  exact ⟨_, rfl, HV.out, Below.refl _ _⟩

end Go.Proofs.YtmhaaggmfgojbaaDoor.X

/-! HTwice -/
namespace Go.Proofs.YtmhaaggmfgojbaaDoor.X
open Go.RowKit Go.WideMaps Go.Maps Go.Proofs.YtmhaaggmfgojbaaDoorW.PrintWords Go.Proofs.YtmhaaggmfgojbaaDoorW.PrintLast Go.Proofs.YtmhaaggmfgojbaaDoorW.PrintMore Go.Proofs.YtmhaaggmfgojbaaDoor.Spec
set_option linter.unusedVariables false
set_option linter.unusedSimpArgs false

def addNew {α : Type} [BEq α] (acc : List α) (x : α) : List α := if acc.contains x then acc else acc ++ [x]
def distinct {α : Type} [BEq α] (l : List α) : List α := l.foldl addNew []
theorem distinct_snoc {α : Type} [BEq α] (l : List α) (x : α) : distinct (l ++ [x]) = addNew (distinct l) x := by simp [distinct, List.foldl_append]

theorem tw_law : Maps.Keyed Tryd.prog 9 := Maps.string_keyed Tryd.underlying9
theorem tw_zero (w : World) : (zeroValue 3).run Tryd.prog w = .ok (.int .i64 0) w := by kernel_rfl

/-- what the map reads as behind the first rounds -/
structure TwMap (keys : List (List UInt8)) (D : DataW Unit) : Prop where
  tidy : Maps.Tidy D
  has : ∀ b : List UInt8, Maps.has D (.string b) = (distinct keys).contains b
  size : Maps.size D = (distinct keys).length
theorem TwMap.nil : TwMap [] (.map []) := ⟨Maps.tidy_empty, fun b => by simp [Maps.has, distinct], rfl⟩
theorem TwMap.snoc {keys : List (List UInt8)} {D : DataW Unit} (h : TwMap keys D) (x : List UInt8) (d : DataW Unit) : TwMap (keys ++ [x]) (D.put (.string x) d) := by
 refine ⟨h.tidy.put (by exact trivial) d, fun b => ?_, ?_⟩
 ·rw [distinct_snoc]
  by_cases hb : b = x
  ·subst hb
   rw [Maps.has_put_same h.tidy.isMap (by exact trivial)]
   unfold addNew
   split
   ·rename_i hc; rw [hc]
   ·simp
  ·rw [Maps.has_put_other (by simpa using hb), h.has]
   unfold addNew
   split
   ·rfl
   ·simp [hb]
 ·rw [Maps.size_put h.tidy, h.has, h.size, distinct_snoc]
  unfold addNew
  split
  ·rfl
  ·simp

def pairs_Twice.f (l0 : List S39) : Option Bool := if (∀ x ∈ l0, x.f0.size ≤ maxLen) ∧ l0.length < maxLen then some ((distinct (l0.map (fun x => bl x.f0))).length != l0.length) else none

set_option maxHeartbeats 2000000 in
set_option maxRecDepth 100000 in
theorem pairs_Twice.calls (A0 : Option Addr) (c0 : Nat) (l0 : List (S39)) (r : Bool) (w : World) (hr0 : Kd.C k39 w A0 l0.length l0) (hc0 : l0.length ≤ c0) (h : pairs_Twice.f l0 = some r) :
  Calls Tryd.prog 17 #[.slice A0 l0.length c0] w fun e w' => e = .returned (.bool r) ∧ Below w.heap.size w w' := by
 have hu := Tryd.underlying39
 unfold pairs_Twice.f at h
 split at h
 case isFalse => cases h
 rename_i hs
 obtain rfl := Option.some.inj h
 clear h
 have HS := Aside0.mk hs.1
 have hmax : l0.length < maxLen := hs.2
 have HR := Aside0.mk hr0
 clear hs hr0
 unfold maxLen at hmax
 have hmm := @run_makeMap Tryd.prog
 go_enter Tryd.func17, Tryd.ntmps17
 go_wp2
 go_loopw [9] (fun i wr => ∃ (k : Nat) (D : DataW Unit), k ≤ l0.length ∧ i = .int .i64 k ∧ Aside0 (TwMap ((l0.map (fun x => bl x.f0)).take k) D) ∧ Aside0 (wr.ownsMap Tryd.prog 9 (plainElem Tryd.prog 3) w.heap.size k D) ∧ Aside0 (Below w.heap.size w wr)) (fun i _ => l0.length - (intOf i).toNat)
 case atStart => exact ⟨0, .map [], Nat.zero_le _, rfl, ⟨by simpa using TwMap.nil⟩, ⟨World.ownsMap_made _ _ _ _⟩, ⟨(Below.refl _ _).alloc (Nat.le_refl _) _⟩⟩
 case round =>
  obtain ⟨k, D, hkl, rfl, HT, HO, HB⟩ := hrel
  by_cases hlt : k < l0.length
  ·have p0 : (0 : Int) ≤ (k : Int) := by omega
   have q0 : (k : Int) < (l0.length : Int) := by omega
   obtain ⟨ad, rfl, hx0, hx1⟩ := at_T39 (Kd.C_below HR.out HB.out) (k : Int) p0 q0
   have hrd : rd_T39 l0 (k : Int) = l0[k]'hlt := by simp [rd_T39, List.getD_eq_getElem?_getD, List.getElem?_eq_getElem hlt]
   rw [hrd] at hx0 hx1
   simp only [Int.toNat_natCast] at hx0 hx1
   clear hrd
   have HKey := Aside0.mk (keyOf_string_mk Tryd.underlying9 (s := (l0[k]'hlt).f0) (HS.out _ (List.getElem_mem hlt)))
   go_wp2_with (first
    | (at_lookup; refine wpList_lookup_own_int _ rfl _ _ 74 rfl 9 3 .i64 tw_law Tryd.underlying74 Tryd.underlying3 (tw_zero _) w.heap.size k D rfl (HO.out.alloc _) _ _ rfl HKey.out ?_; intro c hat hwc)
    | (at_mapUpdate; refine wpList_mapUpdate_own _ rfl _ _ _ 74 rfl 9 3 tw_law Tryd.underlying74 _ w.heap.size k D rfl (HO.out.alloc _) (by unfold maxLen; omega) _ _ _ rfl rfl HKey.out _ [] (plainElem_int Tryd.underlying3 (wrap64_wf _)) ?_; intro w1 hown1 hgrow1))
   have HO1 := Aside0.mk hown1
   have HB1 := Aside0.mk ((below_alloc HB.out _).grown hgrow1 (by have := HB.out.size; simp; omega) (fun j hj => by cases hj; exact Nat.le_refl _))
   have HT1 := Aside0.mk (HT.out.snoc (l0[k]'hlt).f0.data.toList (.lit (.int .i64 (wrap64 (c + 1)))))
   have htk : (l0.map (fun x => bl x.f0)).take (k + 1) = (l0.map (fun x => bl x.f0)).take k ++ [(l0[k]'hlt).f0.data.toList] := by
    rw [List.take_succ_eq_append_getElem (by simpa using hlt)]; simp [bl]
   have HTK := Aside0.mk htk
   clear hown1 hgrow1 htk hat
   go_wp2
   go_roundw
   case rel => exact ⟨k + 1, _, by omega, by go_num, ⟨by rw [HTK.out]; exact HT1.out⟩, HO1, HB1⟩
   case measure => simp [intOf]; omega
  ·have hk : k = l0.length := by omega
   have hsz := HT.out.size
   rw [List.take_of_length_le (by simp; omega)] at hsz
   have HSZ := Aside0.mk hsz
   clear hsz hk
   have hlen := HO.out.len Tryd.underlying74 3
   go_wp2
   go_ret
   refine ⟨?_, HB.out⟩
   show Ending.returned (Value.bool _) = _
   rw [HSZ.out]
   refine congrArg (fun b => Ending.returned (Value.bool b)) ?_
   rw [Bool.eq_iff_iff, bne_iff_ne, bne_iff_ne]
   omega
theorem addNew_len {α : Type} [BEq α] (acc : List α) (x : α) : (addNew acc x).length ≤ acc.length + 1 := by unfold addNew; split <;> simp
theorem foldl_addNew_len {α : Type} [BEq α] (b acc : List α) : (b.foldl addNew acc).length ≤ acc.length + b.length := by
 induction b generalizing acc with
 | nil => simp
 | cons x r ih => have := ih (addNew acc x); have := addNew_len acc x; rw [List.foldl_cons, List.length_cons]; omega
theorem distinct_app {α : Type} [BEq α] (a b : List α) : (distinct (a ++ b)).length ≤ (distinct a).length + b.length := by
 unfold distinct; rw [List.foldl_append]; exact foldl_addNew_len _ _
end Go.Proofs.YtmhaaggmfgojbaaDoor.X

/-! HGet -/
namespace Go.Proofs.YtmhaaggmfgojbaaDoor.X
open Go.RowKit Go.Proofs.YtmhaaggmfgojbaaDoorW.PrintWords Go.Proofs.YtmhaaggmfgojbaaDoorW.PrintLast Go.Proofs.YtmhaaggmfgojbaaDoorW.PrintMore Go.Proofs.YtmhaaggmfgojbaaDoor.Spec
set_option linter.unusedVariables false
set_option linter.unusedSimpArgs false

/-- where a predicate holds first; -1: nowhere -/
def idxOf {α : Type} (p : α → Bool) : List α → Int
  | [] => -1
  | x :: r => if p x then 0 else if idxOf p r < 0 then -1 else idxOf p r + 1
theorem idxOf_range {α : Type} (p : α → Bool) (l : List α) : -1 ≤ idxOf p l ∧ idxOf p l < l.length := by
 induction l with
 | nil => simp [idxOf]
 | cons x r ih => simp only [idxOf, List.length_cons]; split <;> (try split) <;> omega

/-- after k misses -/
theorem idxOf_all {α : Type} (p : α → Bool) (l : List α) (h : ∀ x ∈ l, p x = false) : idxOf p l = -1 := by
 induction l with
 | nil => rfl
 | cons x r ih =>
  rw [idxOf, h x (List.mem_cons_self ..), ih (fun y hy => h y (List.mem_cons_of_mem _ hy))]
  simp
theorem idxOf_hit {α : Type} (p : α → Bool) : ∀ (k : Nat) (l : List α) (hk : k < l.length), (∀ j (hj : j < k), p (l[j]'(by omega)) = false) → p (l[k]'hk) = true → idxOf p l = k
 | 0, x :: r, _, _, h => by
  have : p x = true := h
  simp [idxOf, this]
 | k + 1, x :: r, hk, hm, h => by
  have h0 : p x = false := hm 0 (by omega)
  have := idxOf_hit p k r (by simpa using hk) (fun j hj => hm (j + 1) (by omega)) h
  simp [idxOf, h0, this]
  omega

set_option maxHeartbeats 2000000 in
set_option maxRecDepth 100000 in
theorem get_closure (x : S39) (key : ByteArray) (b : Nat) (w : World) (hk : w.cell? ⟨b, 0, none⟩ = some (.string key)) :
  Calls Tryd.prog 33 #[.agg #[.string x.f0, .string x.f1], .pointer (some ⟨b, 0, none⟩)] w fun e w' => e = .returned (.bool (x.f0.toList == key.toList)) ∧ Below w.heap.size w w' := by
 have hb : b < w.heap.size := World.block_lt_of_cell? w _ hk
 have hk2 : (w.alloc (.cells #[.string x.f0, .string x.f1] 39)).cell? ⟨b, 0, none⟩ = some (.string key) := by
  rw [(below_alloc (Below.refl _ w) _).cell (p := ⟨b, 0, none⟩) hb]; exact hk
 go_enter Tryd.func33, Tryd.ntmps33
 go_wp2
 go_ret
 exact ⟨rfl, below_alloc (Below.refl _ w) _⟩

set_option maxHeartbeats 2000000 in
set_option maxRecDepth 100000 in
theorem find_func (A0 : Option Addr) (c0 : Nat) (l0 : List S39) (key : ByteArray) (b : Nat) (w : World) (hr0 : Kd.C k39 w A0 l0.length l0) (hc0 : l0.length ≤ c0) (hk : w.cell? ⟨b, 0, none⟩ = some (.string key)) :
  Calls Tryd.prog 32 #[.slice A0 l0.length c0, .func (.func 33) #[] #[.pointer (some ⟨b, 0, none⟩)]] w fun e w' => e = .returned (.int .i64 (idxOf (fun x => x.f0.toList == key.toList) l0)) ∧ Below w.heap.size w w' := by
 have hu := Tryd.underlying39
 have hb : b < w.heap.size := World.block_lt_of_cell? w _ hk
 have HR := Aside0.mk hr0
 have HK := Aside0.mk hk
 have hmax := hr0.2.1
 clear hr0 hk
 go_enter Tryd.func32, Tryd.ntmps32
 go_wp2
 go_loopw [8] (fun i wr => ∃ k : Nat, k ≤ l0.length ∧ i = .int .i64 k ∧ Aside0 (∀ j (hj : j < k) (hjl : j < l0.length), ((l0[j]'hjl).f0.toList == key.toList) = false) ∧ Aside0 (Below w.heap.size w wr)) (fun i _ => l0.length - (intOf i).toNat)
 case atStart => exact ⟨0, Nat.zero_le _, rfl, ⟨fun j hj => absurd hj (Nat.not_lt_zero _)⟩, ⟨Below.refl _ w⟩⟩
 case round =>
  obtain ⟨k, hkl, rfl, HM, HB⟩ := hrel
  by_cases hlt : k < l0.length
  ·have hK2 := Aside0.mk ((HB.out.cell (p := ⟨b, 0, none⟩) hb).trans HK.out)
   have p0 : (0 : Int) ≤ (k : Int) := by omega
   have q0 : (k : Int) < (l0.length : Int) := by omega
   obtain ⟨ad, rfl, hx0, hx1⟩ := at_T39 (Kd.C_below HR.out HB.out) (k : Int) p0 q0
   have hrd : rd_T39 l0 (k : Int) = l0[k]'hlt := by simp [rd_T39, List.getD_eq_getElem?_getD, List.getElem?_eq_getElem hlt]
   rw [hrd] at hx0 hx1
   simp only [Int.toNat_natCast] at hx0 hx1
   clear hrd
   have hcl := Aside0.mk (get_closure (l0[k]'hlt) key b wr hK2.out)
   by_cases hp : ((l0[k]'hlt).f0.toList == key.toList) = true
   ·have hfin := Aside0.mk (idxOf_hit (fun x : S39 => x.f0.toList == key.toList) k l0 hlt (fun j hj => HM.out j hj (by omega)) hp)
    have HP := Aside0.mk hp
    clear hp
    go_wp2_with fail
    refine hcl.out.mono ?_
    rw [HP.out]
    rintro e w2 ⟨rfl, hb2⟩
    have HB2 := Aside0.mk (below_then HB.out HB.out.size hb2)
    clear hb2
    go_wp2
    go_ret
    exact ⟨by rw [hfin.out]; rfl, HB2.out⟩
   ·have hp' := Bool.eq_false_iff.2 hp
    have HP := Aside0.mk hp'
    have hnext := Aside0.mk (show ∀ j (hj : j < k + 1) (hjl : j < l0.length), ((l0[j]'hjl).f0.toList == key.toList) = false from fun j hj hjl => by
     by_cases h : j = k
     ·subst h; exact hp'
     ·exact HM.out j (by omega) hjl)
    clear hp hp'
    go_wp2_with fail
    refine hcl.out.mono ?_
    rw [HP.out]
    rintro e w2 ⟨rfl, hb2⟩
    have HB2 := Aside0.mk (below_then HB.out HB.out.size hb2)
    clear hb2
    go_wp2
    go_roundw
    case rel => exact ⟨k + 1, by omega, by go_num, hnext, HB2⟩
    case measure => simp [intOf]; omega
  ·have hfin := Aside0.mk (idxOf_all (fun x : S39 => x.f0.toList == key.toList) l0 (fun x hx => by
    obtain ⟨j, hj, rfl⟩ := List.getElem_of_mem hx
    exact HM.out j (by omega) hj))
   go_wp2
   go_ret
   exact ⟨by rw [hfin.out]; rfl, HB.out⟩

def pairs_Get.f (l0 : List S39) (a1 : ByteArray) : Option (ByteArray × Bool) :=
  some (if idxOf (fun x => x.f0.toList == a1.toList) l0 < 0 then (⟨#[]⟩, false) else ((rd_T39 l0 (idxOf (fun x => x.f0.toList == a1.toList) l0)).f1, true))
set_option maxHeartbeats 2000000 in
set_option maxRecDepth 100000 in
theorem pairs_Get.calls (A0 : Option Addr) (c0 : Nat) (l0 : List (S39)) (a1 : ByteArray) (r1 : ByteArray) (r2 : Bool) (w : World) (hr0 : Kd.C k39 w A0 l0.length l0) (hc0 : l0.length ≤ c0) (h : pairs_Get.f l0 a1 = some (r1, r2)) :
  Calls Tryd.prog 19 #[.slice A0 l0.length c0, .string a1] w fun e w' => e = .returned (.tuple #[.string r1, .bool r2]) ∧ Below w.heap.size w w' := by
 have hu := Tryd.underlying39
 have H := Aside0.mk (Option.some.inj h)
 clear h
 have hw2 : (w.alloc (.cells #[.string a1] 9)).cell? ⟨w.heap.size, 0, none⟩ = some (.string a1) := by simp
 have hff := find_func A0 c0 l0 a1 w.heap.size (w.alloc (.cells #[.string a1] 9)) (Kd.C_alloc hr0 _) hc0 hw2
 have HR := Aside0.mk hr0
 have HF := Aside0.mk hff
 have hir := idxOf_range (fun x : S39 => x.f0.toList == a1.toList) l0
 clear hr0 hff hw2
 generalize hi : idxOf (fun x : S39 => x.f0.toList == a1.toList) l0 = i at HF hir H
 clear hi
 go_enter Tryd.func19, Tryd.ntmps19
 go_wp2_with fail
 refine HF.out.mono ?_
 rintro e w2 ⟨rfl, hb2⟩
 have HB2 := Aside0.mk (below_then (below_alloc (Below.refl _ w) _) (by simp) hb2)
 clear hb2
 by_cases hneg : i < 0
 ·go_wp2
  go_ret2
  exact ⟨by have := H.out; rw [if_pos hneg] at this; simp only [Prod.mk.injEq] at this; obtain ⟨rfl, rfl⟩ := this; rfl, HB2.out⟩
 ·obtain ⟨ad, rfl, hx0, hx1⟩ := at_T39 (Kd.C_below HR.out HB2.out) i (by omega) (by omega)
  have p0 : 0 ≤ i := by omega
  have q0 : i < (l0.length : Int) := by omega
  go_wp2
  go_ret2
  exact ⟨by have := H.out; rw [if_neg (by omega)] at this; simp only [Prod.mk.injEq] at this; obtain ⟨rfl, rfl⟩ := this; rfl, HB2.out⟩
end Go.Proofs.YtmhaaggmfgojbaaDoor.X

/-! HSpl -/
namespace Go.Proofs.YtmhaaggmfgojbaaDoor.X
open Go.RowKit Go.Proofs.YtmhaaggmfgojbaaDoorW.PrintWords Go.Proofs.YtmhaaggmfgojbaaDoorW.PrintLast Go.Proofs.YtmhaaggmfgojbaaDoorW.PrintMore Go.Proofs.YtmhaaggmfgojbaaDoor.Spec
set_option linter.unusedVariables false
set_option linter.unusedSimpArgs false

theorem spl_count (c : UInt8) (l : List UInt8) (h : c ∈ l) : l.count c = 1 + (post c l).count c := by
 have hp := pre_post h
 have hn := not_mem_pre c l
 have e : l.count c = (pre c l ++ c :: post c l).count c := congrArg (List.count c) hp
 rw [e, List.count_append, List.count_eq_zero.2 hn, List.count_cons_self]; omega
theorem spl_drop (c : UInt8) (l : List UInt8) (h : c ∈ l) : l.drop ((pre c l).length + 1) = post c l := by
 have hp := pre_post h
 have := congrArg (List.drop ((pre c l).length + 1)) hp
 rw [this, show (pre c l).length + 1 = (pre c l ++ [c]).length from by simp, show pre c l ++ c :: post c l = (pre c l ++ [c]) ++ post c l from by simp, List.drop_left]
theorem spl_take (c : UInt8) (l : List UInt8) (h : c ∈ l) : l.take (pre c l).length = pre c l := by
 have hp := pre_post h
 have := congrArg (List.take (pre c l).length) hp
 rw [this, List.take_left]
theorem spl_splitK (c : UInt8) : ∀ (k : Nat) (l : List UInt8), l.count c = k → Lib.splitK [c] 0 k l = splitL c l := by
 intro k
 induction k with
 | zero =>
  intro l h
  have hm : c ∉ l := List.count_eq_zero.1 h
  rw [splitL_eq, if_neg hm, pre_of_not_mem hm]; rfl
 | succ k ih =>
  intro l h
  have hm : c ∈ l := by
   by_cases hm : c ∈ l
   ·exact hm
   ·rw [List.count_eq_zero.2 hm] at h; cases h
  rw [splitL_eq, if_pos hm]
  unfold Lib.splitK
  have hi : Lib.index l [c] = ((pre c l).length : Int) := by rw [indexByte_index, indexByte_eq, if_pos hm]
  rw [if_neg (show ¬ ((Lib.index l [c] == -1) = true) from by rw [hi]; simp), hi]
  have et : (((pre c l).length : Int)).toNat = (pre c l).length := by omega
  rw [et, Nat.add_zero, List.length_singleton, spl_take c l hm, spl_drop c l hm, ih (post c l) (by have := spl_count c l hm; omega)]
theorem spl_all (s : ByteArray) (c : UInt8) : Lib.splitB ⟨#[c]⟩ 0 (Lib.countB s ⟨#[c]⟩) s = (splitL c (bl s)).map ba := by
 have h := Lib.splitB_data ⟨#[c]⟩ 0 (Lib.countB s ⟨#[c]⟩) s
 have hc : Lib.countB s ⟨#[c]⟩ = (bl s).count c := by
  show Lib.count s.data.toList [c] = _
  rw [Lib.count_one]; rfl
 rw [show (⟨#[c]⟩ : ByteArray).data.toList = [c] from rfl, show s.data.toList = bl s from rfl, hc, spl_splitK c _ _ rfl] at h
 rw [hc, ← h, List.map_map]
 have : ∀ x : List ByteArray, x = x.map (ba ∘ fun z : ByteArray => z.data.toList) := by
  intro x
  have e : (ba ∘ fun z : ByteArray => z.data.toList) = id := funext fun z => ba_bl z
  rw [e, List.map_id]
 exact this _
def oneSep (a : ByteArray) : UInt8 := (bl a).headD 0
def strings_Split.f (a0 a1 : ByteArray) : Option (List ByteArray) :=
  if a0.size < 4294967281 ∧ a1.size = 1 then some ((splitL (oneSep a1) (bl a0)).map ba) else none
theorem spl_row (w : World) (l : List ByteArray) (n : Nat) (hn : n = l.length) (hm : n ≤ 4294967281) : Kd.R Kd.string 9 (w.alloc (.cells (l.map Value.string).toArray 9)) w.heap.size (fun _ => True) (.slice (some ⟨w.heap.size, 0, none⟩) n n) l := by
 subst hn
 refine Kd.R_of_own (enc := Value.string) ⟨by simp [encs], .inr ⟨w.heap.size, l.length, (l.map Value.string).toArray, rfl, Nat.le_refl _, heap_alloc_new w _, Nat.le_refl _, ?_, by simp, ?_⟩⟩ (fun _ _ => trivial)
 ·unfold maxLen; omega
 ·simp [encs, List.take_of_length_le]
theorem strings_Split.calls (a0 : ByteArray) (a1 : ByteArray) (r : List ByteArray) (w : World) (h : strings_Split.f a0 a1 = some r) (hG : GOK w := by first | assumption | exact hG | exact GOK.drewN _ hG | exact GOK.below hG (by repeat (first | (with_reducible first | exact HB.out | apply below_alloc | apply pw_below_drewN | apply below_drew1 | refine below_set ?_ (Aside0.out (by assumption))) | exact HB.out))) :
  Calls Tryd.prog 39 #[.string a0, .string a1] w fun e w' => ∃ v0_ : Value, e = .returned v0_ ∧ Kd.R Kd.string 9 w' w.heap.size (fun _ => True) v0_ r ∧ Below w.heap.size w w' := by
 unfold strings_Split.f at h
 split at h
 case isFalse => cases h
 rename_i hs
 obtain rfl := Option.some.inj h
 obtain ⟨m, hm⟩ := hG
 obtain ⟨c, rfl⟩ := Lib.one_byte a1 hs.2
 have hall := spl_all a0 c
 have hc1 : 1 ≤ (⟨#[c]⟩ : ByteArray).size := Nat.le_refl _
 have hle := Lib.countB_le ⟨#[c]⟩ hc1 a0.size a0 (Nat.le_refl _)
 have hlen := Lib.splitB_all ⟨#[c]⟩ hc1 0 _ a0 rfl
 have hone : oneSep ⟨#[c]⟩ = c := rfl
 rw [hone]
 refine (Tryd.strings_Split a0 ⟨#[c]⟩ m w hs.1 hm hc1).mono fun e w' ⟨he, hw⟩ => ⟨_, he, ?_, ?_⟩
 ·rw [hw, hall]
  rw [hall] at hlen
  exact spl_row w _ _ hlen.symm (by omega)
 ·rw [hw]; exact (Below.refl _ w).alloc (Nat.le_refl _) _
end Go.Proofs.YtmhaaggmfgojbaaDoor.X

/-! HPr -/
namespace Go.Proofs.YtmhaaggmfgojbaaDoor.X
open Go.RowKit Go.Proofs.YtmhaaggmfgojbaaDoorW.PrintWords Go.Proofs.YtmhaaggmfgojbaaDoor.Spec
set_option linter.unusedVariables false
set_option linter.unusedSimpArgs false
abbrev Pr := S39
def psz (p : Pr) : Nat := p.f0.size + p.f1.size
theorem rd_pr (l : List Pr) (i : Nat) (h : i < l.length) : rd_T39 l (i : Int) = l[i] := by simp [rd_T39, h]
def hasB (x : ByteArray) (l : List ByteArray) : Bool := l.any fun y => y.toList == x.toList
def keysOf (l : List Pr) : List (List UInt8) := l.map (fun x => bl x.f0)
theorem back8 (c : UInt8) : c.toNat.toUInt8 = c := by simp
end Go.Proofs.YtmhaaggmfgojbaaDoor.X

/-! HClient -/
namespace Go.Proofs.YtmhaaggmfgojbaaDoor.X
open Go.RowKit Go.Proofs.YtmhaaggmfgojbaaDoorW.PrintWords Go.Proofs.YtmhaaggmfgojbaaDoorW.PrintLast Go.Proofs.YtmhaaggmfgojbaaDoorW.PrintMore Go.Proofs.YtmhaaggmfgojbaaDoor.Spec
set_option linter.unusedVariables false
set_option linter.unusedSimpArgs false

set_option maxHeartbeats 2000000 in
set_option maxRecDepth 100000 in
theorem client_closure (x : S43) (A : Option Addr) (c : Nat) (key : ByteArray) (b : Nat) (w : World) (hk : w.cell? ⟨b, 0, none⟩ = some (.string key)) :
  Calls Tryd.prog 35 #[.agg #[.string x.f0, .string x.f1, .slice A x.f2.length c], .pointer (some ⟨b, 0, none⟩)] w fun e w' => e = .returned (.bool (x.f0.toList == key.toList)) ∧ Below w.heap.size w w' := by
 have hb : b < w.heap.size := World.block_lt_of_cell? w _ hk
 have hk2 : (w.alloc (.cells #[.string x.f0, .string x.f1, .slice A x.f2.length c] 43)).cell? ⟨b, 0, none⟩ = some (.string key) := by
  rw [(below_alloc (Below.refl _ w) _).cell (p := ⟨b, 0, none⟩) hb]; exact hk
 go_enter Tryd.func35, Tryd.ntmps35
 go_wp2
 go_ret
 exact ⟨rfl, below_alloc (Below.refl _ w) _⟩

set_option maxHeartbeats 2000000 in
set_option maxRecDepth 100000 in
theorem find_client (A0 : Option Addr) (c0 : Nat) (l0 : List S43) (key : ByteArray) (b : Nat) (w : World) (hr0 : Kd.C k43 w A0 l0.length l0) (hc0 : l0.length ≤ c0) (hk : w.cell? ⟨b, 0, none⟩ = some (.string key)) :
  Calls Tryd.prog 34 #[.slice A0 l0.length c0, .func (.func 35) #[] #[.pointer (some ⟨b, 0, none⟩)]] w fun e w' => e = .returned (.int .i64 (idxOf (fun x => x.f0.toList == key.toList) l0)) ∧ Below w.heap.size w w' := by
 have hu := Tryd.underlying43
 have hb : b < w.heap.size := World.block_lt_of_cell? w _ hk
 have HR := Aside0.mk hr0
 have HK := Aside0.mk hk
 have hmax := hr0.2.1
 clear hr0 hk
 go_enter Tryd.func34, Tryd.ntmps34
 go_wp2
 go_loopw [8] (fun i wr => ∃ k : Nat, k ≤ l0.length ∧ i = .int .i64 k ∧ Aside0 (∀ j (hj : j < k) (hjl : j < l0.length), ((l0[j]'hjl).f0.toList == key.toList) = false) ∧ Aside0 (Below w.heap.size w wr)) (fun i _ => l0.length - (intOf i).toNat)
 case atStart => exact ⟨0, Nat.zero_le _, rfl, ⟨fun j hj => absurd hj (Nat.not_lt_zero _)⟩, ⟨Below.refl _ w⟩⟩
 case round =>
  obtain ⟨k, hkl, rfl, HM, HB⟩ := hrel
  by_cases hlt : k < l0.length
  ·have hK2 := Aside0.mk ((HB.out.cell (p := ⟨b, 0, none⟩) hb).trans HK.out)
   have p0 : (0 : Int) ≤ (k : Int) := by omega
   have q0 : (k : Int) < (l0.length : Int) := by omega
   obtain ⟨ad, A2, c2, rfl, hx0, hx1, hx2, hl2, hg2⟩ := at_T43 (Kd.C_below HR.out HB.out) (k : Int) p0 q0
   have hrd : rd_T43 l0 (k : Int) = l0[k]'hlt := by simp [rd_T43, List.getD_eq_getElem?_getD, List.getElem?_eq_getElem hlt]
   rw [hrd] at hx0 hx1 hx2
   simp only [Int.toNat_natCast] at hx0 hx1 hx2
   clear hrd hl2 hg2
   have hcl := Aside0.mk (client_closure (l0[k]'hlt) A2 c2 key b wr hK2.out)
   by_cases hp : ((l0[k]'hlt).f0.toList == key.toList) = true
   ·have hfin := Aside0.mk (idxOf_hit (fun x : S43 => x.f0.toList == key.toList) k l0 hlt (fun j hj => HM.out j hj (by omega)) hp)
    have HP := Aside0.mk hp
    clear hp
    go_wp2_with fail
    refine hcl.out.mono ?_
    rw [HP.out]
    rintro e w2 ⟨rfl, hb2⟩
    have HB2 := Aside0.mk (below_then HB.out HB.out.size hb2)
    clear hb2
    go_wp2
    go_ret
    exact ⟨by rw [hfin.out]; rfl, HB2.out⟩
   ·have hp' := Bool.eq_false_iff.2 hp
    have HP := Aside0.mk hp'
    have hnext := Aside0.mk (show ∀ j (hj : j < k + 1) (hjl : j < l0.length), ((l0[j]'hjl).f0.toList == key.toList) = false from fun j hj hjl => by
     by_cases h : j = k
     ·subst h; exact hp'
     ·exact HM.out j (by omega) hjl)
    clear hp hp'
    go_wp2_with fail
    refine hcl.out.mono ?_
    rw [HP.out]
    rintro e w2 ⟨rfl, hb2⟩
    have HB2 := Aside0.mk (below_then HB.out HB.out.size hb2)
    clear hb2
    go_wp2
    go_roundw
    case rel => exact ⟨k + 1, by omega, by go_num, hnext, HB2⟩
    case measure => simp [intOf]; omega
  ·have hfin := Aside0.mk (idxOf_all (fun x : S43 => x.f0.toList == key.toList) l0 (fun x hx => by
    obtain ⟨j, hj, rfl⟩ := List.getElem_of_mem hx
    exact HM.out j (by omega) hj))
   go_wp2
   go_ret
   exact ⟨by rw [hfin.out]; rfl, HB.out⟩

theorem boxes3 (w : World) (a b c : Obj) : (((w.alloc a).alloc b).alloc c).heap[w.heap.size]? = some a ∧ (((w.alloc a).alloc b).alloc c).heap[w.heap.size + 1]? = some b ∧ (((w.alloc a).alloc b).alloc c).heap[w.heap.size + 1 + 1]? = some c ∧ (((w.alloc a).alloc b).alloc c).heap.size = w.heap.size + 1 + 1 + 1 := by
 have s1 : (w.alloc a).heap.size = w.heap.size + 1 := by simp
 have s2 : ((w.alloc a).alloc b).heap.size = w.heap.size + 1 + 1 := by simp
 have h1 := blk_new (w.alloc a) b
 rw [s1] at h1
 have h2 := blk_new ((w.alloc a).alloc b) c
 rw [s2] at h2
 exact ⟨blk_alloc (blk_alloc (blk_new w a) _) _, blk_alloc h1 _, h2, by simp⟩
def findC (l : List S43) (id : ByteArray) : Int := idxOf (fun x => x.f0.toList == id.toList) l
def client_Client.f (a0_0 a0_1 a0_2 : ByteArray) (l0_3 : List S43) (l0_4 : List S129) (a1 : ByteArray) : Option (ByteArray × ByteArray × List ByteArray × Bool) :=
  if findC l0_3 a1 < 0 then some (⟨#[]⟩, ⟨#[]⟩, [], false) else if (rd_T43 l0_3 (findC l0_3 a1)).f2.length ≤ 1000000000 then some ((rd_T43 l0_3 (findC l0_3 a1)).f0, (rd_T43 l0_3 (findC l0_3 a1)).f1, (rd_T43 l0_3 (findC l0_3 a1)).f2, true) else none
set_option maxHeartbeats 4000000 in
set_option maxRecDepth 100000 in
theorem client_Client.calls (a0_0 a0_1 a0_2 : ByteArray) (A0_3 : Option Addr) (c0_3 : Nat) (l0_3 : List (S43)) (A0_4 : Option Addr) (c0_4 : Nat) (l0_4 : List (S129)) (a1 : ByteArray) (r1 : ByteArray) (r2 : ByteArray) (r3 : List ByteArray) (r4 : Bool) (w : World) (hr0_3 : Kd.C k43 w A0_3 l0_3.length l0_3) (hc0_3 : l0_3.length ≤ c0_3) (hr0_4 : Kd.C k129 w A0_4 l0_4.length l0_4) (hc0_4 : l0_4.length ≤ c0_4) (h : client_Client.f a0_0 a0_1 a0_2 l0_3 l0_4 a1 = some (r1, r2, r3, r4)) :
  Calls Tryd.prog 20 #[.agg #[.string a0_0, .string a0_1, .string a0_2, .slice A0_3 l0_3.length c0_3, .slice A0_4 l0_4.length c0_4], .string a1] w fun e w' => ∃ v2_ : Value, e = .returned (.tuple #[.agg #[.string r1, .string r2, v2_], .bool r4]) ∧ Kd.V Kd.string 9 w' w.heap.size (fun k_ => (w.heap.size ≤ k_)) v2_ r3 ∧ Below w.heap.size w w' := by
 have hu := Tryd.underlying43
 have hu2 := Tryd.underlying27
 have H := Aside0.mk h
 clear h
 have HR := Aside0.mk hr0_3
 have hir := idxOf_range (fun x : S43 => x.f0.toList == a1.toList) l0_3
 clear hr0_3 hr0_4
 go_enter Tryd.func20, Tryd.ntmps20
 go_wp2_with fail
 refine (find_client A0_3 c0_3 l0_3 a1 (w.heap.size + 1) _ (Kd.C_alloc (Kd.C_alloc (Kd.C_alloc HR.out _) _) _) hc0_3 (by
  rw [(below_alloc (Below.refl _ (((w.alloc _).alloc _))) _).cell (p := ⟨w.heap.size + 1, 0, none⟩) (by simp)]
  simp)).mono ?_
 rintro e w4 ⟨rfl, hb4⟩
 have B0 := below_then (below_alloc (below_alloc (below_alloc (Below.refl _ w) (.cells #[.string a0_0, .string a0_1, .string a0_2, .slice A0_3 l0_3.length c0_3, .slice A0_4 l0_4.length c0_4] 27)) (.cells #[.string a1] 9)) (.cells #[.string ⟨#[]⟩, .string ⟨#[]⟩, .slice none 0 0] 43)) (by simp; omega) hb4
 obtain ⟨b0, _, b2, b3⟩ := boxes3 w (.cells #[.string a0_0, .string a0_1, .string a0_2, .slice A0_3 l0_3.length c0_3, .slice A0_4 l0_4.length c0_4] 27) (.cells #[.string a1] 9) (.cells #[.string ⟨#[]⟩, .string ⟨#[]⟩, .slice none 0 0] 43)
 have c0 := blk_below b0 hb4
 have c2 := blk_below b2 hb4
 have hsz := hb4.size
 rw [b3] at hsz
 have BK0 := Aside0.mk c0
 have BK2 := Aside0.mk c2
 have HB4 := Aside0.mk B0
 have e0 : w4.cell? ⟨w.heap.size, 3, none⟩ = some (.slice A0_3 l0_3.length c0_3) := (blk_cell c0 3).trans rfl
 have f0 : w4.cell? ⟨w.heap.size + 1 + 1, 0, none⟩ = some (.string (⟨#[]⟩ : ByteArray)) := (blk_cell c2 0).trans rfl
 have f1 : w4.cell? ⟨w.heap.size + 1 + 1, 1, none⟩ = some (.string (⟨#[]⟩ : ByteArray)) := (blk_cell c2 1).trans rfl
 have f2 : w4.cell? ⟨w.heap.size + 1 + 1, 2, none⟩ = some (.slice none 0 0) := (blk_cell c2 2).trans rfl
 have g0 := blk_frozen c2 0
 have g1 := blk_frozen c2 1
 have g2 := blk_frozen c2 2
 clear hb4 B0 c0 c2 b0 b2 b3
 have HI := Aside0.mk (show findC l0_3 a1 = idxOf (fun x : S43 => x.f0.toList == a1.toList) l0_3 from rfl)
 generalize idxOf (fun x : S43 => x.f0.toList == a1.toList) l0_3 = i at HI hir ⊢
 by_cases hneg : i < 0
 ·have hn := decide_eq_true hneg
  go_wp2
  refine bodyPost_ret (results_ct rfl _ _ (w.heap.size + 1 + 1) 43 #[.string ⟨#[]⟩, .string ⟨#[]⟩, .slice none 0 0] (0, 0) _ rfl (by refine fillR (cs := ?cs_) rfl rfl ?h_ ?l_; (case h_ => exact BK2.out); (case l_ => rfl)) Tryd.underlying43 rfl (by kernel_rfl)) rfl ?_
  have H2 := H.out
  unfold client_Client.f at H2
  rw [if_pos (by rw [HI.out]; exact hneg)] at H2
  simp only [Option.some.injEq, Prod.mk.injEq] at H2
  obtain ⟨rfl, rfl, rfl, rfl⟩ := H2
  exact ⟨_, rfl, Kd.V_nil _ _ _ _ _, below_set (below_set (below_set HB4.out (by omega)) (by omega)) (by omega)⟩
 ·have hn : decide (i < 0) = false := decide_eq_false hneg
  have p0 : 0 ≤ i := by omega
  have q0 : i < (l0_3.length : Int) := hir.2
  obtain ⟨ad, A2, c2, rfl, hx0, hx1, hx2, hl2, hg2⟩ := at_T43 (Kd.C_below HR.out HB4.out) i p0 q0
  have H2 := H.out
  unfold client_Client.f at H2
  rw [if_neg (by rw [HI.out]; exact hneg)] at H2
  split at H2
  case isFalse => cases H2
  rename_i hlen
  simp only [Option.some.injEq, Prod.mk.injEq] at H2
  rw [HI.out] at hlen H2
  generalize rd_T43 l0_3 i = x at hx0 hx1 hx2 hl2 hg2 hlen H2 ⊢
  obtain ⟨rfl, rfl, rfl, rfl⟩ := H2
  have HG2 := Aside0.mk hg2
  have hcl : slices_Clone_string_string.f x.f2 = some x.f2 := by unfold slices_Clone_string_string.f; rw [if_pos hlen]
  clear hg2
  go_wp2_with fail
  refine (slices_Clone_string_string.calls A2 c2 x.f2 x.f2 _ (Kd.C_alloc HG2.out _) hl2 hcl).mono ?_
  rintro e w6 ⟨v6, rfl, ho6, hb6⟩
  obtain ⟨A3, c3, rfl⟩ := Kd.R_slice ho6
  have HV6 := Aside0.mk (Kd.V_mono (Kd.R_V (base' := w6.heap.size) (Kd.R_bound ho6)) (fun k hk => (by have := hk.2.1; simp at this; omega : w4.heap.size + 1 ≤ k)))
  have BN := Aside0.mk (blk_below (blk_new w4 (.cells #[.string x.f0, .string x.f1, .slice A2 x.f2.length c2] 43)) hb6)
  have BK2' := Aside0.mk (blk_below (blk_alloc BK2.out _) hb6)
  have HB6 := Aside0.mk (below_then (below_alloc HB4.out (.cells #[.string x.f0, .string x.f1, .slice A2 x.f2.length c2] 43)) (by simp; omega) hb6)
  clear ho6 hb6
  go_wp2_with fail
  refine (slices_Clip_string_string.calls (fun k => w4.heap.size + 1 ≤ k) A3 c3 x.f2 x.f2 w6 HV6.out rfl).mono ?_
  rintro e w7 ⟨v7, rfl, hv7, hb7⟩
  have BN7 := Aside0.mk (blk_below BN.out hb7)
  have BK7 := Aside0.mk (blk_below BK2'.out hb7)
  have hs7 := HB6.out.size
  have hs6 := blk_lt BN.out
  have HB7 := Aside0.mk (below_then HB6.out (by omega) hb7)
  have HV7 := Aside0.mk (Kd.V_mono hv7 (fun k hk => (by rcases hk with h | h <;> omega : w4.heap.size + 1 ≤ k)))
  clear hv7 hb7
  have ne : w4.heap.size ≠ w.heap.size + 1 + 1 := by omega
  have n0 : w7.cell? ⟨w4.heap.size, 0, none⟩ = some (.string x.f0) := (blk_cell BN7.out 0).trans rfl
  have n1 : w7.cell? ⟨w4.heap.size, 1, none⟩ = some (.string x.f1) := (blk_cell BN7.out 1).trans rfl
  have n2 : w7.cell? ⟨w4.heap.size, 2, none⟩ = some (.slice A2 x.f2.length c2) := (blk_cell BN7.out 2).trans rfl
  have m2 := blk_frozen BN7.out 2
  have k0 : w7.cell? ⟨w.heap.size + 1 + 1, 0, none⟩ = some (.string (⟨#[]⟩ : ByteArray)) := (blk_cell BK7.out 0).trans rfl
  have k1 : w7.cell? ⟨w.heap.size + 1 + 1, 1, none⟩ = some (.string (⟨#[]⟩ : ByteArray)) := (blk_cell BK7.out 1).trans rfl
  have k2 : w7.cell? ⟨w.heap.size + 1 + 1, 2, none⟩ = some (.slice none 0 0) := (blk_cell BK7.out 2).trans rfl
  have q0' := blk_frozen BK7.out 0
  have q1' := blk_frozen BK7.out 1
  have q2' := blk_frozen BK7.out 2
  obtain ⟨A7, c7, rfl⟩ := Kd.V_slice HV7.out
  go_wp2
  refine bodyPost_ret (results_ct rfl _ _ (w.heap.size + 1 + 1) 43 #[.string x.f0, .string x.f1, .slice A7 x.f2.length c7] (0, 0) _ rfl (by refine fillR (cs := ?cs_) rfl rfl ?h_ ?l_; (case h_ => exact blk_far BK7.out (Ne.symm ne) _); (case l_ => rfl)) Tryd.underlying43 rfl (by kernel_rfl)) rfl ?_
  have hlow : ∀ k : Nat, w4.heap.size + 1 ≤ k → k ≠ w.heap.size + 1 + 1 := fun k hk => by omega
  have hlow2 : ∀ k : Nat, w4.heap.size + 1 ≤ k → k ≠ w4.heap.size := fun k hk => by omega
  refine ⟨_, rfl, Kd.V_mono (Kd.V_far (Kd.V_far (Kd.V_far (Kd.V_far HV7.out (p := ⟨w4.heap.size, 2, none⟩) hlow2 _) (p := ⟨w.heap.size + 1 + 1, 0, none⟩) hlow _) (p := ⟨w.heap.size + 1 + 1, 1, none⟩) hlow _) (p := ⟨w.heap.size + 1 + 1, 2, none⟩) hlow _) (fun k hk => by omega), below_set (below_set (below_set (below_set HB7.out (by omega)) (by omega)) (by omega)) (by omega)⟩
end Go.Proofs.YtmhaaggmfgojbaaDoor.X

/-! HSplitSeq -/
namespace Go.Proofs.YtmhaaggmfgojbaaDoor.X
open Go.RowKit Go.Shelf Go.Proofs.YtmhaaggmfgojbaaDoorW.PrintWords Go.Proofs.YtmhaaggmfgojbaaDoorW.PrintLast Go.Proofs.YtmhaaggmfgojbaaDoorW.PrintMore Go.Proofs.YtmhaaggmfgojbaaDoor.Spec
set_option linter.unusedVariables false
set_option linter.unusedSimpArgs false
attribute [local go_sem] Oper.semAt_some

section
variable {F : Fence} {n : Nat} {P : Program}
/-- What an iterator with a cell of its own promises: Ab, its own steps between two rounds; Kp, what a round that goes on keeps. -/
def SeqCell {α : Type} (F : Fence) (n : Nat) (P : Program) (g : Nat) (lb : Array Value) (encs : α → Array Value) (Kp Ab : World → World → Prop) (S Sp : List α → Prop) (V : List α → α → Prop) (ok : World → Prop) : Prop :=
  ∀ (l : Nat) (J Jx : List α → World → Prop) (W : World), ok W → (∀ s A B, J s A → Ab A B → J s B) →
    (∀ pre x W1, J pre W1 → V pre x → YieldAt F (n - 1) P l (encs x) W1 fun e W' =>
      (e = .returned (.bool true) ∧ J (pre ++ [x]) W' ∧ Kp W1 W') ∨ (e = .returned (.bool false) ∧ Jx (pre ++ [x]) W')) →
    J [] W →
    CallsIn F n P g (#[.func (.yield l) #[] #[]] ++ lb) W fun e W' => (∃ v, e = .returned v) ∧ ((∃ xs, S xs ∧ J xs W') ∨ (∃ pre, Sp pre ∧ Jx pre W'))

theorem wpIn_rangeFunc_cell {α : Type} {g : Operand} {ps : Array Tmp} {assign body : Code} {Q : Exit → Act → World → Prop} {a : Act} {w : World}
  (hro : F.round = none) (h1 : 1 ≤ n) {gf : Nat} {lb : Array Value} (hg : a.eval g = .func (.func gf) #[] lb) (hFg : F.fn gf) (eg : ∀ args w, (callFunc gf args).run P w = .ok (.enter gf args) w)
  {encs : α → Array Value} {Kp Ab : World → World → Prop} {S Sp : List α → Prop} {V : List α → α → Prop} {ok : World → Prop} (hseq : SeqCell F (n - 1) P gf lb encs Kp Ab S Sp V ok)
  (hok : ∀ W1, Below w.heap.size w W1 → ok W1)
  (hAb : ∀ A B, Ab A B → ∀ (l : Nat) (o : Obj), w.heap.size ≤ l → A.heap[l]? = some o → B.heap[l]? = some o)
  (hKt : ∀ {A B C : World}, Kp A B → Kp B C → Kp A C) (hKb : ∀ (W : World) (l : Nat) (o o' : Obj), w.heap.size ≤ l → W.heap[l]? = some o → o.isCells = false → o.isWalk = false → Kp W (W.putObj l o')) (hps : ∀ x, (encs x).size = ps.size)
  (I : List α → World → Prop) (Ix : Code → List α → World → Prop) (hI : OwnFrom w.heap.size I) (hIx : ∀ c, OwnFrom w.heap.size (Ix c)) (hIA : ∀ s A B, I s A → Ab A B → I s B) (h0 : I [] w) (a₁ : α → Act)
  (hassign : ∀ (l : Nat) (x : α) (W : World) (K : Act → World → Prop), K (a₁ x) W →
   assign.wpIn (F.inRound l) (n - 1 - 1) P (Exit.then K (fun _ _ _ => False)) { tmps := (ps.zip (encs x)).foldl (fun t (p, v) => t.setIfInBounds p v) a.tmps, defers := [] } W)
  (hbody : ∀ (l : Nat) (pre : List α) (x : α) (W : World), I pre W → V pre x → body.wpIn (F.inRound l) (n - 1 - 1) P (ownPostK Kp I Ix (pre ++ [x]) W) (a₁ x) W)
  (hdone : ∀ (D : Nat) (xs : List α) (W : World), w.heap.size ≤ D → S xs → I xs W → W.heap[D]? = some (.deferred (some [])) → Q .normal { a with defers := { target := .collected D, args := #[] } :: a.defers } W)
  (hstop : ∀ (D : Nat) (c : Code) (pre : List α) (W : World), w.heap.size ≤ D → Sp pre → Ix c pre W → W.heap[D]? = some (.deferred (some [])) → c.wpIn F n P Q { a with defers := { target := .collected D, args := #[] } :: a.defers } W) :
  (Code.rangeFunc g ps assign body).wpIn F n P Q a w := by
 refine wpIn_rangeFunc ?_
 intro fn hfn
 rw [hro]
 obtain ⟨rec, hrec⟩ : ∃ rec : LoopState → Option Code → Loop, rec = fun st pe => { state := st, pending := pe, fn, tmps := a.tmps, params := ps, assign, body, defers := w.heap.size } := ⟨_, rfl⟩
 obtain ⟨W1, hW1⟩ : ∃ W1, (w.alloc (.deferred (some []))).alloc (.loop (rec .ready none)) = W1 := ⟨_, rfl⟩
 have hL1 : W1.heap[w.heap.size + 1]? = some (.loop (rec .ready none)) := by
  rw [← hW1]; have := World.alloc_heap_new (w.alloc (.deferred (some []))) (.loop (rec .ready none)); rwa [World.size_alloc] at this
 have hK1 : W1.heap[w.heap.size]? = some (.deferred (some [])) := by
  rw [← hW1]; exact (Below.heap_alloc _ _ _ (by simp)).trans (World.alloc_heap_new w _)
 have hI1 : I [] W1 := by rw [← hW1]; exact hI.alloc _ (hI.alloc _ h0)
 have hb1 : Below w.heap.size w W1 := by
  rw [← hW1]; exact ((Below.refl _ w).alloc (Nat.le_refl _) _).alloc (by simp) _
 refine ⟨w.heap.size + 1, [{ target := .collected w.heap.size, args := #[] }], W1, { target := .fn (.func gf) lb, args := #[.func (.yield (w.heap.size + 1)) #[] #[]] }, W1, gf,
  #[.func (.yield (w.heap.size + 1)) #[] #[]] ++ lb, W1, ?_, ?_, ?_, ?_, fun _ => h1, ?_⟩
 ·rw [← hW1, hrec]; exact run_enterLoop_outer _ _ _ _ _
 ·simp only [resolve, hg]
  simp [go_sem]
 ·intro f' hf'; simp [Target.leads] at hf'; subst hf'; exact hFg
 ·simp [invoke, go_sem, eg]
 ·refine (hseq (w.heap.size + 1)
   (fun pre W => I pre W ∧ W.heap[w.heap.size + 1]? = some (.loop (rec .ready none)) ∧ W.heap[w.heap.size]? = some (.deferred (some [])))
   (fun pre W => ∃ c, Ix c pre W ∧ W.heap[w.heap.size + 1]? = some (.loop (rec .done (some c))) ∧ W.heap[w.heap.size]? = some (.deferred (some [])))
   W1 (hok W1 hb1)
   (fun s A B hs hab => ⟨hIA s A B hs.1 hab, hAb A B hab _ _ (by omega) hs.2.1, hAb A B hab _ _ (Nat.le_refl _) hs.2.2⟩)
   ?_ ⟨hI1, hL1, hK1⟩).mono ?_
  ·rintro pre x W ⟨hi, hl, hk⟩ hlen
   have hlt : w.heap.size + 1 < W.heap.size := (Array.getElem?_eq_some_iff.1 hl).1
   have hy := run_yield (P := P) (args := encs x) hl (by rw [hrec]; exact hps x)
   rw [hrec] at hy
   refine ⟨fn, _, assign, body, hy, roundIn_of_wpIn hfn (hassign _ x W _ ⟨_, run_beginRound hl (by rw [hrec]), ?_⟩)⟩
   have hl2 : (W.putObj (w.heap.size + 1) (.loop { rec .ready none with state := .busy })).heap[w.heap.size + 1]? = some (.loop { rec .ready none with state := .busy }) := World.putObj_heap_same hlt
   have hk2 : (W.putObj (w.heap.size + 1) (.loop { rec .ready none with state := .busy })).heap[w.heap.size]? = some (.deferred (some [])) := (World.putObj_heap_other (by omega)).trans hk
   have hw2 : Kp W (W.putObj (w.heap.size + 1) (.loop { rec .ready none with state := .busy })) := hKb _ _ _ _ (by omega) hl rfl rfl
   refine wpIn_mono (hbody _ pre x _ (hI.putObj _ hi (by omega) hl rfl) hlen) ?_
   have fin : ∀ (jump : Option Code) (W3 : World), KeepsOthers (W.putObj (w.heap.size + 1) (.loop { rec .ready none with state := .busy })) W3 →
     (Instr.endRound (w.heap.size + 1) jump).run P W3 = .ok (.bool jump.isNone) (W3.putObj (w.heap.size + 1) (.loop (rec (if jump.isNone then .ready else .done) jump))) ∧
     W3.heap[w.heap.size + 1]? = some (.loop { rec .ready none with state := .busy }) ∧
     (W3.putObj (w.heap.size + 1) (.loop (rec (if jump.isNone then .ready else .done) jump))).heap[w.heap.size + 1]? = some (.loop (rec (if jump.isNone then .ready else .done) jump)) ∧
     (W3.putObj (w.heap.size + 1) (.loop (rec (if jump.isNone then .ready else .done) jump))).heap[w.heap.size]? = some (.deferred (some [])) := fun jump W3 hk3 => by
    have hl3 := hk3.same _ _ hl2 rfl
    have := run_endRound (P := P) jump hl3
    rw [hrec] at this ⊢
    exact ⟨this, by rw [hrec] at hl3; exact hl3, World.putObj_heap_same (Array.getElem?_eq_some_iff.1 hl3).1, (World.putObj_heap_other (by omega)).trans (hk3.same _ _ hk2 rfl)⟩
   rintro e a3 W3 hp
   cases e with
   | normal =>
    obtain ⟨hk3, hkp3, hi3⟩ := hp
    obtain ⟨hr, hl3, hl4, hk4⟩ := fin none W3 hk3
    exact ⟨_, _, hr, .inl ⟨rfl, ⟨hI.putObj _ hi3 (by omega) hl3 rfl, hl4, hk4⟩, hKt (hKt hw2 hkp3) (hKb _ _ _ _ (by omega) hl3 rfl rfl)⟩⟩
   | ret =>
    obtain ⟨hk3, hi3⟩ := hp
    obtain ⟨hr, hl3, hl4, hk4⟩ := fin (some .ret) W3 hk3
    exact ⟨_, _, hr, .inr ⟨rfl, .ret, (hIx _).putObj _ hi3 (by omega) hl3 rfl, hl4, hk4⟩⟩
   | exit id =>
    obtain ⟨hk3, hi3⟩ := hp
    obtain ⟨hr, hl3, hl4, hk4⟩ := fin (some (.exit id)) W3 hk3
    exact ⟨_, _, hr, .inr ⟨rfl, .exit id, (hIx _).putObj _ hi3 (by omega) hl3 rfl, hl4, hk4⟩⟩
   | goto t =>
    obtain ⟨hk3, hi3⟩ := hp
    obtain ⟨hr, hl3, hl4, hk4⟩ := fin (some (.goto t)) W3 hk3
    exact ⟨_, _, hr, .inr ⟨rfl, .goto t, (hIx _).putObj _ hi3 (by omega) hl3 rfl, hl4, hk4⟩⟩
   | panic ch => exact hp.elim
   | outgrown => exact hp.elim
  ·rintro e W2 ⟨⟨v, rfl⟩, (⟨xs, hS, hi, hl, hk⟩ | ⟨pre, hSp, c, hi, hl, hk⟩)⟩
   ·exact ⟨none, _, by have := run_endLoop (P := P) hl (by rw [hrec]; simp); rw [hrec] at this; exact this, hdone _ xs _ (Nat.le_refl _) hS (hI.putObj _ hi (by omega) hl rfl) ((World.putObj_heap_other (by omega)).trans hk)⟩
   ·exact ⟨some c, _, by have := run_endLoop (P := P) hl (by rw [hrec]; simp); rw [hrec] at this; exact this, hstop _ c pre _ (Nat.le_refl _) hSp ((hIx c).putObj _ hi (by omega) hl rfl) ((World.putObj_heap_other (by omega)).trans hk)⟩
end

/-! ### the iterator of SplitSeq -/
/-- the three cells of an iterator: what is left, the separator, nought -/
def SpOk (b : Nat) (s : ByteArray) (c : UInt8) (W : World) : Prop :=
  W.heap[b]? = some (.cells #[.string s] 9 (0, 0)) ∧ W.heap[b + 1]? = some (.cells #[.string ⟨#[c]⟩] 9 (0, 0)) ∧ W.heap[b + 2]? = some (.cells #[.int .i64 0] 3 (0, 0))
def SpKp (b : Nat) (W W' : World) : Prop := ∀ j, j < 3 → W'.heap[b + j]? = W.heap[b + j]?
def SpAb (b : Nat) (A B : World) : Prop := ∃ row : Option Nat, A.grownBy B row ∧ (row = none ∨ row = some b)
def SpLeft (b : Nat) (W : World) : Nat := match W.cell? ⟨b, 0, none⟩ with | some (.string s) => s.size | _ => 0
theorem SpOk.keep {b : Nat} {s : ByteArray} {c : UInt8} {W W' : World} (h : SpOk b s c W) (hk : SpKp b W W') : SpOk b s c W' :=
 ⟨(hk 0 (by omega)).trans h.1, (hk 1 (by omega)).trans h.2.1, (hk 2 (by omega)).trans h.2.2⟩
theorem cell_of_block {W : World} {b : Nat} {v : Value} {t : TypeId} (h : W.heap[b]? = some (.cells #[v] t (0, 0))) : W.cell? ⟨b, 0, none⟩ = some v := by simp [World.cell?, h]
theorem free_of_block {W : World} {b : Nat} {v : Value} {t : TypeId} (h : W.heap[b]? = some (.cells #[v] t (0, 0))) : W.frozen? ⟨b, 0, none⟩ = false := Lib.frozen_of_heap h 0
theorem set_block {W : World} {b : Nat} {v u : Value} {t : TypeId} (h : W.heap[b]? = some (.cells #[v] t (0, 0))) : (W.setCell ⟨b, 0, none⟩ u).heap[b]? = some (.cells #[u] t (0, 0)) := by
 simp [World.setCell, Array.getElem?_modify, h]
theorem set_other {W : World} {b k : Nat} {u : Value} (h : k ≠ b) : (W.setCell ⟨b, 0, none⟩ u).heap[k]? = W.heap[k]? := by
 simp [World.setCell, Array.getElem?_modify, Ne.symm h]
theorem SpOk.store {b : Nat} {s s' : ByteArray} {c : UInt8} {W : World} (h : SpOk b s c W) : SpOk b s' c (W.setCell ⟨b, 0, none⟩ (.string s')) :=
 ⟨set_block h.1, (set_other (by omega)).trans h.2.1, (set_other (by omega)).trans h.2.2⟩
theorem SpAb.store (b : Nat) (W : World) (v : Value) : SpAb b W (W.setCell ⟨b, 0, none⟩ v) :=
 ⟨some b, ⟨rfl, rfl, rfl, by simp [World.setCell], fun k _ hk => set_other (fun e => hk (by rw [e]))⟩, .inr rfl⟩
theorem SpLeft.of {b : Nat} {s : ByteArray} {c : UInt8} {W : World} (h : SpOk b s c W) : SpLeft b W = s.size := by unfold SpLeft; rw [cell_of_block h.1]

set_option maxHeartbeats 2000000 in
set_option maxRecDepth 100000 in
theorem strings_Index_one (s : ByteArray) (c : UInt8) (w : World) :
  Calls Tryd.prog 55 #[.string s, .string ⟨#[c]⟩] w fun e w' => e = .returned (.int .i64 (Lib.indexByte s.data.toList c)) ∧ w' = w := by
 go_enter Tryd.func55, Tryd.ntmps55
 go_wp2_with (go_at_call 65; refine (stringslite_Index_one _ _ _).mono ?_; rintro e w' ⟨rfl, rfl⟩)
 go_ret
 exact ⟨rfl, rfl⟩

set_option maxHeartbeats 4000000 in
set_option maxRecDepth 100000 in
theorem split_cell (n : Nat) (hn : 1 ≤ n) (b : Nat) (s0 : ByteArray) (hs0 : s0.size ≤ 140737488355328) (c : UInt8) :
  SeqCell Fence.wide n Tryd.prog 53 #[.pointer (some ⟨b + 1, 0, none⟩), .pointer (some ⟨b, 0, none⟩), .pointer (some ⟨b + 2, 0, none⟩)] (fun s : ByteArray => #[.string s]) (SpKp b) (SpAb b)
   (fun xs => xs = spParts c s0) (fun pr => pr <+: spParts c s0) (fun pr x => pr ++ [x] <+: spParts c s0) (SpOk b s0 c) := by
 intro l J Jx W hW hJA hY h0
 have HW := Aside0.mk hW
 have HJA := Aside0.mk hJA
 have HY := Aside0.mk hY
 have H0 := Aside0.mk h0
 have c1 := cell_of_block hW.2.1
 clear hW hJA hY h0
 refine callsIn_of_wp Tryd.func53 rfl trivial ?_ rfl
 simp only [Tryd.ntmps53, List.size_toArray, List.length_cons, List.length_nil, Nat.reduceAdd, Nat.reduceSub, Array.replicate_succ, Array.replicate_zero, List.push_toArray, List.append_toArray, List.nil_append, List.cons_append]
 gi_wp2
 clear c1
 gi_loopw [] (fun wr => ∃ (pr : List ByteArray) (cur : ByteArray), Aside0 (SpOk b cur c wr) ∧ cur.size ≤ 140737488355328 ∧ Aside0 (spParts c s0 = pr ++ spParts c cur) ∧ Aside0 (J pr wr)) (fun wr => SpLeft b wr)
 case atStart => exact ⟨[], s0, HW, hs0, ⟨rfl⟩, H0⟩
 case round =>
  obtain ⟨pr, cur, HO, hcs, HP, HJ⟩ := hrel
  have k0 := cell_of_block HO.out.1
  have k1 := cell_of_block HO.out.2.1
  have k2 := cell_of_block HO.out.2.2
  by_cases hc : c ∈ bl cur
  ·have hi : Lib.indexByte cur.data.toList c = ((pre c (bl cur)).length : Int) := by
    rw [show cur.data.toList = bl cur from rfl, indexByte_eq, if_pos hc]
   have hlt := congrArg List.length (pre_post hc)
   rw [List.length_append, List.length_cons, bl_length] at hlt
   have HI := Aside0.mk hi
   have hh := spParts_hit c cur hc
   have HP2 := Aside0.mk (show spParts c s0 = (pr ++ [cur.extract 0 (pre c (bl cur)).length]) ++ spParts c (cur.extract ((pre c (bl cur)).length + 1) cur.size) from by rw [HP.out, hh]; simp)
   generalize hg : (pre c (bl cur)).length = i at *
   clear hi hh hg
   have i0 : (i : Int) < (cur.size : Int) := by omega
   have hlt2 := hlt
   clear hlt
   have i1 : (i : Int) + 1 ≤ (cur.size : Int) := by omega
   have hnl : pr ++ [cur.extract 0 i] <+: spParts c s0 := ⟨_, HP2.out.symm⟩
   obtain ⟨fn, tmps, assign, body, hy, hR⟩ := HY.out pr (cur.extract 0 i) wr HJ.out hnl
   have HR := Aside0.mk hR
   clear hlt2 hR hnl
   gi_wp2_with (refine ⟨trivial, ?_⟩; gi_at_call 55; refine (callsIn_wide.2 (strings_Index_one _ _ _)).mono ?_; rw [HI.out]; rintro e w' ⟨rfl, rfl⟩)
   refine HR.out.mono ?_
   rintro e W2 (⟨rfl, hJ2, hk2⟩ | ⟨rfl, hx2⟩)
   ·have HO2 := Aside0.mk (HO.out.keep hk2)
    have m0 := cell_of_block HO2.out.1
    have m1 := cell_of_block HO2.out.2.1
    have f0 := free_of_block HO2.out.1
    have HJ2 := Aside0.mk (HJA.out _ _ _ hJ2 (SpAb.store b W2 (.string (cur.extract (i + 1) cur.size))))
    have HO3 := Aside0.mk (HO2.out.store (s' := cur.extract (i + 1) cur.size))
    have hsz : (cur.extract (i + 1) cur.size).size = cur.size - (i + 1) := by rw [ByteArray.size_extract]; omega
    have HSZ := Aside0.mk hsz
    clear hJ2 hk2 k0 k1 k2 hsz
    gi_wp2
    go_roundw
    case rel => exact ⟨pr ++ [cur.extract 0 i], cur.extract (i + 1) cur.size, HO3, by rw [HSZ.out]; omega, HP2, HJ2⟩
    case measure => rw [SpLeft.of HO3.out, SpLeft.of HO.out, HSZ.out]; omega
   ·clear k0 k1 k2
    gi_wp2
    refine bodyPost_ret (results_none rfl _ _ _) rfl ?_
    exact ⟨⟨_, rfl⟩, .inr ⟨pr ++ [cur.extract 0 i], ⟨_, HP2.out.symm⟩, hx2⟩⟩
  ·have hi : Lib.indexByte cur.data.toList c = -1 := by
    rw [show cur.data.toList = bl cur from rfl, indexByte_eq, if_neg hc]
   have HI := Aside0.mk hi
   have HP2 := Aside0.mk (show spParts c s0 = pr ++ [cur] from by rw [HP.out, spParts_miss c cur hc])
   have hnl : pr ++ [cur] <+: spParts c s0 := ⟨[], by rw [HP2.out]; simp⟩
   obtain ⟨fn, tmps, assign, body, hy, hR⟩ := HY.out pr cur wr HJ.out hnl
   have HR := Aside0.mk hR
   clear hR hi hnl
   gi_wp2_with (refine ⟨trivial, ?_⟩; gi_at_call 55; refine (callsIn_wide.2 (strings_Index_one _ _ _)).mono ?_; rw [HI.out]; rintro e w' ⟨rfl, rfl⟩)
   refine HR.out.mono ?_
   rintro e W2 (⟨rfl, hJ2, hk2⟩ | ⟨rfl, hx2⟩)
   ·clear k0 k1 k2
    gi_wp2
    go_end0
    exact ⟨⟨_, rfl⟩, .inl ⟨pr ++ [cur], HP2.out.symm, hJ2⟩⟩
   ·clear k0 k1 k2
    gi_wp2
    go_end0
    exact ⟨⟨_, rfl⟩, .inr ⟨pr ++ [cur], ⟨[], by rw [HP2.out]; simp⟩, hx2⟩⟩
end Go.Proofs.YtmhaaggmfgojbaaDoor.X

/-! HB64 -/
namespace Go.Proofs.YtmhaaggmfgojbaaDoor.X
open Go.RowKit Go.Proofs.YtmhaaggmfgojbaaDoorW.PrintWords Go.Proofs.YtmhaaggmfgojbaaDoorW.PrintLast Go.Proofs.YtmhaaggmfgojbaaDoorW.PrintMore Go.Proofs.YtmhaaggmfgojbaaDoor.Spec
set_option linter.unusedVariables false
set_option linter.unusedSimpArgs false

theorem alpha_at (n : Nat) (h : n < alphaB.size) : (alphaB[n]'h) = alpha n := by
 have h2 : n < 64 := h
 have : ∀ m : Fin 64, alphaB[m.val]'m.isLt = alpha m.val := by decide +kernel
 exact this ⟨n, h2⟩
theorem alpha_lit (n : Nat) (h : n < (⟨#[65, 66, 67, 68, 69, 70, 71, 72, 73, 74, 75, 76, 77, 78, 79, 80, 81, 82, 83, 84, 85, 86, 87, 88, 89, 90, 97, 98, 99, 100, 101, 102, 103, 104, 105, 106, 107, 108, 109, 110, 111, 112, 113, 114, 115, 116, 117, 118, 119, 120, 121, 122, 48, 49, 50, 51, 52, 53, 54, 55, 56, 57, 45, 95]⟩ : ByteArray).size) : ((⟨#[65, 66, 67, 68, 69, 70, 71, 72, 73, 74, 75, 76, 77, 78, 79, 80, 81, 82, 83, 84, 85, 86, 87, 88, 89, 90, 97, 98, 99, 100, 101, 102, 103, 104, 105, 106, 107, 108, 109, 110, 111, 112, 113, 114, 115, 116, 117, 118, 119, 120, 121, 122, 48, 49, 50, 51, 52, 53, 54, 55, 56, 57, 45, 95]⟩ : ByteArray)[n]'h) = alpha n := alpha_at n h
theorem wraps_u32 (n : Int) (h₀ : 0 ≤ n) (h₁ : n < 2 ^ 32) : IntKind.u32.wrap n = n := by rw [IntKind.wrap_u32]; omega
theorem u32_and63 (x : Nat) (h : x < 4294967296) : bits .and .u32 (x : Int) 63 = ((x % 64 : Nat) : Int) := by
 have := bits_mask .u32 32 (by decide) wraps_u32 6 (by decide) (x : Int) (by omega) (by omega)
 rw [show ((2 : Int) ^ 6 - 1) = 63 from rfl] at this
 rw [this]
 omega
theorem u32_or8 (x y : Nat) (hx : x < 4294967296) (h : x % 256 = 0) (hy : y < 256) : bits .or .u32 (x : Int) (y : Int) = ((x + y : Nat) : Int) := by
 have := bits_join .u32 32 (by decide) wraps_u32 8 (x : Int) (y : Int) (by omega) (by omega) (by omega) (by omega) (by omega) (by omega)
 rw [this]
 omega
def text_Encode.f (a0 : ByteArray) : Option ByteArray := if a0.size ≤ 35184372088832 then some (ba (encL (bl a0))) else none

set_option maxHeartbeats 8000000 in
set_option maxRecDepth 100000 in
theorem text_Encode.calls (a0 : ByteArray) (r : ByteArray) (w : World) (h : text_Encode.f a0 = some r) :
  Calls Tryd.prog 63 #[.string a0] w fun e w' => e = .returned (.string r) ∧ Below w.heap.size w w' := by
 unfold text_Encode.f at h
 split at h
 case isFalse => cases h
 rename_i hs
 obtain rfl := Option.some.inj h
 clear h
 go_enter Tryd.func63, Tryd.ntmps63
 go_wp2
 go_loopw [4, 5, 9] (fun vb vh vi wr => ∃ (k B : Nat) (s : ES), k ≤ a0.size ∧ vi = .int .i64 k ∧ vb = .int .u32 B ∧ vh = .int .i64 s.have_ ∧ Aside0 (s = eSt ((bl a0).take k)) ∧ Aside0 (B < 4294967296 ∧ (s.have_ = 2 → B % 4 = s.v) ∧ (s.have_ = 4 → B % 16 = s.v)) ∧
  Aside0 (Lib.IsBuilder 98 5 w.heap.size w.heap.size (Lib.byteCells s.out) wr) ∧ Aside0 (Below w.heap.size w wr)) (fun _ _ i _ => a0.size - (intOf i).toNat)
 case atStart =>
  exact ⟨0, 0, ⟨[], 0, 0⟩, Nat.zero_le _, rfl, rfl, rfl, ⟨rfl⟩, ⟨by decide, fun h => (by cases h), fun h => (by cases h)⟩, ⟨Lib.fresh_isBuilder 98 5 w⟩, ⟨(Below.refl _ w).alloc (Nat.le_refl _) _⟩⟩
 case round =>
  obtain ⟨k, B, s, hk, rfl, rfl, rfl, HS, HV, HI, HB⟩ := hrel
  have hok : EOk s k := by rw [HS.out]; exact eOk_take _ k (by rw [bl_length]; exact hk)
  have hlen := hok.len
  have hBw : w.heap.size ≤ wr.heap.size := HB.out.size
  have hhv : s.have_ ≤ 4 := by have := hok.st; omega
  by_cases hlt : k < a0.size
  ·have hltd : decide ((k : Int) < (a0.size : Int)) = true := decide_eq_true (by omega)
   have hts : eSt ((bl a0).take (k + 1)) = eStep s (a0[k]'hlt) := by
    rw [List.take_succ_eq_append_getElem (by rw [bl_length]; exact hlt), eSt_snoc, ← HS.out]
    rfl
   have HT := Aside0.mk hts
   clear hts
   generalize hc : a0[k]'hlt = c at HT
   have hcb := c.toNat_lt
   have HD := Aside0.mk (drain_step c hok HV.out.2.1 HV.out.2.2)
   have HKp := Aside0.mk (keep_step c hok HV.out.2.1 HV.out.2.2)
   have HOk2 := Aside0.mk (hok.step c)
   obtain ⟨M, hM⟩ : ∃ M : Nat, M = B * 256 % 4294967296 := ⟨_, rfl⟩
   have hMi : (B : Int) * 256 % 4294967296 = (M : Int) := by omega
   have hor := u32_or8 M c.toNat (by omega) (by omega) (by omega)
   rw [← hM] at HD HKp
   obtain ⟨B', hB'⟩ : ∃ B' : Nat, B' = M + c.toNat := ⟨_, rfl⟩
   have hB2 : B' < 4294967296 := by omega
   rw [← hB'] at hor HD HKp
   clear hB' hM
   obtain ⟨hv, hhv2⟩ : ∃ hv : Nat, hv = s.have_ + 8 := ⟨_, rfl⟩
   have hw8 : (s.have_ : Int) + 8 = (hv : Int) := by omega
   rw [← hhv2] at HD
   have HH := Aside0.mk (show hv = 8 ∨ hv = 10 ∨ hv = 12 from by have := hok.st; omega)
   clear hhv2
   generalize eStep s c = t at HT HD HKp HOk2
   go_wp2
   go_loopw [5] (fun vh wr => ∃ (n h : Nat) (o : List UInt8), n ≤ 2 ∧ vh = .int .i64 h ∧ Aside0 (h = 0 ∨ h = 2 ∨ h = 4 ∨ h = 6 ∨ h = 8 ∨ h = 10 ∨ h = 12) ∧ Aside0 (h ≤ 6 * n + 5) ∧ Aside0 (drain n h B' o = (t.out, t.have_)) ∧ Aside0 (o.length + n ≤ 2 * k + 2) ∧
    Aside0 (Lib.IsBuilder 98 5 w.heap.size w.heap.size (Lib.byteCells o) wr) ∧ Aside0 (Below w.heap.size w wr)) (fun vh _ => (intOf vh).toNat)
   case atStart => exact ⟨2, hv, s.out, Nat.le_refl _, rfl, ⟨by have := HH.out; omega⟩, ⟨by have := HH.out; omega⟩, HD, ⟨by omega⟩, HI, HB⟩
   case round =>
    clear HD HI HB HH hw8 hBw hMi hor
    obtain ⟨n, h, o, hn, rfl, HH, HN, HD, HL, HI, HB⟩ := hrel
    have hBw : w.heap.size ≤ wr.heap.size := HB.out.size
    have hol := HL.out
    have hbl : (Lib.byteCells o).length ≤ 2 * k + 2 := by rw [Lib.byteCells_length]; omega
    by_cases h6 : 6 ≤ h
    ·obtain ⟨n, rfl⟩ : ∃ m, n = m + 1 := ⟨n - 1, by have := HN.out; omega⟩
     have hd := HD.out
     rw [drain_go h6] at hd
     have HD2 := Aside0.mk hd
     have hcase : h = 6 ∨ h = 8 ∨ h = 10 ∨ h = 12 := by have := HH.out; omega
     clear hd HD HH
     rcases hcase with rfl | rfl | rfl | rfl
     ·obtain ⟨D, hD⟩ : ∃ D : Nat, D = B' % 64 := ⟨_, rfl⟩
      have hand : bits .and .u32 (B' : Int) 63 = (D : Int) := by have := u32_and63 (B') (by omega); rw [hD, ← this]; try congr 1
      have hD64 : D < 64 := by omega
      have hx : B' / 2 ^ (6 - 6) % 64 = D := by rw [hD] <;> first | rfl | simp
      rw [hx] at HD2
      have HX := Aside0.mk hx
      clear hx hD
      go_wp2_with fail
      refine (Sh.Builder_WriteByte w.heap.size w.heap.size (Lib.byteCells o) _ wr HI.out (by omega) hBw).mono ?_
      rintro e w2 ⟨rfl, h2, hb2⟩
      have H2 := Aside0.mk h2
      have HB2 := Aside0.mk (HB.out.trans hb2)
      clear h2 hb2
      go_wp2
      go_roundw
      case rel => exact ⟨n, 0, o ++ [alpha D], by omega, rfl, ⟨by omega⟩, ⟨by have := HN.out; omega⟩, HD2, ⟨by rw [List.length_append]; simp only [List.length_cons, List.length_nil]; omega⟩, ⟨by have h5 := H2.out; rw [alpha_lit] at h5; rw [Lib.byteCells_append]; exact Or.inr (by simpa [Lib.byteCells] using h5)⟩, HB2⟩
      case measure => simp [intOf] <;> omega
     ·obtain ⟨D, hD⟩ : ∃ D : Nat, D = B' / 4 % 64 := ⟨_, rfl⟩
      have hand : bits .and .u32 ((B' : Int) / 4) 63 = (D : Int) := by have := u32_and63 (B' / 4) (by omega); rw [hD, ← this]; try congr 1
      have hD64 : D < 64 := by omega
      have hx : B' / 2 ^ (8 - 6) % 64 = D := by rw [hD] <;> first | rfl | simp
      rw [hx] at HD2
      have HX := Aside0.mk hx
      clear hx hD
      go_wp2_with fail
      refine (Sh.Builder_WriteByte w.heap.size w.heap.size (Lib.byteCells o) _ wr HI.out (by omega) hBw).mono ?_
      rintro e w2 ⟨rfl, h2, hb2⟩
      have H2 := Aside0.mk h2
      have HB2 := Aside0.mk (HB.out.trans hb2)
      clear h2 hb2
      go_wp2
      go_roundw
      case rel => exact ⟨n, 2, o ++ [alpha D], by omega, rfl, ⟨by omega⟩, ⟨by have := HN.out; omega⟩, HD2, ⟨by rw [List.length_append]; simp only [List.length_cons, List.length_nil]; omega⟩, ⟨by have h5 := H2.out; rw [alpha_lit] at h5; rw [Lib.byteCells_append]; exact Or.inr (by simpa [Lib.byteCells] using h5)⟩, HB2⟩
      case measure => simp [intOf] <;> omega
     ·obtain ⟨D, hD⟩ : ∃ D : Nat, D = B' / 16 % 64 := ⟨_, rfl⟩
      have hand : bits .and .u32 ((B' : Int) / 16) 63 = (D : Int) := by have := u32_and63 (B' / 16) (by omega); rw [hD, ← this]; try congr 1
      have hD64 : D < 64 := by omega
      have hx : B' / 2 ^ (10 - 6) % 64 = D := by rw [hD] <;> first | rfl | simp
      rw [hx] at HD2
      have HX := Aside0.mk hx
      clear hx hD
      go_wp2_with fail
      refine (Sh.Builder_WriteByte w.heap.size w.heap.size (Lib.byteCells o) _ wr HI.out (by omega) hBw).mono ?_
      rintro e w2 ⟨rfl, h2, hb2⟩
      have H2 := Aside0.mk h2
      have HB2 := Aside0.mk (HB.out.trans hb2)
      clear h2 hb2
      go_wp2
      go_roundw
      case rel => exact ⟨n, 4, o ++ [alpha D], by omega, rfl, ⟨by omega⟩, ⟨by have := HN.out; omega⟩, HD2, ⟨by rw [List.length_append]; simp only [List.length_cons, List.length_nil]; omega⟩, ⟨by have h5 := H2.out; rw [alpha_lit] at h5; rw [Lib.byteCells_append]; exact Or.inr (by simpa [Lib.byteCells] using h5)⟩, HB2⟩
      case measure => simp [intOf] <;> omega
     ·obtain ⟨D, hD⟩ : ∃ D : Nat, D = B' / 64 % 64 := ⟨_, rfl⟩
      have hand : bits .and .u32 ((B' : Int) / 64) 63 = (D : Int) := by have := u32_and63 (B' / 64) (by omega); rw [hD, ← this]; try congr 1
      have hD64 : D < 64 := by omega
      have hx : B' / 2 ^ (12 - 6) % 64 = D := by rw [hD] <;> first | rfl | simp
      rw [hx] at HD2
      have HX := Aside0.mk hx
      clear hx hD
      go_wp2_with fail
      refine (Sh.Builder_WriteByte w.heap.size w.heap.size (Lib.byteCells o) _ wr HI.out (by omega) hBw).mono ?_
      rintro e w2 ⟨rfl, h2, hb2⟩
      have H2 := Aside0.mk h2
      have HB2 := Aside0.mk (HB.out.trans hb2)
      clear h2 hb2
      go_wp2
      go_roundw
      case rel => exact ⟨n, 6, o ++ [alpha D], by omega, rfl, ⟨by omega⟩, ⟨by have := HN.out; omega⟩, HD2, ⟨by rw [List.length_append]; simp only [List.length_cons, List.length_nil]; omega⟩, ⟨by have h5 := H2.out; rw [alpha_lit] at h5; rw [Lib.byteCells_append]; exact Or.inr (by simpa [Lib.byteCells] using h5)⟩, HB2⟩
      case measure => simp [intOf] <;> omega
    ·have hd := HD.out
     rw [drain_end (by omega)] at hd
     obtain ⟨rfl, rfl⟩ := Prod.mk.inj hd
     have hdf : decide ((6 : Int) ≤ (t.have_ : Int)) = false := decide_eq_false (by omega)
     have HS2 := Aside0.mk (show t = eSt ((bl a0).take (k + 1)) from HT.out.symm)
     have HV2 := Aside0.mk (show B' < 4294967296 ∧ (t.have_ = 2 → B' % 4 = t.v) ∧ (t.have_ = 4 → B' % 16 = t.v) from ⟨hB2, HKp.out⟩)
     clear hd HD
     go_wp2
     go_roundw
     case rel => exact ⟨k + 1, B', t, by omega, by go_num, rfl, rfl, HS2, HV2, HI, HB⟩
     case measure => simp [intOf]; omega
  ·have hke : k = a0.size := by omega
   have ht : (bl a0).take k = bl a0 := List.take_of_length_le (by rw [bl_length]; omega)
   rw [ht] at HS
   have HE := Aside0.mk (show encL (bl a0) = eEnd s from by rw [HS.out]; rfl)
   have hbl : (Lib.byteCells s.out).length ≤ 2 * k := by rw [Lib.byteCells_length]; omega
   have HV' := HV.out
   clear ht HS HV
   rcases hok.st with ⟨h1, h2⟩ | ⟨h1, h2⟩ | ⟨h1, h2⟩
   ·have HE2 := Aside0.mk (show encL (bl a0) = s.out from by rw [HE.out]; unfold eEnd; rw [if_neg (by omega), if_neg (by omega)])
    rw [h1]
    clear HE h1 h2 hok hhv HV'
    go_wp2_with fail
    refine (Sh.Builder_String_any w.heap.size w.heap.size _ _ HI.out hBw).mono ?_
    rintro e w1 ⟨rfl, hb1⟩
    have HB1 := Aside0.mk (HB.out.trans hb1)
    clear hb1
    go_wp2
    go_ret
    exact ⟨by rw [HE2.out]; rfl, HB1.out⟩
   ·have HE2 := Aside0.mk (show encL (bl a0) = s.out ++ [alpha (s.v * 16 % 64)] from by rw [HE.out]; unfold eEnd; rw [if_neg (by omega), if_pos (by omega)])
    have hv := HV'.2.1 h1
    obtain ⟨M, hM⟩ : ∃ M : Nat, M = B * 16 % 4294967296 := ⟨_, rfl⟩
    have hMi : (B : Int) * 16 % 4294967296 = (M : Int) := by omega
    obtain ⟨D, hD⟩ : ∃ D : Nat, D = s.v * 16 % 64 := ⟨_, rfl⟩
    have hDM : D = M % 64 := by omega
    have hand : bits .and .u32 (M : Int) 63 = (D : Int) := by rw [hDM]; exact u32_and63 M (by omega)
    have hD64 : D < 64 := by omega
    rw [← hD] at HE2
    rw [h1]
    clear HE h1 h2 hok hhv HV' hM hD hDM hv
    go_wp2_with fail
    refine (Sh.Builder_WriteByte w.heap.size w.heap.size _ _ wr HI.out (by omega) hBw).mono ?_
    rintro e w2 ⟨rfl, h2, hb2⟩
    rw [alpha_lit] at h2
    have H2 := Aside0.mk (show Lib.IsBuilder 98 5 w.heap.size w.heap.size (Lib.byteCells (s.out ++ [alpha D])) w2 from by rw [Lib.byteCells_append]; exact Or.inr (by simpa [Lib.byteCells] using h2))
    have HB2 := Aside0.mk (HB.out.trans hb2)
    clear h2 hb2
    have hBw2 : w.heap.size ≤ w2.heap.size := HB2.out.size
    go_wp2_with fail
    refine (Sh.Builder_String_any w.heap.size w.heap.size _ _ H2.out hBw2).mono ?_
    rintro e w3 ⟨rfl, hb3⟩
    have HB3 := Aside0.mk (HB2.out.trans hb3)
    clear hb3
    go_wp2
    go_ret
    exact ⟨by rw [HE2.out]; rfl, HB3.out⟩
   ·have HE2 := Aside0.mk (show encL (bl a0) = s.out ++ [alpha (s.v * 4 % 64)] from by rw [HE.out]; unfold eEnd; rw [if_pos (by omega)])
    have hv := HV'.2.2 h1
    obtain ⟨M, hM⟩ : ∃ M : Nat, M = B * 4 % 4294967296 := ⟨_, rfl⟩
    have hMi : (B : Int) * 4 % 4294967296 = (M : Int) := by omega
    obtain ⟨D, hD⟩ : ∃ D : Nat, D = s.v * 4 % 64 := ⟨_, rfl⟩
    have hDM : D = M % 64 := by omega
    have hand : bits .and .u32 (M : Int) 63 = (D : Int) := by rw [hDM]; exact u32_and63 M (by omega)
    have hD64 : D < 64 := by omega
    rw [← hD] at HE2
    rw [h1]
    clear HE h1 h2 hok hhv HV' hM hD hDM hv
    go_wp2_with fail
    refine (Sh.Builder_WriteByte w.heap.size w.heap.size _ _ wr HI.out (by omega) hBw).mono ?_
    rintro e w2 ⟨rfl, h2, hb2⟩
    rw [alpha_lit] at h2
    have H2 := Aside0.mk (show Lib.IsBuilder 98 5 w.heap.size w.heap.size (Lib.byteCells (s.out ++ [alpha D])) w2 from by rw [Lib.byteCells_append]; exact Or.inr (by simpa [Lib.byteCells] using h2))
    have HB2 := Aside0.mk (HB.out.trans hb2)
    clear h2 hb2
    have hBw2 : w.heap.size ≤ w2.heap.size := HB2.out.size
    go_wp2_with fail
    refine (Sh.Builder_String_any w.heap.size w.heap.size _ _ H2.out hBw2).mono ?_
    rintro e w3 ⟨rfl, hb3⟩
    have HB3 := Aside0.mk (HB2.out.trans hb3)
    clear hb3
    go_wp2
    go_ret
    exact ⟨by rw [HE2.out]; rfl, HB3.out⟩

theorem keptF {B b : Nat} {T e : TypeId} {bs : List Value} {w w1 : World} (h : Lib.IsBuilderF T e B b bs w) (hb : Below w.heap.size w w1) : Lib.IsBuilderF T e B b bs w1 := by
 have key : ∀ p, Lib.BuilderAtF T e B b p bs w → Lib.BuilderAtF T e B b p bs w1 := by
  rintro p ⟨h1, v, h2, h3, h4⟩
  have hlt : ∀ {k : Nat} {o : Obj}, w.heap[k]? = some o → w1.heap[k]? = some o := by
   intro k o hk
   have : k < w.heap.size := by
    rcases Nat.lt_or_ge k w.heap.size with h' | h'
    ·exact h'
    ·rw [Array.getElem?_eq_none h'] at hk; cases hk
   exact (hb.block k this).trans hk
  refine ⟨h1, v, hlt h2, ?_, h4⟩
  refine ⟨h3.1, ?_⟩
  rcases h3.2 with h | ⟨g, cap, cur, fz, hv, hg, hh, r⟩
  ·exact .inl h
  ·exact .inr ⟨g, cap, cur, fz, hv, hg, hlt hh, r⟩
 exact h.elim (fun x => .inl (key _ x)) (fun x => .inr (key _ x))
theorem wrote {B b : Nat} {o : List UInt8} {D : Nat} {w : World} (hD : D < 256) (h : Lib.BuilderAt 98 5 B b (.pointer (some ⟨b, 0, none⟩)) (Lib.byteCells o ++ [Value.int .u8 (D : Int)]) w) : Lib.IsBuilder 98 5 B b (Lib.byteCells (o ++ [UInt8.ofNat D])) w := by
 have e5 : (UInt8.ofNat D).toNat = D := by simp; omega
 rw [Lib.byteCells_append]
 exact Or.inr (by simpa [Lib.byteCells, e5] using h)
def text_Decode.f (a0 : ByteArray) : Option (ByteArray × Int) := if a0.size ≤ 35184372088832 then some (if (decR (bl a0)).2 then (ba (decR (bl a0)).1, 0) else (ba [], 2)) else none
theorem u32_or6 (x y : Nat) (hx : x < 4294967296) (h : x % 64 = 0) (hy : y < 64) : bits .or .u32 (x : Int) (y : Int) = ((x + y : Nat) : Int) := by
 have := bits_join .u32 32 (by decide) wraps_u32 6 (x : Int) (y : Int) (by omega) (by omega) (by omega) (by omega) (by omega) (by omega)
 rw [this]
 omega
set_option maxHeartbeats 8000000 in
set_option maxRecDepth 100000 in
theorem text_Decode.calls (a0 : ByteArray) (r1 : ByteArray) (r2 : Int) (w : World) (h : text_Decode.f a0 = some (r1, r2)) :
  Calls Tryd.prog 50 #[.string a0] w fun e w' => e = .returned (.tuple #[.string r1, .int .i64 r2]) ∧ Below w.heap.size w w' := by
 unfold text_Decode.f at h
 split at h
 case isFalse => cases h
 rename_i hs
 have H := Aside0.mk (Option.some.inj h)
 clear h
 go_enter Tryd.func50, Tryd.ntmps50
 go_wp2
 go_loopw [5, 6, 11] (fun vb vh vi wr => ∃ (k B : Nat) (s : ES), k ≤ a0.size ∧ vi = .int .i64 k ∧ vb = .int .u32 B ∧ vh = .int .i64 s.have_ ∧ Aside0 (dSt ⟨[], 0, 0⟩ ((bl a0).take k) = some s) ∧ Aside0 (DKeep s B) ∧
  Aside0 (Lib.IsBuilder 98 5 w.heap.size w.heap.size (Lib.byteCells s.out) wr) ∧ Aside0 (Below w.heap.size w wr)) (fun _ _ i _ => a0.size - (intOf i).toNat)
 case atStart =>
  exact ⟨0, 0, ⟨[], 0, 0⟩, Nat.zero_le _, rfl, rfl, rfl, ⟨rfl⟩, ⟨by decide, fun h => (by cases h), fun h => (by cases h), fun h => (by cases h)⟩, ⟨Lib.fresh_isBuilder 98 5 w⟩, ⟨(Below.refl _ w).alloc (Nat.le_refl _) _⟩⟩
 case round =>
  obtain ⟨k, B, s, hk, rfl, rfl, rfl, HS, HV, HI, HB⟩ := hrel
  have hok : DOk s k := dOk_take (bl a0) k (by rw [bl_length]; exact hk) s HS.out
  have hlen := hok.len
  have hBw : w.heap.size ≤ wr.heap.size := HB.out.size
  have hbl : (Lib.byteCells s.out).length ≤ k := by rw [Lib.byteCells_length]; omega
  by_cases hlt : k < a0.size
  ·have hltd : decide ((k : Int) < (a0.size : Int)) = true := decide_eq_true (by omega)
   have hts := dSt_snoc ⟨[], 0, 0⟩ ((bl a0).take k) ((bl a0)[k]'(by rw [bl_length]; exact hlt))
   rw [← List.take_succ_eq_append_getElem (by rw [bl_length]; exact hlt), HS.out, Option.bind_some] at hts
   have hg : (bl a0)[k]'(by rw [bl_length]; exact hlt) = a0[k]'hlt := rfl
   rw [hg] at hts
   have HT := Aside0.mk hts
   clear hts hg
   generalize hc : a0[k]'hlt = c at HT
   have hcb := c.toNat_lt
   have hlr := letter_range c
   have HD := Aside0.mk (show Lib.indexByte (⟨#[65, 66, 67, 68, 69, 70, 71, 72, 73, 74, 75, 76, 77, 78, 79, 80, 81, 82, 83, 84, 85, 86, 87, 88, 89, 90, 97, 98, 99, 100, 101, 102, 103, 104, 105, 106, 107, 108, 109, 110, 111, 112, 113, 114, 115, 116, 117, 118, 119, 120, 121, 122, 48, 49, 50, 51, 52, 53, 54, 55, 56, 57, 45, 95]⟩ : ByteArray).data.toList ((c.toNat : Int)).toNat.toUInt8 = letter c from by simp [letter, alphaB])
   by_cases hneg : letter c < 0
   ·have HN := Aside0.mk (decR_none (l := bl a0) (k := k + 1) (by rw [HT.out, if_pos hneg]))
    have hneg' : letter c = -1 := by omega
    rw [hneg'] at HD
    clear hneg hneg' hlr HT
    go_wp2_with fail
    refine (Tryd.strings_IndexByte _ _ _).mono ?_
    rw [HD.out]
    rintro e w' ⟨rfl, rfl⟩
    go_wp2
    go_ret2
    exact ⟨by have := H.out; rw [HN.out] at this; simp only [Prod.mk.injEq] at this; obtain ⟨rfl, rfl⟩ := this; rfl, HB.out⟩
   ·obtain ⟨d, hd⟩ : ∃ d : Nat, letter c = (d : Int) := ⟨(letter c).toNat, by omega⟩
    rw [hd] at HD
    have hd64 : d < 64 := by omega
    have HT2 := Aside0.mk (show dSt ⟨[], 0, 0⟩ ((bl a0).take (k + 1)) = some (dStep s d) from by rw [HT.out, if_neg hneg, hd]; simp)
    have HK2 := Aside0.mk (dkeep_step hok HV.out hd64)
    obtain ⟨M, hM⟩ : ∃ M : Nat, M = B * 64 % 4294967296 := ⟨_, rfl⟩
    have hMi : (B : Int) * 64 % 4294967296 = (M : Int) := by omega
    have hdi : (d : Int) % 4294967296 = (d : Int) := by omega
    have hor := u32_or6 M d (by omega) (by omega) (by omega)
    rw [← hM] at HK2
    obtain ⟨B', hB'⟩ : ∃ B' : Nat, B' = M + d := ⟨_, rfl⟩
    have hB2 : B' < 4294967296 := by omega
    rw [← hB'] at hor HK2
    have HM := Aside0.mk (And.intro hM hB')
    have HVo := Aside0.mk HV.out
    clear hneg hd hlr HT hM hB' HV
    obtain ⟨so, sh, sv⟩ := s
    have hst := hok.st
    dsimp only at hst hlen hbl HI ⊢
    rcases hst with ⟨rfl, rfl⟩ | ⟨rfl, hv⟩ | ⟨rfl, hv⟩ | ⟨rfl, hv⟩
    ·go_wp2_with fail
     refine (Tryd.strings_IndexByte _ _ _).mono ?_
     rw [HD.out]
     rintro e w' ⟨rfl, rfl⟩
     go_wp2
     go_roundw
     case rel => exact ⟨k + 1, B', dStep ⟨so, 0, 0⟩ d, by omega, by go_num, rfl, rfl, HT2, HK2, HI, HB⟩
     case measure => simp [intOf]; omega
    ·have hkeep := HVo.out.2.1 rfl
     dsimp only at hkeep
     have hm := HM.out
     obtain ⟨D, hD⟩ : ∃ D : Nat, D = (sv * 64 + d) % 256 := ⟨_, rfl⟩
     have hDB : D = B' % 256 := by omega
     have hDi : (B' : Int) % 256 = (D : Int) := by omega
     have hD256 : D < 256 := by omega
     have hds : dStep ⟨so, 2, sv⟩ d = ⟨so ++ [UInt8.ofNat D], 0, 0⟩ := by
      unfold dStep
      rw [if_neg (by simp), if_neg (by simp), if_neg (by simp)]
      rw [hD]
     rw [hds] at HT2 HK2
     clear hm hkeep hD hDB hds
     go_wp2_with fail
     refine (Tryd.strings_IndexByte _ _ _).mono ?_
     rw [HD.out]
     rintro e w' ⟨rfl, rfl⟩
     go_wp2_with fail
     refine (Sh.Builder_WriteByte w.heap.size w.heap.size _ _ _ HI.out (by omega) hBw).mono ?_
     rintro e w2 ⟨rfl, h2, hb2⟩
     have H2 := Aside0.mk h2
     have HB2 := Aside0.mk (HB.out.trans hb2)
     clear h2 hb2
     go_wp2
     go_roundw
     case rel => exact ⟨k + 1, B', _, by omega, by go_num, rfl, rfl, HT2, HK2, ⟨wrote hD256 H2.out⟩, HB2⟩
     case measure => simp [intOf]; omega
    ·have hkeep := HVo.out.2.2.1 rfl
     dsimp only at hkeep
     have hm := HM.out
     obtain ⟨D, hD⟩ : ∃ D : Nat, D = (sv * 64 + d) / 4 % 256 := ⟨_, rfl⟩
     have hDB : D = B' / 4 % 256 := by omega
     have hDi : (B' : Int) / 4 % 256 = (D : Int) := by omega
     have hD256 : D < 256 := by omega
     have hds : dStep ⟨so, 4, sv⟩ d = ⟨so ++ [UInt8.ofNat D], 2, (sv * 64 + d) % 4⟩ := by
      unfold dStep
      rw [if_neg (by simp), if_neg (by simp), if_pos rfl]
      rw [hD]
     rw [hds] at HT2 HK2
     clear hm hkeep hD hDB hds
     go_wp2_with fail
     refine (Tryd.strings_IndexByte _ _ _).mono ?_
     rw [HD.out]
     rintro e w' ⟨rfl, rfl⟩
     go_wp2_with fail
     refine (Sh.Builder_WriteByte w.heap.size w.heap.size _ _ _ HI.out (by omega) hBw).mono ?_
     rintro e w2 ⟨rfl, h2, hb2⟩
     have H2 := Aside0.mk h2
     have HB2 := Aside0.mk (HB.out.trans hb2)
     clear h2 hb2
     go_wp2
     go_roundw
     case rel => exact ⟨k + 1, B', _, by omega, by go_num, rfl, rfl, HT2, HK2, ⟨wrote hD256 H2.out⟩, HB2⟩
     case measure => simp [intOf]; omega
    ·have hkeep := HVo.out.2.2.2 rfl
     dsimp only at hkeep
     have hm := HM.out
     obtain ⟨D, hD⟩ : ∃ D : Nat, D = (sv * 64 + d) / 16 % 256 := ⟨_, rfl⟩
     have hDB : D = B' / 16 % 256 := by omega
     have hDi : (B' : Int) / 16 % 256 = (D : Int) := by omega
     have hD256 : D < 256 := by omega
     have hds : dStep ⟨so, 6, sv⟩ d = ⟨so ++ [UInt8.ofNat D], 4, (sv * 64 + d) % 16⟩ := by
      unfold dStep
      rw [if_neg (by simp), if_pos rfl]
      rw [hD]
     rw [hds] at HT2 HK2
     clear hm hkeep hD hDB hds
     go_wp2_with fail
     refine (Tryd.strings_IndexByte _ _ _).mono ?_
     rw [HD.out]
     rintro e w' ⟨rfl, rfl⟩
     go_wp2_with fail
     refine (Sh.Builder_WriteByte w.heap.size w.heap.size _ _ _ HI.out (by omega) hBw).mono ?_
     rintro e w2 ⟨rfl, h2, hb2⟩
     have H2 := Aside0.mk h2
     have HB2 := Aside0.mk (HB.out.trans hb2)
     clear h2 hb2
     go_wp2
     go_roundw
     case rel => exact ⟨k + 1, B', _, by omega, by go_num, rfl, rfl, HT2, HK2, ⟨wrote hD256 H2.out⟩, HB2⟩
     case measure => simp [intOf]; omega
  ·have hke : k = a0.size := by omega
   have ht : (bl a0).take k = bl a0 := List.take_of_length_le (by rw [bl_length]; omega)
   rw [ht] at HS
   have hr := decR_some HS.out
   have hlo : s.out.length ≤ a0.size := by omega
   have hef : text_Encode.f (⟨s.out.toArray⟩ : ByteArray) = some (ba (encL s.out)) := by
    unfold text_Encode.f
    rw [if_pos (by show s.out.length ≤ 35184372088832; omega)]
    simp [bl]
   have HE := Aside0.mk hef
   have HR := Aside0.mk hr
   clear ht HS hr hef hok hlen HV
   go_wp2_with fail
   refine (ShF.Builder_String_any_f w.heap.size w.heap.size _ _ (Lib.IsBuilderF.of HI.out) hBw).mono ?_
   rintro e w1 ⟨rfl, hi1, hb1⟩
   have HI1 := Aside0.mk hi1
   have HB1 := Aside0.mk (HB.out.trans hb1)
   clear hi1 hb1
   have hBw1 : w.heap.size ≤ w1.heap.size := HB1.out.size
   go_wp2_with fail
   refine (text_Encode.calls _ _ w1 HE.out).mono ?_
   rintro e w2 ⟨rfl, hb2⟩
   have HI2 := Aside0.mk (keptF HI1.out hb2)
   have HB2 := Aside0.mk (below_then HB1.out hBw1 hb2)
   clear hb2 HI1
   have hBw2 : w.heap.size ≤ w2.heap.size := HB2.out.size
   by_cases heq : encL s.out = bl a0
   ·have hq : ba (encL s.out) = a0 := by rw [heq]; simp
    have HQ := Aside0.mk (show (r1, r2) = (ba s.out, (0 : Int)) from by rw [← H.out, HR.out, decide_eq_true heq]; simp)
    rw [hq]
    clear heq hq HE HR
    go_wp2_with fail
    refine (ShF.Builder_String_any_f w.heap.size w.heap.size _ _ HI2.out hBw2).mono ?_
    rintro e w3 ⟨rfl, hi3, hb3⟩
    have HB3 := Aside0.mk (HB2.out.trans hb3)
    clear hi3 hb3
    go_wp2
    go_ret2
    exact ⟨by have := HQ.out; simp only [Prod.mk.injEq] at this; obtain ⟨rfl, rfl⟩ := this; rfl, HB3.out⟩
   ·have hne : ((ba (encL s.out)).toList == a0.toList) = false := by
     rw [beq_eq_false_iff_ne]
     intro h
     rw [toList_bl, toList_bl, bl_ba] at h
     exact heq h
    have HQ := Aside0.mk (show (r1, r2) = (ba [], (2 : Int)) from by rw [← H.out, HR.out, decide_eq_false heq]; simp)
    clear heq HE HR
    generalize ba (encL s.out) = t at hne
    have hne2 : (t.toList != a0.toList) = true := by rw [bne, hne]; rfl
    go_wp2
    go_ret2
    exact ⟨by have := HQ.out; simp only [Prod.mk.injEq] at this; obtain ⟨rfl, rfl⟩ := this; rfl, HB2.out⟩
end Go.Proofs.YtmhaaggmfgojbaaDoor.X
