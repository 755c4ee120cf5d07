/- A line's step, plain: what script.step answers. -/
import Derived.Test.YtjfajkdamechiaaDoorHLine
import Derived.Test.YtjfajkdamechiaaDoorHTx
import Derived.Test.YtjfajkdamechiaaDoorHSpl
namespace Go.Proofs.YtjfajkdamechiaaDoor.X
open Go.RowKit Go.Proofs.YtjfajkdamechiaaDoorW.PrintWords Go.Proofs.YtjfajkdamechiaaDoorW.PrintLast Go.Proofs.YtjfajkdamechiaaDoorW.PrintMore Go.Proofs.YtjfajkdamechiaaDoor.Spec
set_option linter.unusedVariables false
set_option linter.unusedSimpArgs false

def inner (w : List UInt8) : List UInt8 := Lib.trimPrefix w [120]
def isWord (w : List UInt8) : Bool := Lib.hasPrefix w [120] && (decR (inner w)).2
def wdG : List (List UInt8) → Option (List ByteArray)
  | [] => some []
  | w :: r => if isWord w = true then (wdG r).map (ba (decR (inner w)).1 :: ·) else none
def mkS (a n : Int) (t : List ByteArray) : S36 :=
  ⟨a, n, ⟨t.getD 0 ByteArray.empty, t.getD 1 ByteArray.empty, t.getD 2 ByteArray.empty, t.getD 3 ByteArray.empty, t.getD 4 ByteArray.empty, t.getD 5 ByteArray.empty⟩, t.getD 6 ByteArray.empty, t.getD 7 ByteArray.empty, t.getD 8 ByteArray.empty, t.getD 9 ByteArray.empty, t.drop 10⟩
def stepEnd (s : List UInt8) (k0 k1 : Int) (o0 o1 : Bool) : Option (List ByteArray) → S36 × Bool
  | none => (z36, false)
  | some t => (mkS k0 k1 t, o0 && o1 && decide (lineL (mkS k0 k1 t) = s ++ [10]))
def stepOf (s : List UInt8) (P : List (List UInt8)) : S36 × Bool :=
  if P.length < 12 then (z36, false) else stepEnd s (atv (P.getD 0 [])) (atv (P.getD 1 [])) (atOk (P.getD 0 [])) (atOk (P.getD 1 [])) (wdG (P.drop 2))
def stepR (s : List UInt8) : S36 × Bool := stepOf s (splitL 32 s)
theorem inner_length (w : List UInt8) : (inner w).length ≤ w.length := by
  unfold inner Lib.trimPrefix
  split <;> simp
theorem word_size (w : List UInt8) : (ba (decR (inner w)).1).size ≤ w.length := by
  rw [size_ba]
  have h := inner_length w
  unfold decR
  cases hd : decL (inner w) with
  | none => simp
  | some o =>
    have := decL_length _ _ hd
    simp only; omega
theorem wdG_len : ∀ (l : List (List UInt8)) (t : List ByteArray), wdG l = some t → t.length = l.length ∧ szs t ≤ (l.map fun w => w.length + 1).sum
  | [], t, h => by obtain rfl := Option.some.inj h; exact ⟨rfl, Nat.le_refl _⟩
  | w :: r, t, h => by
    unfold wdG at h
    split at h
    · obtain ⟨u, hu, rfl⟩ := Option.map_eq_some_iff.1 h
      obtain ⟨h1, h2⟩ := wdG_len r u hu
      have := word_size w
      rw [szs_cons]
      simp only [List.length_cons, List.map_cons, List.sum_cons]
      omega
    · cases h
theorem split_sum (c : UInt8) (l : List UInt8) : ((splitL c l).map fun w => w.length + 1).sum = l.length + 1 := by
  induction l with
  | nil => rfl
  | cons x r ih =>
    unfold splitL
    split
    · simp only [List.map_cons, List.sum_cons, List.length_nil, List.length_cons]; omega
    · cases hs : splitL c r with
      | nil => exact absurd hs (splitL_ne c r)
      | cons p ps =>
        rw [hs] at ih
        simp only [List.map_cons, List.sum_cons, List.length_cons] at ih ⊢
        omega
theorem sum_len (l : List (List UInt8)) : l.length ≤ (l.map fun w => w.length + 1).sum := by
  induction l with
  | nil => simp
  | cons w r ih => simp only [List.length_cons, List.map_cons, List.sum_cons]; omega
theorem sum_drop (l : List (List UInt8)) (k : Nat) : ((l.drop k).map fun w => w.length + 1).sum ≤ (l.map fun w => w.length + 1).sum := by
  have : (l.map fun w => w.length + 1).sum = ((l.take k).map fun w => w.length + 1).sum + ((l.drop k).map fun w => w.length + 1).sum := by
    conv => lhs; rw [← List.take_append_drop k l]
    rw [List.map_append, List.sum_append]
  omega
theorem sum_mem {w : List UInt8} {l : List (List UInt8)} (h : w ∈ l) : w.length ≤ (l.map fun w => w.length + 1).sum := by
  induction l with
  | nil => cases h
  | cons x r ih =>
    simp only [List.map_cons, List.sum_cons]
    rcases List.mem_cons.1 h with rfl | h
    · omega
    · have := ih h; omega
theorem mkS_words (a n : Int) (t : List ByteArray) (h : 10 ≤ t.length) : stW (mkS a n t) = t := by
  match t, h with
  | x0 :: x1 :: x2 :: x3 :: x4 :: x5 :: x6 :: x7 :: x8 :: x9 :: r, _ => rfl
theorem mkS_ok (a n : Int) (t : List ByteArray) (ha : in64 a) (hn : in64 n) (h : 10 ≤ t.length) (hs : szs t ≤ 1000000000000) : stOk (mkS a n t) :=
  ⟨ha, hn, by rw [mkS_words a n t h]; exact hs⟩
def script_step.f (s : ByteArray) : Option (Int × Int × ByteArray × ByteArray × ByteArray × ByteArray × ByteArray × ByteArray × ByteArray × ByteArray × ByteArray × ByteArray × List ByteArray × Bool) :=
  if s.size ≤ 1000000000 then some (let x := stepR (bl s); (x.1.f0, x.1.f1, x.1.f2.f0, x.1.f2.f1, x.1.f2.f2, x.1.f2.f3, x.1.f2.f4, x.1.f2.f5, x.1.f3, x.1.f4, x.1.f5, x.1.f6, x.1.f7, x.2)) else none
end Go.Proofs.YtjfajkdamechiaaDoor.X
