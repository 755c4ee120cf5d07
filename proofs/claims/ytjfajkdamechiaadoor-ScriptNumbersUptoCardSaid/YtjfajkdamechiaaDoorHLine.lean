/- A step's line: what script.line answers, plain. -/
import Derived.Test.YtjfajkdamechiaaDoorX4
import Derived.Test.YtjfajkdamechiaaDoorHEv
import Derived.Lib.ItoaLen
namespace Go.Proofs.YtjfajkdamechiaaDoor.X
open Go.RowKit Go.Proofs.YtjfajkdamechiaaDoorW.PrintWords Go.Proofs.YtjfajkdamechiaaDoorW.PrintLast Go.Proofs.YtjfajkdamechiaaDoorW.PrintMore Go.Proofs.YtjfajkdamechiaaDoor.Spec
set_option linter.unusedVariables false
set_option linter.unusedSimpArgs false

def wordL (t : ByteArray) : List UInt8 := 120 :: encL (bl t)
def wB (t : ByteArray) : ByteArray := ba (wordL t)
/-- a step's texts, as they stand in its line -/
def stW (s : S36) : List ByteArray := [s.f2.f0, s.f2.f1, s.f2.f2, s.f2.f3, s.f2.f4, s.f2.f5, s.f3, s.f4, s.f5, s.f6] ++ s.f7
def tailL (l : List ByteArray) : List UInt8 := l.flatMap fun t => 32 :: wordL t
/-- its line, without the end -/
def lineB (s : S36) : List UInt8 := Lib.itoa s.f0 ++ 32 :: (Lib.itoa s.f1 ++ tailL (stW s))
def lineL (s : S36) : List UInt8 := lineB s ++ [10]
def szs (l : List ByteArray) : Nat := (l.map fun t => t.size + 1).sum
def in64 (n : Int) : Prop := -9223372036854775808 ≤ n ∧ n ≤ 9223372036854775807
def stOk (s : S36) : Prop := in64 s.f0 ∧ in64 s.f1 ∧ szs (stW s) ≤ 1000000000000
instance (n : Int) : Decidable (in64 n) := by unfold in64; exact inferInstance
instance (s : S36) : Decidable (stOk s) := by unfold stOk; exact inferInstance
theorem szs_cons (t : ByteArray) (l : List ByteArray) : szs (t :: l) = t.size + 1 + szs l := by simp [szs]
theorem szs_len (l : List ByteArray) : l.length ≤ szs l := by
  induction l with
  | nil => simp
  | cons t r ih => rw [szs_cons, List.length_cons]; omega
theorem szs_mem {t : ByteArray} {l : List ByteArray} (h : t ∈ l) : t.size ≤ szs l := by
  induction l with
  | nil => cases h
  | cons x r ih =>
    rw [szs_cons]
    rcases List.mem_cons.1 h with rfl | h
    · omega
    · have := ih h; omega
theorem tailL_length (l : List ByteArray) : (tailL l).length ≤ 3 * szs l := by
  induction l with
  | nil => simp [tailL]
  | cons t r ih =>
    have := encL_length (bl t)
    rw [bl_length] at this
    rw [szs_cons]
    simp only [tailL, List.flatMap_cons, List.length_append, List.length_cons, wordL] at *
    omega
theorem word_f (t : ByteArray) (h : t.size ≤ 1000000000000) : script_word.f t = some (wB t) := by
  have hl := encL_length (bl t)
  rw [bl_length] at hl
  unfold script_word.f text_Encode.f
  rw [if_pos (by omega), Option.bind_some, if_pos (by rw [size_ba]; omega)]
  refine congrArg some (bl_inj ?_)
  rw [bl_append, bl_ba, wB, bl_ba]
  rfl
theorem line_loop (l : List ByteArray) (hsz : szs l ≤ 1000000000000) (M : List ByteArray) (hJ : (Lib.join (M.map bl) [32]).length ≤ 10000000000000) (hM : M.length ≤ 2000000000000) :
    ∀ n i (acc : List ByteArray), i + n = l.length → acc ++ (l.drop i).map wB = M → Ev (fun k => script_line.l0 k acc l (l.length : Int) (i : Int)) (ba (Lib.join (M.map bl) [32] ++ [10])) := by
  have hl := szs_len l
  intro n
  induction n with
  | zero =>
    intro i acc hi ha
    rw [List.drop_of_length_le (by omega), List.map_nil, List.append_nil] at ha
    subst ha
    refine Ev.step (fun k => by rw [script_line.l0]) ?_
    refine Ev.if_neg (by omega) ?_
    refine Ev.const ?_
    unfold strings_Join.f
    rw [show bl (⟨#[32]⟩ : ByteArray) = [32] from rfl, if_pos ⟨by omega, by omega⟩, Option.bind_some, if_pos (by rw [size_ba]; omega)]
    refine congrArg some (bl_inj ?_)
    rw [bl_append, bl_ba, bl_ba]
    rfl
  | succ n ih =>
    intro i acc hi ha
    have hlt : i < l.length := by omega
    have hd : l.drop i = l[i]'hlt :: l.drop (i + 1) := List.drop_eq_getElem_cons hlt
    have hal : acc.length + (l.length - i) = M.length := by rw [← ha]; simp
    refine Ev.step (fun k => by rw [script_line.l0]) ?_
    refine Ev.if_pos (by omega) (Ev.if_pos (by omega) (Ev.if_pos (by omega) ?_))
    have hr : rdOf ByteArray.empty l (i : Int) = l[i]'hlt := by simp [rdOf, List.getD_eq_getElem?_getD, List.getElem?_eq_getElem hlt]
    have hm := szs_mem (List.getElem_mem hlt)
    rw [hr, word_f _ (by omega)]
    simp only [Option.bind_some]
    refine Ev.if_pos (by omega) ?_
    rw [w64 (n := (i : Int) + 1) (by omega) (by omega), show (i : Int) + 1 = ((i + 1 : Nat) : Int) from by omega]
    refine ih (i + 1) _ (by omega) ?_
    rw [← ha, hd, List.map_cons, List.append_assoc]
    rfl
theorem joinTail_words (l : List ByteArray) : Lib.joinTail [32] ((l.map wB).map bl) = tailL l := by
  induction l with
  | nil => rfl
  | cons t r ih =>
    simp only [Lib.joinTail, List.map_cons, List.flatten_cons, tailL, List.flatMap_cons] at *
    rw [ih, wB, bl_ba]
    rfl
theorem join_line (s : S36) : Lib.join (([ba (Lib.itoa s.f0), ba (Lib.itoa s.f1)] ++ (stW s).map wB).map bl) [32] = lineB s := by
  simp only [List.cons_append, List.nil_append, List.map_cons, bl_ba]
  rw [Lib.join_cons]
  unfold lineB
  have := joinTail_words (stW s)
  simp only [Lib.joinTail, List.map_cons, List.flatten_cons] at *
  rw [this]
  simp
theorem itoa_short (n : Int) (h : in64 n) : (Lib.itoa n).length ≤ 21 := by
  have := Lib.itoa_length_le n h.1 h.2
  omega
theorem lineB_length (s : S36) (h : stOk s) : (lineB s).length ≤ 3 * szs (stW s) + 43 := by
  have h1 := itoa_short _ h.1
  have h2 := itoa_short _ h.2.1
  have h3 := tailL_length (stW s)
  simp only [lineB, List.length_append, List.length_cons]
  omega
theorem line_ev (s : S36) (h : stOk s) : Ev (fun k => script_line.f k s.f0 s.f1 s.f2.f0 s.f2.f1 s.f2.f2 s.f2.f3 s.f2.f4 s.f2.f5 s.f3 s.f4 s.f5 s.f6 s.f7) (ba (lineL s)) := by
  have hb := lineB_length s h
  have hs := h.2.2
  have hl := szs_len (stW s)
  have h7 : s.f7.length + 10 = (stW s).length := by simp [stW]
  unfold script_line.f strconv_Itoa_22.f
  have i1 : -9223372036854775808 ≤ s.f0 ∧ s.f0 ≤ 9223372036854775807 := h.1
  have i2 : -9223372036854775808 ≤ s.f1 ∧ s.f1 ≤ 9223372036854775807 := h.2.1
  simp only [if_pos i1, if_pos i2]
  simp only [Option.bind_some]
  refine Ev.if_pos (by simp only [List.length_cons, List.length_nil]; omega) ?_
  have := line_loop (stW s) hs ([ba (Lib.itoa s.f0), ba (Lib.itoa s.f1)] ++ (stW s).map wB) (by rw [join_line]; omega) (by simp only [List.length_append, List.length_map, List.length_cons, List.length_nil]; omega) (stW s).length 0 [ba (Lib.itoa s.f0), ba (Lib.itoa s.f1)] (by omega) rfl
  rw [join_line] at this
  exact this
end Go.Proofs.YtjfajkdamechiaaDoor.X
