/- Ours: what uri.Parse and the reference's URI answer: the same. -/
import Derived.Test.YtjagjfmkfiikaaaDoorHPrint
import Derived.Test.YtjagjfmkfiikaaaDoorX7
import Derived.Test.YtjagjfmkfiikaaaDoorX6
import Derived.Test.YtjagjfmkfiikaaaDoorX8
namespace Go.Proofs.YtjagjfmkfiikaaaDoor.X
open Go.RowKit Go.Proofs.YtjagjfmkfiikaaaDoorW.PrintWords Go.Proofs.YtjagjfmkfiikaaaDoor.Spec
set_option linter.unusedVariables false
set_option linter.unusedSimpArgs false

/-! "://" -/
def css : List UInt8 := [58, 47, 47]
theorem cut_front (P R : List UInt8) (h : (58 : UInt8) ∉ P) : Lib.cut (P ++ (css ++ R)) css = (P, R, true) := by
  have hi : Lib.index (P ++ (css ++ R)) css = (P.length : Int) := by
    induction P with
    | nil =>
      show Lib.index (58 :: 47 :: 47 :: R) css = 0
      unfold Lib.index
      rw [if_pos (by simp [css, List.isPrefixOf])]
    | cons x P ih =>
      simp only [List.mem_cons, not_or] at h
      have := ih h.2
      rw [List.cons_append]
      unfold Lib.index
      have hx : ((58 : UInt8) == x) = false := beq_eq_false_iff_ne.2 h.1
      rw [if_neg (by simp [css, List.isPrefixOf, hx]), this]
      have : ((P.length : Int) == -1) = false := beq_eq_false_iff_ne.2 (by omega)
      rw [this]
      simp
  unfold Lib.cut
  rw [hi, if_pos (by omega), show ((P.length : Int)).toNat = P.length from by omega, List.take_left]
  rw [← List.append_assoc, show P.length + css.length = (P ++ css).length from by simp, List.drop_left]
theorem cut_back (l A B : List UInt8) (h : Lib.cut l css = (A, B, true)) : l = A ++ (css ++ B) := by
  unfold Lib.cut at h
  split at h
  · rename_i h0
    simp only [Prod.mk.injEq, and_true] at h
    obtain ⟨rfl, rfl⟩ := h
    rcases Lib.index_spec l css with ⟨hn, _⟩ | ⟨i, hi, hil, ho, _⟩
    · rw [hn] at h0; omega
    · rw [hi, show ((i : Nat) : Int).toNat = i from by omega]
      have hr : i + css.length ≤ l.length := by
        rcases Lib.occAt_room ho with h | h
        · exact h
        · simp [css] at h
      have ht := ho
      rw [Lib.occAt_iff_take l css i hr, beq_iff_eq] at ht
      conv => lhs; rw [← List.take_append_drop i l, ← List.take_append_drop css.length (l.drop i), ht, List.drop_drop]
  · simp at h

/-! the bytes that may be -/
def oddB : ByteArray := ⟨#[34, 35, 60, 62, 92, 94, 96, 123, 124, 125]⟩
def goodc (c : UInt8) : Bool := 33 ≤ c.toNat && c.toNat ≤ 126 && !((bl oddB).contains c)
def cleanL (l : List UInt8) : Bool := l.all goodc
theorem clean_from (s : ByteArray) (hz : s.size ≤ 4611686018427387904) : ∀ n i, i + n = s.size → Ev (fun k => uri_clean.l0 k s (s.size : Int) (i : Int)) (cleanL ((bl s).drop i)) := by
  intro n
  induction n with
  | zero =>
    intro i hi
    refine Ev.step (fun k => by rw [uri_clean.l0]) (Ev.if_neg (by omega) ?_)
    rw [List.drop_of_length_le (by rw [bl_length]; omega)]
    exact Ev.some _
  | succ n ih =>
    intro i hi
    have hlt : i < s.size := by omega
    have hb : i < (bl s).length := by rw [bl_length]; exact hlt
    obtain ⟨c, hc⟩ : ∃ c, (bl s)[i] = c := ⟨_, rfl⟩
    have hbt : bt s (i : Int) = (c.toNat : Int) := by rw [bt_get s i hlt, hc]
    refine Ev.step (fun k => by rw [uri_clean.l0]) (Ev.if_pos (by omega) (Ev.if_pos (by omega) (Ev.if_pos (by omega) ?_)))
    rw [hbt, List.drop_eq_getElem_cons hb, hc]
    have hcl : cleanL (c :: (bl s).drop (i + 1)) = (goodc c && cleanL ((bl s).drop (i + 1))) := rfl
    rw [hcl]
    by_cases h1 : (c.toNat : Int) < 33
    · refine Ev.if_pos h1 ((Ev.some _).uni ?_)
      have : goodc c = false := by unfold goodc; rw [decide_eq_false (by omega)]; rfl
      rw [this]; rfl
    refine Ev.if_neg h1 ?_
    by_cases h2 : (c.toNat : Int) > 126
    · refine Ev.if_pos h2 ((Ev.some _).uni ?_)
      have : goodc c = false := by unfold goodc; rw [decide_eq_false (show ¬ c.toNat ≤ 126 by omega)]; simp
      rw [this]; rfl
    refine Ev.if_neg h2 (Ev.bind (Ev.const (x := Lib.indexByte (bl oddB) c) ?_) ?_)
    · unfold strings_IndexByte.f
      rw [show ((c.toNat : Int)).toNat = c.toNat from by omega, back8]; rfl
    rw [indexByte_eq]
    by_cases h3 : c ∈ bl oddB
    · rw [if_pos h3]
      refine Ev.if_pos (by omega) ((Ev.some _).uni ?_)
      have : goodc c = false := by unfold goodc; rw [List.contains_iff_mem.2 h3]; simp
      rw [this]; rfl
    · rw [if_neg h3]
      refine Ev.if_neg (by omega) ?_
      have : goodc c = true := by
        unfold goodc
        have hf : (bl oddB).contains c = false := by
          cases h : (bl oddB).contains c with
          | false => rfl
          | true => exact absurd (List.contains_iff_mem.1 h) h3
        rw [hf, decide_eq_true (show 33 ≤ c.toNat by omega), decide_eq_true (show c.toNat ≤ 126 by omega)]; rfl
      rw [this, Bool.true_and, w64 (by omega) (by omega)]
      exact ih (i + 1) (by omega)
theorem clean_f (s : ByteArray) (hz : s.size ≤ 4611686018427387904) : Ev (fun k => uri_clean.f k s) (cleanL (bl s)) := by
  exact (clean_from s hz s.size 0 (by simp)).uni (by simp)

/-! the host -/
def hostB : ByteArray := ⟨#[97, 98, 99, 100, 101, 102, 103, 104, 105, 106, 107, 108, 109, 110, 111, 112, 113, 114, 115, 116, 117, 118, 119, 120, 121, 122, 48, 49, 50, 51, 52, 53, 54, 55, 56, 57, 45, 46, 58]⟩
def hostc (c : UInt8) : Bool := (97 ≤ c.toNat && c.toNat ≤ 122) || (48 ≤ c.toNat && c.toNat ≤ 57) || c.toNat == 45 || c.toNat == 46 || c.toNat == 58
theorem host_fin : ∀ n : Fin 256, (bl hostB).contains n.val.toUInt8 = hostc n.val.toUInt8 := by decide +kernel
theorem host_has (c : UInt8) : (bl hostB).contains c = hostc c := by
  have h := host_fin ⟨c.toNat, c.toNat_lt⟩
  simp only [back8] at h
  exact h
theorem dropWhile_nil {p : UInt8 → Bool} {l : List UInt8} : l.dropWhile p = [] ↔ l.all p = true := by
  induction l with
  | nil => simp
  | cons x r ih => rw [List.dropWhile_cons]; split <;> rename_i h <;> simp_all
theorem dropWhile_last {p : UInt8 → Bool} {l : List UInt8} (h : l.dropWhile p ≠ []) : ∃ x, x ∈ l.dropWhile p ∧ p x = false := by
  induction l with
  | nil => simp at h
  | cons x r ih =>
    rw [List.dropWhile_cons] at h ⊢
    split
    · rename_i hx; rw [if_pos hx] at h; exact ih h
    · rename_i hx; exact ⟨x, by simp, by simpa using hx⟩
theorem trim_nil (l cs : List UInt8) : Lib.trimS l cs = [] ↔ l.all (cs.contains ·) = true := by
  unfold Lib.trimS Lib.trimLeftS Lib.trimRightS
  constructor
  · intro h
    rw [dropWhile_nil] at h
    by_cases hn : l.reverse.dropWhile (cs.contains ·) = []
    · have := dropWhile_nil.1 hn
      simpa using this
    · obtain ⟨x, hx, hp⟩ := dropWhile_last hn
      have := List.all_eq_true.1 h x (by simpa using hx)
      rw [hp] at this; cases this
  · intro h
    have : l.reverse.dropWhile (cs.contains ·) = [] := dropWhile_nil.2 (by simpa using h)
    rw [this]; rfl
theorem drop_pre (c : UInt8) (l : List UInt8) : l.drop (pre c l).length = if c ∈ l then c :: post c l else [] := by
  by_cases h : c ∈ l
  · rw [if_pos h]
    have := congrArg (List.drop (pre c l).length) (pre_post h)
    rw [this, List.drop_left]
  · rw [if_neg h, pre_of_not_mem h]; simp

abbrev U := ByteArray × ByteArray × ByteArray × ByteArray × Int
def bad : U := (⟨#[]⟩, ⟨#[]⟩, ⟨#[]⟩, ⟨#[]⟩, 2)
/-- the parts behind the scheme -/
def tailU (sch : ByteArray) (r : List UInt8) : U :=
  if pre 47 (pre 63 r) = [] ∨ (pre 47 (pre 63 r)).all hostc = false then bad
  else (sch, ba (pre 47 (pre 63 r)), ba ((pre 63 r).drop (pre 47 (pre 63 r)).length), ba (post 63 r), 0)
theorem bt_host (h : ByteArray) (k : Nat) (a p q : ByteArray) (i : Nat) (hi : i < h.size) (c : UInt8) (hc : bt h (i : Int) = (c.toNat : Int)) (hz : h.size ≤ 4611686018427387904) :
    exequaturref01_URI.l1 (k + 1) (i : Int) a h p q = if hostc c = true then exequaturref01_URI.l1 k ((i + 1 : Nat) : Int) a h p q else some bad := by
  rw [exequaturref01_URI.l1, if_pos (by omega), if_pos (by omega), hc, w64 (by omega) (by omega)]
  have e : ((i : Int) + 1) = ((i + 1 : Nat) : Int) := rfl
  rw [e]
  have h256 := c.toNat_lt
  by_cases hh : hostc c = true
  · rw [if_pos hh]
    unfold hostc at hh
    simp only [Bool.or_eq_true, Bool.and_eq_true, decide_eq_true_eq, beq_iff_eq] at hh
    repeat' split
    all_goals (first | rfl | (exfalso; omega))
  · rw [if_neg hh]
    unfold hostc at hh
    simp only [Bool.or_eq_true, Bool.and_eq_true, decide_eq_true_eq, beq_iff_eq] at hh
    repeat' split
    all_goals (first | rfl | (exfalso; omega))
theorem host_from (h : ByteArray) (hz : h.size ≤ 4611686018427387904) (a p q : ByteArray) : ∀ n i, i + n = h.size → Ev (fun k => exequaturref01_URI.l1 k (i : Int) a h p q) (if h.size = 0 ∨ ((bl h).drop i).all hostc = false then bad else (a, h, p, q, 0)) := by
  intro n
  induction n with
  | zero =>
    intro i hi
    refine Ev.step (fun k => by rw [exequaturref01_URI.l1]) (Ev.if_neg (by omega) ?_)
    rw [List.drop_of_length_le (by rw [bl_length]; omega)]
    by_cases h0 : h.toList = ([] : List UInt8)
    · have : h.size = 0 := by rw [toList_bl] at h0; rw [← bl_length, h0]; rfl
      rw [if_pos (Or.inl this)]
      exact Ev.if_pos h0 (Ev.some _)
    · have : h.size ≠ 0 := fun e => h0 (by rw [toList_bl]; exact List.length_eq_zero_iff.1 (by rw [bl_length]; exact e))
      rw [if_neg (show ¬ (h.size = 0 ∨ ([] : List UInt8).all hostc = false) from fun e => e.elim this (fun e => by cases e))]
      exact Ev.if_neg h0 (Ev.some _)
  | succ n ih =>
    intro i hi
    have hlt : i < h.size := by omega
    have hb : i < (bl h).length := by rw [bl_length]; exact hlt
    obtain ⟨c, hc⟩ : ∃ c, (bl h)[i] = c := ⟨_, rfl⟩
    have hbt : bt h (i : Int) = (c.toNat : Int) := by rw [bt_get h i hlt, hc]
    refine Ev.step (fun k => bt_host h k a p q i hlt c hbt hz) ?_
    rw [List.drop_eq_getElem_cons hb, hc, List.all_cons]
    by_cases hh : hostc c = true
    · rw [hh, Bool.true_and]
      exact Ev.if_pos rfl (ih (i + 1) (by omega))
    · have hf : hostc c = false := by simpa using hh
      rw [hf, Bool.false_and, if_pos (Or.inr rfl)]
      exact Ev.if_neg (by simp) (Ev.some _)

theorem bl_sub (s : ByteArray) (i j : Nat) : bl (s.extract i j) = ((bl s).take j).drop i := by
  rw [show bl (s.extract i j) = (s.extract i j).data.toList from rfl, Lib.extract_eq, List.drop_take]; rfl
theorem bl_from (s : ByteArray) (i : Nat) : bl (s.extract i s.size) = (bl s).drop i := by
  rw [bl_sub, List.take_of_length_le (by rw [bl_length]; exact Nat.le_refl _)]

/-! the tail, by the reference -/
theorem j3_f (sch main q e1 e2 : ByteArray) (hz : main.size ≤ 4611686018427387904) : Ev (fun k => exequaturref01_URI.j3 k main sch e1 e2 q) (if pre 47 (bl main) = [] ∨ (pre 47 (bl main)).all hostc = false then bad else (sch, ba (pre 47 (bl main)), ba ((bl main).drop (pre 47 (bl main)).length), q, 0)) := by
  have hp := pre_length_le 47 (bl main)
  rw [bl_length] at hp
  refine Ev.step (fun k => by rw [exequaturref01_URI.j3]) ?_
  refine Ev.bind (ref_at main 47 hz) (Ev.if_pos (by omega) (Ev.if_pos (by omega) ?_))
  rw [show ((((pre 47 (bl main)).length : Nat) : Int)).toNat = (pre 47 (bl main)).length from by omega]
  have e1' : main.extract 0 (pre 47 (bl main)).length = ba (pre 47 (bl main)) := bl_inj (by rw [pre_extract_any, bl_ba])
  have e2' : main.extract (pre 47 (bl main)).length main.size = ba ((bl main).drop (pre 47 (bl main)).length) := bl_inj (by rw [bl_from, bl_ba])
  rw [e1', e2']
  refine (host_from (ba (pre 47 (bl main))) (by rw [size_ba]; omega) sch (ba ((bl main).drop (pre 47 (bl main)).length)) q _ 0 (by simp; rfl)).uni ?_
  rw [size_ba, bl_ba, List.drop_zero]
  have hh : (pre 47 (bl main)).length = 0 ↔ pre 47 (bl main) = [] := List.length_eq_zero_iff
  simp only [hh]
theorem tail_ref (sch rest e1 e2 : ByteArray) (hz : rest.size ≤ 4611686018427387000) : Ev (fun k => exequaturref01_URI.j2 k rest sch e1 e2 (⟨#[]⟩ : ByteArray)) (tailU sch (bl rest)) := by
  have hp := pre_length_le 63 (bl rest)
  rw [bl_length] at hp
  refine Ev.step (fun k => by rw [exequaturref01_URI.j2]) ?_
  refine Ev.bind (ref_at rest 63 (by omega)) ?_
  by_cases hm : (63 : UInt8) ∈ bl rest
  · have hlt := pre_lt_iff.2 hm
    rw [bl_length] at hlt
    rw [w64 (by omega) (by omega)]
    refine Ev.if_pos (by omega) (Ev.if_pos (by omega) (Ev.if_pos (by omega) (Ev.if_pos (by omega) (Ev.if_pos (by omega) ?_))))
    rw [show ((((pre 63 (bl rest)).length : Nat) : Int)).toNat = (pre 63 (bl rest)).length from by omega, show ((((pre 63 (bl rest)).length : Nat) : Int) + 1).toNat = (pre 63 (bl rest)).length + 1 from by omega]
    have e1' : rest.extract 0 (pre 63 (bl rest)).length = ba (pre 63 (bl rest)) := bl_inj (by rw [pre_extract_any, bl_ba])
    rw [e1', ← post_extract rest 63 hm]
    refine (j3_f sch (ba (pre 63 (bl rest))) _ e1 e2 (by rw [size_ba]; omega)).uni ?_
    rw [bl_ba]; rfl
  · have hn : ¬ ((((pre 63 (bl rest)).length : Nat) : Int) < (rest.size : Int)) := by rw [pre_of_not_mem hm, bl_length]; omega
    refine Ev.if_neg hn ((j3_f sch rest _ e1 e2 (by omega)).uni ?_)
    unfold tailU
    rw [pre_of_not_mem hm, post_of_not_mem hm]; rfl

/-! the tail, by the program -/
theorem cut1_f (s : ByteArray) (c : UInt8) (hz : s.size < 4294967281) : strings_Cut.f s ⟨#[c]⟩ = some (ba (pre c (bl s)), ba (post c (bl s)), decide (c ∈ bl s)) := by
  unfold strings_Cut.f
  rw [if_pos hz, show bl (⟨#[c]⟩ : ByteArray) = [c] from rfl, cut_one]
theorem bad_j1 (a b c d : ByteArray) (t : Bool) : Ev (fun k => uri_Parse.j1 k a b c d t true) bad := by
  refine Ev.step (fun k => by rw [uri_Parse.j1]) ?_
  exact Ev.if_pos rfl (Ev.some _)
theorem tail_prog (sch rest : ByteArray) (hz : rest.size < 4294967281) : Ev (fun k => uri_Parse.j0 k sch rest false) (tailU sch (bl rest)) := by
  have hp := pre_length_le 63 (bl rest)
  rw [bl_length] at hp
  refine Ev.step (fun k => by rw [uri_Parse.j0]) ?_
  refine Ev.if_neg (by simp) (Ev.bind (Ev.const (cut1_f rest 63 hz)) (Ev.bind (Ev.const (cut1_f (ba (pre 63 (bl rest))) 47 (by rw [size_ba]; omega))) ?_))
  rw [bl_ba]
  obtain ⟨m, hm⟩ : ∃ m, pre 63 (bl rest) = m := ⟨_, rfl⟩
  have hml : m.length ≤ rest.size := by rw [← hm]; exact hp
  have hpl := pre_length_le 47 m
  unfold tailU
  rw [hm]
  by_cases h0 : pre 47 m = []
  · rw [if_pos (Or.inl h0)]
    exact Ev.if_pos (by rw [toList_bl, bl_ba]; exact h0) (bad_j1 _ _ _ _ _)
  refine Ev.if_neg (by rw [toList_bl, bl_ba]; exact h0) ?_
  refine Ev.bind (Ev.const (x := ba (Lib.trimS (pre 47 m) (bl hostB))) ?_) ?_
  · show strings_Trim.f (ba (pre 47 m)) hostB = _
    unfold strings_Trim.f
    rw [if_pos, bl_ba]
    refine ⟨by rw [size_ba]; omega, by decide, by decide +kernel⟩
  rw [toList_bl, bl_ba]
  have hall : Lib.trimS (pre 47 m) (bl hostB) = [] ↔ (pre 47 m).all hostc = true := by
    rw [trim_nil]
    have : ((bl hostB).contains ·) = hostc := funext host_has
    rw [this]
  by_cases h1 : (pre 47 m).all hostc = true
  · rw [hall.2 h1, if_neg (by rw [h1]; simp [h0])]
    refine Ev.step (fun k => by rw [uri_Parse.j1]) ?_
    refine Ev.if_neg (by simp) ?_
    rw [drop_pre]
    by_cases h47 : (47 : UInt8) ∈ m
    · rw [if_pos h47]
      have hpo : (post 47 m).length ≤ m.length := by
        have := congrArg List.length (pre_post h47)
        simp at this; omega
      refine Ev.if_pos (decide_eq_true h47) (Ev.if_pos (by rw [size_ba]; omega) ((Ev.some _).uni ?_))
      have : (⟨#[47]⟩ : ByteArray) ++ ba (post 47 m) = ba (47 :: post 47 m) := bl_inj (by rw [bl_append, bl_ba, bl_ba]; rfl)
      rw [this]
    · rw [if_neg h47]
      refine Ev.if_neg (by simpa using h47) ((Ev.some _).uni ?_)
      rw [post_of_not_mem h47]
  · have hf : (pre 47 m).all hostc = false := by simpa using h1
    rw [if_pos (Or.inr hf)]
    have hne : Lib.trimS (pre 47 m) (bl hostB) ≠ [] := fun e => h1 (hall.1 e)
    rw [show (Lib.trimS (pre 47 m) (bl hostB) != []) = true from bne_iff_ne.2 hne]
    exact bad_j1 _ _ _ _ _
end Go.Proofs.YtjagjfmkfiikaaaDoor.X
