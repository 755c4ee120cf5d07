/- uri.Parse, uri.Print: what they answer, plain. -/
import Derived.Test.YtkcgalpagpgfhaaDoorHEv
import Derived.Test.YtkcgalpagpgfhaaDoorHCutN
import Derived.Test.YtkcgalpagpgfhaaDoorX5
import Derived.Test.YtkcgalpagpgfhaaDoorX4
namespace Go.Proofs.YtkcgalpagpgfhaaDoor.X
open Go.RowKit Go.Proofs.YtkcgalpagpgfhaaDoorW.PrintWords Go.Proofs.YtkcgalpagpgfhaaDoor.Spec
set_option linter.unusedVariables false
set_option linter.unusedSimpArgs false
theorem size_app (a b : ByteArray) : (a ++ b).size = a.size + b.size := ByteArray.size_append
theorem back8 (c : UInt8) : c.toNat.toUInt8 = c := by simp
theorem bl_take (s : ByteArray) (n : Nat) : bl (s.extract 0 n) = (bl s).take n := by
  rw [show bl (s.extract 0 n) = (s.extract 0 n).data.toList from rfl, Lib.extract_eq]
  simp [bl]

/-! Print -/
def printS (a b c d : ByteArray) : ByteArray := ba (bl a ++ ([58, 47, 47] ++ (bl b ++ (bl c ++ if d.toList = [] then [] else 63 :: bl d))))
theorem z3 : (⟨#[58, 47, 47]⟩ : ByteArray).size = 3 := rfl
theorem z1 : (⟨#[63]⟩ : ByteArray).size = 1 := rfl
theorem print_f (a b c d : ByteArray) (hz : a.size + b.size + c.size + d.size ≤ 4611686018427387904) : uri_Print.f a b c d = some (printS a b c d) := by
  unfold uri_Print.f printS
  rw [if_pos (show a.size + 3 ≤ 9223372036854775807 by omega), if_pos (by simp only [size_app, z3]; omega), if_pos (by simp only [size_app, z3]; omega)]
  by_cases h : d.toList = ([] : List UInt8)
  · rw [if_pos h, if_pos h]
    refine congrArg some (bl_inj ?_)
    simp only [bl_append, bl_ba, show bl (⟨#[58, 47, 47]⟩ : ByteArray) = [58, 47, 47] from rfl]
    simp
  · rw [if_neg h, if_neg h, if_pos (by omega), if_pos (by simp only [size_app, z3, z1]; omega)]
    refine congrArg some (bl_inj ?_)
    simp only [bl_append, bl_ba, show bl (⟨#[58, 47, 47]⟩ : ByteArray) = [58, 47, 47] from rfl, show bl (⟨#[63]⟩ : ByteArray) = [63] from rfl]
    simp

/-! "://" -/
def css : List UInt8 := [58, 47, 47]
theorem cut_front (P R : List UInt8) (h : (58 : UInt8) ∉ P) : Lib.cut (P ++ (css ++ R)) css = (P, R, true) := by
  have hi : Lib.index (P ++ (css ++ R)) css = (P.length : Int) := by
    induction P with
    | nil =>
      show Lib.index (58 :: 47 :: 47 :: R) css = 0
      unfold Lib.index
      rw [if_pos (by simp [css, List.isPrefixOf])]
    | cons x P ih =>
      simp only [List.mem_cons, not_or] at h
      have := ih h.2
      rw [List.cons_append]
      unfold Lib.index
      have hx : ((58 : UInt8) == x) = false := beq_eq_false_iff_ne.2 h.1
      rw [if_neg (by simp [css, List.isPrefixOf, hx]), this]
      have : ((P.length : Int) == -1) = false := beq_eq_false_iff_ne.2 (by omega)
      rw [this]
      simp
  unfold Lib.cut
  rw [hi, if_pos (by omega), show ((P.length : Int)).toNat = P.length from by omega, List.take_left]
  rw [← List.append_assoc, show P.length + css.length = (P ++ css).length from by simp, List.drop_left]
theorem cut_back (l A B : List UInt8) (h : Lib.cut l css = (A, B, true)) : l = A ++ (css ++ B) := by
  unfold Lib.cut at h
  split at h
  · rename_i h0
    simp only [Prod.mk.injEq, and_true] at h
    obtain ⟨rfl, rfl⟩ := h
    rcases Lib.index_spec l css with ⟨hn, _⟩ | ⟨i, hi, hil, ho, _⟩
    · rw [hn] at h0; omega
    · rw [hi, show ((i : Nat) : Int).toNat = i from by omega]
      have hr : i + css.length ≤ l.length := by
        rcases Lib.occAt_room ho with h | h
        · exact h
        · simp [css] at h
      have ht := ho
      rw [Lib.occAt_iff_take l css i hr, beq_iff_eq] at ht
      conv => lhs; rw [← List.take_append_drop i l, ← List.take_append_drop css.length (l.drop i), ht, List.drop_drop]
  · simp at h

/-! the bytes that may be -/
def oddB : ByteArray := ⟨#[34, 35, 60, 62, 92, 94, 96, 123, 124, 125]⟩
def goodc (c : UInt8) : Bool := 33 ≤ c.toNat && c.toNat ≤ 126 && !((bl oddB).contains c)
def cleanL (l : List UInt8) : Bool := l.all goodc
theorem clean_from (s : ByteArray) (hz : s.size ≤ 4611686018427387904) : ∀ n i, i + n = s.size → Ev (fun k => uri_clean.l0 k s (s.size : Int) (i : Int)) (cleanL ((bl s).drop i)) := by
  intro n
  induction n with
  | zero =>
    intro i hi
    refine Ev.step (fun k => by rw [uri_clean.l0]) (Ev.if_neg (by omega) ?_)
    rw [List.drop_of_length_le (by rw [bl_length]; omega)]
    exact Ev.some _
  | succ n ih =>
    intro i hi
    have hlt : i < s.size := by omega
    have hb : i < (bl s).length := by rw [bl_length]; exact hlt
    obtain ⟨c, hc⟩ : ∃ c, (bl s)[i] = c := ⟨_, rfl⟩
    have hbt : bt s (i : Int) = (c.toNat : Int) := by rw [bt_get s i hlt, hc]
    refine Ev.step (fun k => by rw [uri_clean.l0]) (Ev.if_pos (by omega) (Ev.if_pos (by omega) (Ev.if_pos (by omega) ?_)))
    rw [hbt, List.drop_eq_getElem_cons hb, hc]
    have hcl : cleanL (c :: (bl s).drop (i + 1)) = (goodc c && cleanL ((bl s).drop (i + 1))) := rfl
    rw [hcl]
    by_cases h1 : (c.toNat : Int) < 33
    · refine Ev.if_pos h1 ((Ev.some _).uni ?_)
      have : goodc c = false := by unfold goodc; rw [decide_eq_false (by omega)]; rfl
      rw [this]; rfl
    refine Ev.if_neg h1 ?_
    by_cases h2 : (c.toNat : Int) > 126
    · refine Ev.if_pos h2 ((Ev.some _).uni ?_)
      have : goodc c = false := by unfold goodc; rw [decide_eq_false (show ¬ c.toNat ≤ 126 by omega)]; simp
      rw [this]; rfl
    refine Ev.if_neg h2 (Ev.bind (Ev.const (x := Lib.indexByte (bl oddB) c) ?_) ?_)
    · unfold strings_IndexByte.f
      rw [show ((c.toNat : Int)).toNat = c.toNat from by omega, back8]; rfl
    rw [indexByte_eq]
    by_cases h3 : c ∈ bl oddB
    · rw [if_pos h3]
      refine Ev.if_pos (by omega) ((Ev.some _).uni ?_)
      have : goodc c = false := by unfold goodc; rw [List.contains_iff_mem.2 h3]; simp
      rw [this]; rfl
    · rw [if_neg h3]
      refine Ev.if_neg (by omega) ?_
      have : goodc c = true := by
        unfold goodc
        have hf : (bl oddB).contains c = false := by
          cases h : (bl oddB).contains c with
          | false => rfl
          | true => exact absurd (List.contains_iff_mem.1 h) h3
        rw [hf, decide_eq_true (show 33 ≤ c.toNat by omega), decide_eq_true (show c.toNat ≤ 126 by omega)]; rfl
      rw [this, Bool.true_and, w64 (by omega) (by omega)]
      exact ih (i + 1) (by omega)
theorem clean_f (s : ByteArray) (hz : s.size ≤ 4611686018427387904) : Ev (fun k => uri_clean.f k s) (cleanL (bl s)) := by
  exact (clean_from s hz s.size 0 (by simp)).uni (by simp)

/-! the host -/
def hostB : ByteArray := ⟨#[97, 98, 99, 100, 101, 102, 103, 104, 105, 106, 107, 108, 109, 110, 111, 112, 113, 114, 115, 116, 117, 118, 119, 120, 121, 122, 48, 49, 50, 51, 52, 53, 54, 55, 56, 57, 45, 46, 58]⟩
def hostc (c : UInt8) : Bool := (97 ≤ c.toNat && c.toNat ≤ 122) || (48 ≤ c.toNat && c.toNat ≤ 57) || c.toNat == 45 || c.toNat == 46 || c.toNat == 58
theorem host_fin : ∀ n : Fin 256, (bl hostB).contains n.val.toUInt8 = hostc n.val.toUInt8 := by decide +kernel
theorem host_has (c : UInt8) : (bl hostB).contains c = hostc c := by
  have h := host_fin ⟨c.toNat, c.toNat_lt⟩
  simp only [back8] at h
  exact h
theorem dropWhile_nil {p : UInt8 → Bool} {l : List UInt8} : l.dropWhile p = [] ↔ l.all p = true := by
  induction l with
  | nil => simp
  | cons x r ih => rw [List.dropWhile_cons]; split <;> rename_i h <;> simp_all
theorem dropWhile_last {p : UInt8 → Bool} {l : List UInt8} (h : l.dropWhile p ≠ []) : ∃ x, x ∈ l.dropWhile p ∧ p x = false := by
  induction l with
  | nil => simp at h
  | cons x r ih =>
    rw [List.dropWhile_cons] at h ⊢
    split
    · rename_i hx; rw [if_pos hx] at h; exact ih h
    · rename_i hx; exact ⟨x, by simp, by simpa using hx⟩
theorem trim_nil (l cs : List UInt8) : Lib.trimS l cs = [] ↔ l.all (cs.contains ·) = true := by
  unfold Lib.trimS Lib.trimLeftS Lib.trimRightS
  constructor
  · intro h
    rw [dropWhile_nil] at h
    by_cases hn : l.reverse.dropWhile (cs.contains ·) = []
    · have := dropWhile_nil.1 hn
      simpa using this
    · obtain ⟨x, hx, hp⟩ := dropWhile_last hn
      have := List.all_eq_true.1 h x (by simpa using hx)
      rw [hp] at this; cases this
  · intro h
    have : l.reverse.dropWhile (cs.contains ·) = [] := dropWhile_nil.2 (by simpa using h)
    rw [this]; rfl
theorem drop_pre (c : UInt8) (l : List UInt8) : l.drop (pre c l).length = if c ∈ l then c :: post c l else [] := by
  by_cases h : c ∈ l
  · rw [if_pos h]
    have := congrArg (List.drop (pre c l).length) (pre_post h)
    rw [this, List.drop_left]
  · rw [if_neg h, pre_of_not_mem h]; simp
abbrev U := ByteArray × ByteArray × ByteArray × ByteArray × Int
def bad : U := (⟨#[]⟩, ⟨#[]⟩, ⟨#[]⟩, ⟨#[]⟩, 2)
/-- the parts behind the scheme -/
def tailU (sch : ByteArray) (r : List UInt8) : U :=
  if pre 47 (pre 63 r) = [] ∨ (pre 47 (pre 63 r)).all hostc = false then bad
  else (sch, ba (pre 47 (pre 63 r)), ba ((pre 63 r).drop (pre 47 (pre 63 r)).length), ba (post 63 r), 0)
theorem bl_sub (s : ByteArray) (i j : Nat) : bl (s.extract i j) = ((bl s).take j).drop i := by
  rw [show bl (s.extract i j) = (s.extract i j).data.toList from rfl, Lib.extract_eq, List.drop_take]; rfl
theorem bl_from (s : ByteArray) (i : Nat) : bl (s.extract i s.size) = (bl s).drop i := by
  rw [bl_sub, List.take_of_length_le (by rw [bl_length]; exact Nat.le_refl _)]

/-! the tail, by the reference -/
theorem cut1_f (s : ByteArray) (c : UInt8) (hz : s.size < 4294967281) : strings_Cut.f s ⟨#[c]⟩ = some (ba (pre c (bl s)), ba (post c (bl s)), decide (c ∈ bl s)) := by
  unfold strings_Cut.f
  rw [if_pos hz, show bl (⟨#[c]⟩ : ByteArray) = [c] from rfl, cut_one]
theorem bad_j1 (a b c d : ByteArray) (t : Bool) : Ev (fun k => uri_Parse.j1 k a b c d t true) bad := by
  refine Ev.step (fun k => by rw [uri_Parse.j1]) ?_
  exact Ev.if_pos rfl (Ev.some _)
theorem tail_prog (sch rest : ByteArray) (hz : rest.size < 4294967281) : Ev (fun k => uri_Parse.j0 k sch rest false) (tailU sch (bl rest)) := by
  have hp := pre_length_le 63 (bl rest)
  rw [bl_length] at hp
  refine Ev.step (fun k => by rw [uri_Parse.j0]) ?_
  refine Ev.if_neg (by simp) (Ev.bind (Ev.const (cut1_f rest 63 hz)) (Ev.bind (Ev.const (cut1_f (ba (pre 63 (bl rest))) 47 (by rw [size_ba]; omega))) ?_))
  rw [bl_ba]
  obtain ⟨m, hm⟩ : ∃ m, pre 63 (bl rest) = m := ⟨_, rfl⟩
  have hml : m.length ≤ rest.size := by rw [← hm]; exact hp
  have hpl := pre_length_le 47 m
  unfold tailU
  rw [hm]
  by_cases h0 : pre 47 m = []
  · rw [if_pos (Or.inl h0)]
    exact Ev.if_pos (by rw [toList_bl, bl_ba]; exact h0) (bad_j1 _ _ _ _ _)
  refine Ev.if_neg (by rw [toList_bl, bl_ba]; exact h0) ?_
  refine Ev.bind (Ev.const (x := ba (Lib.trimS (pre 47 m) (bl hostB))) ?_) ?_
  · show strings_Trim.f (ba (pre 47 m)) hostB = _
    unfold strings_Trim.f
    rw [if_pos, bl_ba]
    refine ⟨by rw [size_ba]; omega, by decide, by decide +kernel⟩
  rw [toList_bl, bl_ba]
  have hall : Lib.trimS (pre 47 m) (bl hostB) = [] ↔ (pre 47 m).all hostc = true := by
    rw [trim_nil]
    have : ((bl hostB).contains ·) = hostc := funext host_has
    rw [this]
  by_cases h1 : (pre 47 m).all hostc = true
  · rw [hall.2 h1, if_neg (by rw [h1]; simp [h0])]
    refine Ev.step (fun k => by rw [uri_Parse.j1]) ?_
    refine Ev.if_neg (by simp) ?_
    rw [drop_pre]
    by_cases h47 : (47 : UInt8) ∈ m
    · rw [if_pos h47]
      have hpo : (post 47 m).length ≤ m.length := by
        have := congrArg List.length (pre_post h47)
        simp at this; omega
      refine Ev.if_pos (decide_eq_true h47) (Ev.if_pos (by rw [size_ba]; omega) ((Ev.some _).uni ?_))
      have : (⟨#[47]⟩ : ByteArray) ++ ba (post 47 m) = ba (47 :: post 47 m) := bl_inj (by rw [bl_append, bl_ba, bl_ba]; rfl)
      rw [this]
    · rw [if_neg h47]
      refine Ev.if_neg (by simpa using h47) ((Ev.some _).uni ?_)
      rw [post_of_not_mem h47]
  · have hf : (pre 47 m).all hostc = false := by simpa using h1
    rw [if_pos (Or.inr hf)]
    have hne : Lib.trimS (pre 47 m) (bl hostB) ≠ [] := fun e => h1 (hall.1 e)
    rw [show (Lib.trimS (pre 47 m) (bl hostB) != []) = true from bne_iff_ne.2 hne]
    exact bad_j1 _ _ _ _ _
def http : List UInt8 := [104, 116, 116, 112]
def https : List UInt8 := [104, 116, 116, 112, 115]
def large : U := (⟨#[]⟩, ⟨#[]⟩, ⟨#[]⟩, ⟨#[]⟩, 3)
def uriU (l : List UInt8) : U :=
  if 4096 < l.length then large
  else if cleanL l = false then bad
  else if l.take 7 = http ++ css then tailU (ba http) (l.drop 7)
  else if l.take 8 = https ++ css then tailU (ba https) (l.drop 8)
  else bad
theorem bad_j0 (a b : ByteArray) : Ev (fun k => uri_Parse.j0 k a b true) bad := by
  refine Ev.step (fun k => by rw [uri_Parse.j0]) ?_
  exact Ev.if_pos rfl (Ev.some _)
theorem j0_clean (sch rest s : ByteArray) (hz : rest.size < 4294967281) : Ev (fun k => uri_Parse.j0 k sch rest (!cleanL (bl s))) (if cleanL (bl s) = false then bad else tailU sch (bl rest)) := by
  cases h : cleanL (bl s) with
  | true => rw [if_neg (by simp)]; exact tail_prog sch rest hz
  | false => rw [if_pos rfl]; exact bad_j0 _ _
theorem prog_f (s : ByteArray) : Ev (fun k => uri_Parse.f k s) (uriU (bl s)) := by
  unfold uri_Parse.f uriU
  rw [bl_length]
  by_cases h1 : 4096 < s.size
  · rw [if_pos h1]; exact Ev.if_pos (by omega) (Ev.some _)
  rw [if_neg h1]
  refine Ev.if_neg (by omega) ?_
  have hcut : strings_Cut.f s ⟨#[58, 47, 47]⟩ = some (ba (Lib.cut (bl s) css).1, ba (Lib.cut (bl s) css).2.1, (Lib.cut (bl s) css).2.2) := by
    unfold strings_Cut.f
    rw [if_pos (by omega)]; rfl
  refine Ev.bind (Ev.const hcut) ?_
  by_cases h2 : (bl s).take 7 = http ++ css
  · have e : bl s = http ++ (css ++ (bl s).drop 7) := by rw [← List.append_assoc, ← h2, List.take_append_drop]
    have hc := cut_front http ((bl s).drop 7) (by decide)
    rw [← e] at hc
    rw [hc]
    refine Ev.if_pos rfl (Ev.if_pos (by rw [toList_bl, bl_ba]; rfl) (Ev.bind (clean_f s (by omega)) ?_))
    rw [if_pos h2]
    have := j0_clean (ba http) (ba ((bl s).drop 7)) s (by rw [size_ba, List.length_drop, bl_length]; omega)
    rw [bl_ba] at this
    exact this
  by_cases h3 : (bl s).take 8 = https ++ css
  · have e : bl s = https ++ (css ++ (bl s).drop 8) := by rw [← List.append_assoc, ← h3, List.take_append_drop]
    have hc := cut_front https ((bl s).drop 8) (by decide)
    rw [← e] at hc
    rw [hc]
    refine Ev.if_pos rfl (Ev.if_neg (by rw [toList_bl, bl_ba]; exact (show ¬ (https = [104, 116, 116, 112]) by decide)) (Ev.if_pos (by rw [toList_bl, bl_ba]; rfl) (Ev.bind (clean_f s (by omega)) ?_)))
    rw [if_neg h2, if_pos h3]
    have := j0_clean (ba https) (ba ((bl s).drop 8)) s (by rw [size_ba, List.length_drop, bl_length]; omega)
    rw [bl_ba] at this
    exact this
  rw [if_neg h2, if_neg h3]
  have hbad : (if cleanL (bl s) = false then bad else bad) = bad := by split <;> rfl
  rw [hbad]
  obtain ⟨A, B, ok, hc⟩ : ∃ A B ok, Lib.cut (bl s) css = (A, B, ok) := ⟨_, _, _, rfl⟩
  rw [hc]
  cases ok with
  | false => exact Ev.if_neg (by simp) (bad_j0 _ _)
  | true =>
    have hl := cut_back _ _ _ hc
    refine Ev.if_pos rfl (Ev.if_neg ?_ (Ev.if_neg ?_ (bad_j0 _ _)))
    · rw [toList_bl, bl_ba]
      intro h; subst h
      exact h2 (by rw [hl]; rfl)
    · rw [toList_bl, bl_ba]
      intro h; subst h
      exact h3 (by rw [hl]; rfl)

/-! the reference -/
end Go.Proofs.YtkcgalpagpgfhaaDoor.X
