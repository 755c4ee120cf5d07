/- Ours: the plain laws of chapter 3 that reach no reading of a URI by the reference. -/
import Derived.Test.YtjagjfmkfiikaaaDoorHBulkP
import Derived.Test.YtjagjfmkfiikaaaDoorHCutN
import Derived.Test.YtjagjfmkfiikaaaDoorX7
import Derived.Test.YtjagjfmkfiikaaaDoorX14
import Derived.Test.YtjagjfmkfiikaaaDoorX15
import Derived.Test.YtjagjfmkfiikaaaDoorX5
import Derived.Test.YtjagjfmkfiikaaaDoorX9
import Derived.Test.YtjagjfmkfiikaaaDoorX13
namespace Go.Proofs.YtjagjfmkfiikaaaDoor.X
open Go.RowKit Go.Proofs.YtjagjfmkfiikaaaDoorW.PrintWords Go.Proofs.YtjagjfmkfiikaaaDoor.Spec
set_option linter.unusedVariables false
set_option linter.unusedSimpArgs false

set_option maxRecDepth 100000 in
theorem answers_ok : Ev (fun k => exequaturlaw03_answers.f k) true :=
  Ev.of_mono (g := fun k => exequaturlaw03_answers.f k) (fun k => exequaturlaw03_answers.mono k) (K := 40) (by decide +kernel)

theorem bl_take (s : ByteArray) (n : Nat) : bl (s.extract 0 n) = (bl s).take n := by
  rw [show bl (s.extract 0 n) = (s.extract 0 n).data.toList from rfl, Lib.extract_eq]
  simp [bl]

/-! With -/
def mark (s : ByteArray) : UInt8 := if (63 : UInt8) ∈ bl s then 38 else 63
def withS (s : ByteArray) (l : List Pr) : ByteArray := if l = [] then s else ba (bl s ++ mark s :: buildL l)
theorem build_big (l : List Pr) (hs : ∀ p ∈ l, psz p ≤ 1048576) (hl : l.length ≤ 1048576) : (buildL l).length ≤ 3298540000000 := by
  have h1 := buildL_length 1048576 l hs
  have : l.length * (3 * 1048576 + 2) ≤ 1048576 * (3 * 1048576 + 2) := Nat.mul_le_mul_right _ hl
  omega
theorem with_f (s : ByteArray) (hz : s.size ≤ 4611686018427387904) (l : List Pr) (hs : ∀ p ∈ l, psz p ≤ 1048576) (hl : l.length ≤ 1048576) : Ev (fun k => uri_With.f k s l) (withS s l) := by
  have hbb := build_big l hs hl
  unfold uri_With.f withS mark
  by_cases h0 : l = []
  · subst h0; exact Ev.if_pos rfl (Ev.some _)
  rw [if_neg h0]
  have hn : l.length ≠ 0 := fun h => h0 (List.length_eq_zero_iff.1 h)
  refine Ev.if_neg (by omega) (Ev.bind (Ev.const (x := Lib.indexByte (bl s) 63) rfl) ?_)
  rw [indexByte_eq]
  have z38 : (⟨#[38]⟩ : ByteArray).size = 1 := rfl
  have z63 : (⟨#[63]⟩ : ByteArray).size = 1 := rfl
  by_cases hm : (63 : UInt8) ∈ bl s
  · rw [if_pos hm, if_pos hm]
    refine Ev.if_pos (by omega) (Ev.if_pos (by omega) (Ev.bind (build_f l hs hl) (Ev.if_pos ?_ ((Ev.some _).uni ?_))))
    · simp only [size_app, size_ba, z38]; omega
    · apply bl_inj
      simp only [bl_append, bl_ba, show bl (⟨#[38]⟩ : ByteArray) = [38] from rfl]
      simp
  · rw [if_neg hm, if_neg hm]
    refine Ev.if_neg (by omega) (Ev.if_pos (by omega) (Ev.bind (build_f l hs hl) (Ev.if_pos ?_ ((Ev.some _).uni ?_))))
    · simp only [size_app, size_ba, z63]; omega
    · apply bl_inj
      simp only [bl_append, bl_ba, show bl (⟨#[63]⟩ : ByteArray) = [63] from rfl]
      simp
theorem rwith_f (s : ByteArray) (hz : s.size ≤ 4611686018427387904) (l : List Pr) (hs : ∀ p ∈ l, psz p ≤ 1048576) (hl : l.length ≤ 1048576) : Ev (fun k => exequaturref01_With.f k s l) (withS s l) := by
  have hbb := build_big l hs hl
  unfold exequaturref01_With.f withS mark
  by_cases h0 : l = []
  · subst h0; exact Ev.if_pos rfl (Ev.some _)
  rw [if_neg h0]
  have hn : l.length ≠ 0 := fun h => h0 (List.length_eq_zero_iff.1 h)
  refine Ev.if_neg (by omega) (Ev.bind (ref_at s 63 hz) ?_)
  have z38 : (⟨#[38]⟩ : ByteArray).size = 1 := rfl
  have z63 : (⟨#[63]⟩ : ByteArray).size = 1 := rfl
  have hlt := @pre_lt_iff 63 (bl s)
  rw [bl_length] at hlt
  by_cases hm : (63 : UInt8) ∈ bl s
  · have := hlt.2 hm
    rw [if_pos hm]
    refine Ev.if_pos (by omega) (Ev.if_pos (by omega) (Ev.bind (ref_Build l hs hl) (Ev.if_pos ?_ ((Ev.some _).uni ?_))))
    · simp only [size_app, size_ba, z38]; omega
    · apply bl_inj
      simp only [bl_append, bl_ba, show bl (⟨#[38]⟩ : ByteArray) = [38] from rfl]
      simp
  · have : ¬ (pre 63 (bl s)).length < s.size := fun h => hm (hlt.1 h)
    rw [if_neg hm]
    refine Ev.if_neg (by omega) (Ev.if_pos (by omega) (Ev.bind (ref_Build l hs hl) (Ev.if_pos ?_ ((Ev.some _).uni ?_))))
    · simp only [size_app, size_ba, z63]; omega
    · apply bl_inj
      simp only [bl_append, bl_ba, show bl (⟨#[63]⟩ : ByteArray) = [63] from rfl]
      simp
theorem with_front (s : ByteArray) (l : List Pr) : ∃ r, bl (withS s l) = bl s ++ r := by
  unfold withS
  split
  · exact ⟨[], by simp⟩
  · exact ⟨_, by rw [bl_ba]⟩

theorem uwith_from (s : ByteArray) (hz : s.size ≤ 1048576) (l : List Pr) (hs : ∀ p ∈ l, psz p ≤ 1048576) (hl : l.length ≤ 1048576) : ∀ n i, i + n = l.length → Ev (fun k => exequaturlaw03_UriWith.l0 k s l (i : Int)) true := by
  intro n
  induction n with
  | zero =>
    intro i hi
    refine Ev.step (fun k => by rw [exequaturlaw03_UriWith.l0]) (Ev.if_neg (by omega) ?_)
    refine Ev.bind (with_f s (by omega) l hs hl) (Ev.bind answers_ok (Ev.if_pos rfl (Ev.bind (rwith_f s (by omega) l hs hl) (Ev.if_pos rfl ?_))))
    obtain ⟨r, hr⟩ := with_front s l
    have hsz : (withS s l).size = s.size + r.length := by rw [← bl_length, hr, List.length_append, bl_length]
    refine Ev.if_pos (by omega) (Ev.if_pos (by omega) (Ev.if_pos (by omega) ((Ev.some _).uni ?_)))
    rw [toList_bl, toList_bl, show ((s.size : Int)).toNat = s.size from by omega, bl_take, hr, ← bl_length, List.take_left]
    simp
  | succ n ih =>
    intro i hi
    have hlt : i < l.length := by omega
    refine Ev.step (fun k => by rw [exequaturlaw03_UriWith.l0]) (Ev.if_pos (by omega) (Ev.if_pos (by omega) ?_))
    rw [rd_pr _ _ hlt]
    by_cases h2 : (wrap64 ((((l[i]).f0).size : Int) + (((l[i]).f1).size : Int))) > 300
    · exact Ev.if_pos h2 (Ev.bind answers_ok (Ev.some _))
    refine Ev.if_neg h2 ?_
    rw [w64 (n := (i : Int) + 1) (by omega) (by omega)]
    exact ih (i + 1) (by omega)
theorem pure_UriWith (a0 : ByteArray) (l1 : List Pr) (hb : ((a0).size + 1) + (B22 (l1)) ≤ 1048576) (g1 : G22 (l1)) : ∃ k, exequaturlaw03_UriWith.f k a0 l1 = some true := by
  have hsm := small_of (l := l1) (by omega)
  refine Ev.get (g := fun k => exequaturlaw03_UriWith.f k a0 l1) ?_
  unfold exequaturlaw03_UriWith.f
  by_cases h : (a0.size : Int) > 3000
  · exact Ev.if_pos h (Ev.step (fun k => by rw [exequaturlaw03_UriWith.j0]) (Ev.if_pos rfl (Ev.bind answers_ok (Ev.some _))))
  refine Ev.if_neg h (Ev.step (fun k => by rw [exequaturlaw03_UriWith.j0]) ?_)
  by_cases h2 : (l1.length : Int) > 50
  · exact Ev.if_pos (decide_eq_true h2) (Ev.bind answers_ok (Ev.some _))
  · exact Ev.if_neg (by simpa using h2) (uwith_from a0 (by omega) l1 hsm.1 hsm.2 l1.length 0 (by simp))

/-! Print -/
def printS (a b c d : ByteArray) : ByteArray := ba (bl a ++ ([58, 47, 47] ++ (bl b ++ (bl c ++ if d.toList = [] then [] else 63 :: bl d))))
theorem z3 : (⟨#[58, 47, 47]⟩ : ByteArray).size = 3 := rfl
theorem z1 : (⟨#[63]⟩ : ByteArray).size = 1 := rfl
theorem print_f (a b c d : ByteArray) (hz : a.size + b.size + c.size + d.size ≤ 4611686018427387904) : uri_Print.f a b c d = some (printS a b c d) := by
  unfold uri_Print.f printS
  rw [if_pos (show a.size + 3 ≤ 9223372036854775807 by omega), if_pos (by simp only [size_app, z3]; omega), if_pos (by simp only [size_app, z3]; omega)]
  by_cases h : d.toList = ([] : List UInt8)
  · rw [if_pos h, if_pos h]
    refine congrArg some (bl_inj ?_)
    simp only [bl_append, bl_ba, show bl (⟨#[58, 47, 47]⟩ : ByteArray) = [58, 47, 47] from rfl]
    simp
  · rw [if_neg h, if_neg h, if_pos (by omega), if_pos (by simp only [size_app, z3, z1]; omega)]
    refine congrArg some (bl_inj ?_)
    simp only [bl_append, bl_ba, show bl (⟨#[58, 47, 47]⟩ : ByteArray) = [58, 47, 47] from rfl, show bl (⟨#[63]⟩ : ByteArray) = [63] from rfl]
    simp
theorem rprint_f (a b c d : ByteArray) (hz : a.size + b.size + c.size + d.size ≤ 4611686018427387904) : exequaturref01_PrintURI.f a b c d = some (printS a b c d) := by
  unfold exequaturref01_PrintURI.f printS
  rw [if_pos (show a.size + 3 ≤ 9223372036854775807 by omega), if_pos (by simp only [size_app, z3]; omega), if_pos (by simp only [size_app, z3]; omega)]
  by_cases h : d.toList = ([] : List UInt8)
  · rw [if_pos h, if_pos h]
    refine congrArg some (bl_inj ?_)
    simp only [bl_append, bl_ba, show bl (⟨#[58, 47, 47]⟩ : ByteArray) = [58, 47, 47] from rfl]
    simp
  · rw [if_neg h, if_neg h, if_pos (by simp only [size_app, z3]; omega), if_pos (by simp only [size_app, z3, z1]; omega)]
    refine congrArg some (bl_inj ?_)
    simp only [bl_append, bl_ba, show bl (⟨#[58, 47, 47]⟩ : ByteArray) = [58, 47, 47] from rfl, show bl (⟨#[63]⟩ : ByteArray) = [63] from rfl]
    simp
theorem pure_UriPrint (x0 : S31) (hb : (B31 (x0)) ≤ 1048576) (g0 : G31 (x0)) : ∃ k, exequaturlaw03_UriPrint.f k x0.f0 x0.f1 x0.f2 x0.f3 = some true := by
  refine Ev.get (g := fun k => exequaturlaw03_UriPrint.f k x0.f0 x0.f1 x0.f2 x0.f3) ?_
  have hz : x0.f0.size + x0.f1.size + x0.f2.size + x0.f3.size ≤ 1048576 := by unfold B31 at hb; omega
  unfold exequaturlaw03_UriPrint.f
  exact Ev.bind answers_ok (Ev.if_pos rfl (Ev.bind (Ev.const (print_f _ _ _ _ (by omega))) (Ev.bind (Ev.const (rprint_f _ _ _ _ (by omega))) ((Ev.some _).uni (by simp)))))

/-! Again -/
theorem buildL_app (a b : List Pr) (ha : a ≠ []) (hb : b ≠ []) : buildL (a ++ b) = buildL a ++ 38 :: buildL b := by
  induction a with
  | nil => exact absurd rfl ha
  | cons p r ih =>
    cases r with
    | nil =>
      cases b with
      | nil => exact absurd rfl hb
      | cons q b => rw [List.singleton_append, buildL_cons, buildL_one]
    | cons q r =>
      rw [List.cons_append, List.cons_append, buildL_cons, ← List.cons_append, ih (by simp), buildL_cons]
      simp
def base : ByteArray := ⟨#[104, 116, 116, 112, 58, 47, 47, 97]⟩
theorem with_with (a b : List Pr) (ha : a ≠ []) (hb : b ≠ []) : withS (withS base a) b = withS base (a ++ b) := by
  have hab : a ++ b ≠ [] := by simp [ha]
  have hm : mark base = 63 := by decide
  unfold withS
  rw [if_neg ha, if_neg hb, if_neg hab, buildL_app a b ha hb, hm]
  have hm2 : mark (ba (bl base ++ 63 :: buildL a)) = 38 := by
    unfold mark
    rw [bl_ba, if_pos (by simp)]
  rw [hm2, bl_ba]
  simp
theorem again_end (a b : List Pr) (ha0 : a ≠ []) (hb0 : b ≠ []) (hsa : ∀ p ∈ a, psz p ≤ 1048576) (hsb : ∀ p ∈ b, psz p ≤ 1048576) (hla : a.length ≤ 20) (hlb : b.length ≤ 20) (i : Int) : Ev (fun k => exequaturlaw03_UriAgain.j2 k a b i false) true := by
  refine Ev.step (fun k => by rw [exequaturlaw03_UriAgain.j2]) (Ev.if_neg (by simp) (Ev.bind answers_ok (Ev.if_pos rfl ?_)))
  have hz : (withS base a).size ≤ 4611686018427387904 := by
    unfold withS
    rw [if_neg ha0, size_ba, List.length_append, List.length_cons, bl_length]
    have := build_big a hsa (by omega)
    have : base.size = 8 := rfl
    omega
  refine Ev.bind (with_f base (by decide) a hsa (by omega)) (Ev.bind (with_f _ hz b hsb (by omega)) (Ev.bind (Ev.some _) (Ev.if_pos (by simp; omega) (Ev.bind (Ev.some _) (Ev.if_pos (by simp; omega) ?_)))))
  refine Ev.bind (with_f base (by decide) _ ?_ (by simp; omega)) ((Ev.some _).uni ?_)
  · intro p hp
    simp only [List.nil_append, List.mem_append] at hp
    exact hp.elim (hsa p) (hsb p)
  · rw [with_with a b ha0 hb0]; simp
theorem again_from (a b : List Pr) (ha0 : a ≠ []) (hb0 : b ≠ []) (hsa : ∀ p ∈ a, psz p ≤ 1048576) (hsb : ∀ p ∈ b, psz p ≤ 1048576) (hla : a.length ≤ 20) (hlb : b.length ≤ 20) : ∀ n i, i + n = max a.length b.length → Ev (fun k => exequaturlaw03_UriAgain.l0 k a b (i : Int)) true := by
  intro n
  induction n with
  | zero =>
    intro i hi
    refine Ev.step (fun k => by rw [exequaturlaw03_UriAgain.l0]) (Ev.if_neg (by omega) ?_)
    rw [decide_eq_false (by omega)]
    exact again_end a b ha0 hb0 hsa hsb hla hlb _
  | succ n ih =>
    intro i hi
    have next := ih (i + 1) (by omega)
    have nx : wrap64 ((i : Int) + 1) = ((i + 1 : Nat) : Int) := by rw [w64 (by omega) (by omega)]; rfl
    have body : Ev (fun k => exequaturlaw03_UriAgain.j2 k a b (i : Int) true) true := by
      refine Ev.step (fun k => by rw [exequaturlaw03_UriAgain.j2]) (Ev.if_pos rfl ?_)
      rw [nx]
      by_cases h1 : (i : Int) < (a.length : Int)
      · refine Ev.if_pos h1 (Ev.if_pos (by omega) ?_)
        by_cases h2 : (wrap64 ((((rd_T25 a i).f0).size : Int) + (((rd_T25 a i).f1).size : Int))) > 100
        · exact Ev.if_pos h2 (Ev.bind answers_ok (Ev.some _))
        refine Ev.if_neg h2 ?_
        by_cases h3 : (i : Int) < (b.length : Int)
        · refine Ev.if_pos h3 ?_
          by_cases h4 : (wrap64 ((((rd_T25 b i).f0).size : Int) + (((rd_T25 b i).f1).size : Int))) > 100
          · exact Ev.if_pos h4 (Ev.bind answers_ok (Ev.some _))
          · exact Ev.if_neg h4 next
        · exact Ev.if_neg h3 next
      · refine Ev.if_neg h1 ?_
        by_cases h3 : (i : Int) < (b.length : Int)
        · refine Ev.if_pos h3 (Ev.if_pos (by omega) ?_)
          by_cases h4 : (wrap64 ((((rd_T25 b i).f0).size : Int) + (((rd_T25 b i).f1).size : Int))) > 100
          · exact Ev.if_pos h4 (Ev.bind answers_ok (Ev.some _))
          · exact Ev.if_neg h4 next
        · exact Ev.if_neg h3 next
    refine Ev.step (fun k => by rw [exequaturlaw03_UriAgain.l0]) ?_
    by_cases h1 : (i : Int) < (a.length : Int)
    · exact Ev.if_pos h1 body
    · refine Ev.if_neg h1 ?_
      rw [decide_eq_true (by omega)]
      exact body
theorem pure_UriAgain (l0 : List Pr) (l1 : List Pr) (hb : (B22 (l0)) + (B22 (l1)) ≤ 1048576) (g0 : G22 (l0)) (g1 : G22 (l1)) : ∃ k, exequaturlaw03_UriAgain.f k l0 l1 = some true := by
  have hs0 := small_of (l := l0) (by omega)
  have hs1 := small_of (l := l1) (by omega)
  refine Ev.get (g := fun k => exequaturlaw03_UriAgain.f k l0 l1) ?_
  unfold exequaturlaw03_UriAgain.f
  have out : Ev (fun k => exequaturlaw03_UriAgain.j0 k l0 l1 true) true := Ev.step (fun k => by rw [exequaturlaw03_UriAgain.j0]) (Ev.if_pos rfl (Ev.bind answers_ok (Ev.some _)))
  by_cases h1 : (l0.length : Int) = 0
  · exact Ev.if_pos h1 out
  refine Ev.if_neg h1 ?_
  by_cases h2 : (l1.length : Int) = 0
  · exact Ev.if_pos h2 out
  refine Ev.if_neg h2 ?_
  by_cases h3 : (l0.length : Int) > 20
  · exact Ev.if_pos h3 out
  refine Ev.if_neg h3 ?_
  by_cases h4 : (l1.length : Int) > 20
  · rw [decide_eq_true h4]; exact out
  · rw [decide_eq_false h4]
    refine Ev.step (fun k => by rw [exequaturlaw03_UriAgain.j0]) (Ev.if_neg (by simp) ?_)
    exact again_from l0 l1 (fun h => by subst h; exact h1 rfl) (fun h => by subst h; exact h2 rfl) hs0.1 hs1.1 (by omega) (by omega) _ 0 (by simp; rfl)
end Go.Proofs.YtjagjfmkfiikaaaDoor.X
