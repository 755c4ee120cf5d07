/- Ours: pairs built: the program's and the reference's. -/
import Derived.Test.YtjagjfmkfiikaaaDoorHRefA
import Derived.Test.YtjagjfmkfiikaaaDoorHText
import Derived.Test.YtjagjfmkfiikaaaDoorX13
import Derived.Test.YtjagjfmkfiikaaaDoorX5
namespace Go.Proofs.YtjagjfmkfiikaaaDoor.X
open Go.RowKit Go.Proofs.YtjagjfmkfiikaaaDoorW.PrintWords Go.Proofs.YtjagjfmkfiikaaaDoor.Spec
set_option linter.unusedVariables false
set_option linter.unusedSimpArgs false
abbrev Pr := S25

/-! Build -/
def pairL (p : Pr) : List UInt8 := quoteL (bl p.f0) ++ 61 :: quoteL (bl p.f1)
def buildL (l : List Pr) : List UInt8 := Lib.join (l.map pairL) [38]
def psz (p : Pr) : Nat := p.f0.size + p.f1.size
theorem pairL_length (p : Pr) : (pairL p).length ≤ 3 * psz p + 1 := by
  have h1 := quoteL_length (bl p.f0)
  have h2 := quoteL_length (bl p.f1)
  rw [bl_length] at h1 h2
  simp only [pairL, psz, List.length_append, List.length_cons]
  omega
theorem join_snoc (xs : List (List UInt8)) (x sep : List UInt8) (h : xs ≠ []) : Lib.join (xs ++ [x]) sep = Lib.join xs sep ++ (sep ++ x) := by
  cases xs with
  | nil => exact absurd rfl h
  | cons y r => rw [List.cons_append, Lib.join_cons, Lib.join_cons]; simp [Lib.joinTail]
theorem buildL_snoc (l : List Pr) (p : Pr) : buildL (l ++ [p]) = if l = [] then pairL p else buildL l ++ 38 :: pairL p := by
  unfold buildL
  split
  · rename_i h; subst h; simp [Lib.join_one]
  · rename_i h; rw [List.map_append, List.map_cons, List.map_nil, join_snoc _ _ _ (by simpa using h)]; simp
theorem buildL_cons (p q : Pr) (r : List Pr) : buildL (p :: q :: r) = pairL p ++ 38 :: buildL (q :: r) := by
  simp [buildL, Lib.join, List.intercalate, List.intersperse]
theorem buildL_one (p : Pr) : buildL [p] = pairL p := by simp [buildL, Lib.join_one]
theorem buildL_length (M : Nat) (l : List Pr) (h : ∀ p ∈ l, psz p ≤ M) : (buildL l).length ≤ l.length * (3 * M + 2) := by
  induction l with
  | nil => simp [buildL, Lib.join_nil]
  | cons p r ih =>
    have hp := pairL_length p
    have hm := h p List.mem_cons_self
    cases r with
    | nil => rw [buildL_one]; simp; omega
    | cons q r =>
      rw [buildL_cons]
      have := ih (fun p hp => h p (List.mem_cons_of_mem _ hp))
      simp only [List.length_append, List.length_cons, Nat.succ_mul, Nat.add_mul, Nat.one_mul] at this ⊢
      omega
def pairS (p : Pr) : ByteArray := (ba (quoteL (bl p.f0)) ++ (⟨#[61]⟩ : ByteArray)) ++ ba (quoteL (bl p.f1))
theorem bl_pairS (p : Pr) : bl (pairS p) = pairL p := by
  unfold pairS pairL
  rw [bl_append, bl_append, bl_ba, bl_ba, show bl (⟨#[61]⟩ : ByteArray) = [61] from rfl, List.append_assoc]; rfl
theorem rd_pr (l : List Pr) (i : Nat) (h : i < l.length) : rd_T25 l (i : Int) = l[i] := by simp [rd_T25, h]
theorem size_app (a b : ByteArray) : (a ++ b).size = a.size + b.size := ByteArray.size_append
theorem build_from (l : List Pr) (hs : ∀ p ∈ l, psz p ≤ 1048576) (hl : l.length ≤ 1048576) : ∀ n i, i + n = l.length → Ev (fun k => pairs_Build.l0 k ((l.take i).map pairS) l (l.length : Int) (i : Int)) (ba (buildL l)) := by
  have hbl := buildL_length 1048576 l hs
  intro n
  induction n with
  | zero =>
    intro i hi
    refine Ev.step (fun k => by rw [pairs_Build.l0]) ?_
    refine Ev.if_neg (by omega) ?_
    have hj : Lib.join (List.map bl (List.map pairS (l.take i))) (bl (⟨#[38]⟩ : ByteArray)) = buildL l := by
      rw [List.take_of_length_le (by omega), List.map_map]
      unfold buildL
      congr 1
      exact List.map_congr_left (fun p _ => bl_pairS p)
    refine Ev.bind (Ev.const (x := ba (buildL l)) ?_) (Ev.some _)
    unfold strings_Join.f
    rw [hj, if_pos]
    refine ⟨?_, by simp; omega⟩
    have : l.length * (3 * 1048576 + 2) ≤ 1048576 * (3 * 1048576 + 2) := Nat.mul_le_mul_right _ hl
    omega
  | succ n ih =>
    intro i hi
    have hlt : i < l.length := by omega
    refine Ev.step (fun k => by rw [pairs_Build.l0]) ?_
    obtain ⟨p, hp⟩ : ∃ p, l[i] = p := ⟨_, rfl⟩
    have hps := hs p (hp ▸ List.getElem_mem hlt)
    unfold psz at hps
    rw [rd_pr _ _ hlt, hp, w64 (by omega) (by omega)]
    have q0 := quoteL_length (bl p.f0)
    have q1 := quoteL_length (bl p.f1)
    rw [bl_length] at q0 q1
    refine Ev.if_pos (by omega) (Ev.if_pos (by omega) (Ev.if_pos (by omega) ?_))
    refine Ev.bind (Ev.const (x := ba (quoteL (bl p.f0))) (by unfold text_Quote.f; rw [if_pos (by omega)])) ?_
    refine Ev.if_pos (by rw [size_ba]; omega) ?_
    refine Ev.bind (Ev.const (x := ba (quoteL (bl p.f1))) (by unfold text_Quote.f; rw [if_pos (by omega)])) ?_
    refine Ev.if_pos (by rw [size_app, size_ba, size_ba]; simp only [show (⟨#[61]⟩ : ByteArray).size = 1 from rfl]; omega) (Ev.if_pos (by simp; omega) ?_)
    have := ih (i + 1) (by omega)
    rw [List.take_succ_eq_append_getElem hlt, List.map_append, hp] at this
    exact this
theorem build_f (l : List Pr) (hs : ∀ p ∈ l, psz p ≤ 1048576) (hl : l.length ≤ 1048576) : Ev (fun k => pairs_Build.f k l) (ba (buildL l)) := build_from l hs hl l.length 0 (by simp)
theorem rbuild_from (l : List Pr) (hs : ∀ p ∈ l, psz p ≤ 1048576) (hl : l.length ≤ 1048576) : ∀ n i, i + n = l.length → Ev (fun k => exequaturref01_Build.l0 k l (ba (buildL (l.take i))) (i : Int)) (ba (buildL l)) := by
  intro n
  induction n with
  | zero =>
    intro i hi
    refine Ev.step (fun k => by rw [exequaturref01_Build.l0]) ?_
    rw [List.take_of_length_le (by omega)]
    exact Ev.if_neg (by omega) (Ev.some _)
  | succ n ih =>
    intro i hi
    have hlt : i < l.length := by omega
    refine Ev.step (fun k => by rw [exequaturref01_Build.l0]) ?_
    obtain ⟨p, hp⟩ : ∃ p, l[i] = p := ⟨_, rfl⟩
    have hps := hs p (hp ▸ List.getElem_mem hlt)
    unfold psz at hps
    rw [rd_pr _ _ hlt, hp, w64 (by omega) (by omega)]
    have q0 := quoteL_length (bl p.f0)
    have q1 := quoteL_length (bl p.f1)
    rw [bl_length] at q0 q1
    have hbl := buildL_length 1048576 (l.take i) (fun p hp => hs p (List.mem_of_mem_take hp))
    rw [List.length_take, Nat.min_eq_left (by omega)] at hbl
    have hb2 : i * (3 * 1048576 + 2) ≤ 1048576 * (3 * 1048576 + 2) := Nat.mul_le_mul_right _ (by omega)
    have hbb : (buildL (l.take i)).length ≤ 3298537000000 := by omega
    clear hbl hb2
    have hrec := ih (i + 1) (by omega)
    rw [List.take_succ_eq_append_getElem hlt, buildL_snoc, hp] at hrec
    have z38 : (⟨#[38]⟩ : ByteArray).size = 1 := rfl
    have z61 : (⟨#[61]⟩ : ByteArray).size = 1 := rfl
    refine Ev.if_pos (by omega) ?_
    by_cases hi0 : i = 0
    · subst hi0
      refine Ev.if_neg (by omega) (Ev.if_pos (by omega) ?_)
      refine Ev.bind (ref_Quote p.f0 (by omega)) (Ev.if_pos ?_ (Ev.if_pos ?_ (Ev.bind (ref_Quote p.f1 (by omega)) (Ev.if_pos ?_ ?_))))
      · simp only [size_ba]; omega
      · simp only [size_app, size_ba]; omega
      · simp only [size_app, size_ba, z61]; omega
      · have e : ((ba (buildL (l.take 0)) ++ ba (quoteL (bl p.f0))) ++ (⟨#[61]⟩ : ByteArray)) ++ ba (quoteL (bl p.f1)) = ba (pairL p) := by
          apply bl_inj
          simp only [bl_append, bl_ba, show bl (⟨#[61]⟩ : ByteArray) = [61] from rfl, pairL]
          simp [buildL, Lib.join_nil]
        rw [e]
        simpa using hrec
    · refine Ev.if_pos (by omega) (Ev.if_pos ?_ (Ev.if_pos (by omega) ?_))
      · simp only [size_ba]; omega
      refine Ev.bind (ref_Quote p.f0 (by omega)) (Ev.if_pos ?_ (Ev.if_pos ?_ (Ev.bind (ref_Quote p.f1 (by omega)) (Ev.if_pos ?_ ?_))))
      · simp only [size_app, size_ba, z38]; omega
      · simp only [size_app, size_ba, z38]; omega
      · simp only [size_app, size_ba, z38, z61]; omega
      · have hne : l.take i ≠ [] := by
          intro h
          have := congrArg List.length h
          rw [List.length_take, List.length_nil] at this; omega
        have e : (((ba (buildL (l.take i)) ++ (⟨#[38]⟩ : ByteArray)) ++ ba (quoteL (bl p.f0))) ++ (⟨#[61]⟩ : ByteArray)) ++ ba (quoteL (bl p.f1)) = ba (buildL (l.take i) ++ 38 :: pairL p) := by
          apply bl_inj
          simp only [bl_append, bl_ba, show bl (⟨#[61]⟩ : ByteArray) = [61] from rfl, show bl (⟨#[38]⟩ : ByteArray) = [38] from rfl, pairL]
          simp
        rw [e]
        rw [if_neg hne] at hrec
        exact hrec
theorem ref_Build (l : List Pr) (hs : ∀ p ∈ l, psz p ≤ 1048576) (hl : l.length ≤ 1048576) : Ev (fun k => exequaturref01_Build.f k l) (ba (buildL l)) := rbuild_from l hs hl l.length 0 (by simp)

end Go.Proofs.YtjagjfmkfiikaaaDoor.X
