/- Ours: what the reference's functions on pairs answer, and the program's pairs.Build. -/
import Derived.Test.YtibfhaekomflpaaDoorHRefA
import Derived.Test.YtibfhaekomflpaaDoorHParse
import Derived.Test.YtibfhaekomflpaaDoorX7
import Derived.Test.YtibfhaekomflpaaDoorX13
import Derived.Test.YtibfhaekomflpaaDoorX10
namespace Go.Proofs.YtibfhaekomflpaaDoor.X
open Go.RowKit Go.Proofs.YtibfhaekomflpaaDoorW.PrintWords Go.Proofs.YtibfhaekomflpaaDoor.Spec
set_option linter.unusedVariables false
set_option linter.unusedSimpArgs false
abbrev Pr := S30

/-! Form -/
def formFin (r : Option (List Pr)) : List Pr × Int := match r with | none => ([], 2) | some l => if 64 < l.length then ([], 3) else (l, 0)
theorem parse_f (s : ByteArray) : pairs_Parse.f s = some (if 4096 < s.size then ([], 3) else formFin (formOf (spParts 38 s))) := rfl
theorem toList_nil (s : ByteArray) : s.toList = [] ↔ s.size = 0 := by rw [toList_bl, ← bl_length]; exact List.length_eq_zero_iff.symm
theorem rdOf_get (d : ByteArray) (l : List ByteArray) (i : Nat) (h : i < l.length) : rdOf d l (i : Int) = l[i] := by simp [rdOf, h]
theorem form_from (parts : List ByteArray) (hs : ∀ p ∈ parts, p.size ≤ 70368744177664) (hl : parts.length ≤ 2199023255552) : ∀ n i (acc : List Pr), i + n = parts.length → acc.length ≤ i → Ev (fun k => exequaturref01_Form.l0 k acc parts (i : Int)) (formFin ((parts.drop i).foldl formStep (some acc))) := by
  intro n
  induction n with
  | zero =>
    intro i acc hi ha
    refine Ev.step (fun k => by rw [exequaturref01_Form.l0]) ?_
    refine Ev.if_neg (by omega) ?_
    rw [List.drop_of_length_le (by omega)]
    simp only [List.foldl_nil, formFin]
    by_cases h : 64 < acc.length
    · rw [if_pos h]; exact Ev.if_pos (by omega) (Ev.some _)
    · rw [if_neg h]; exact Ev.if_neg (by omega) (Ev.some _)
  | succ n ih =>
    intro i acc hi ha
    have hlt : i < parts.length := by omega
    obtain ⟨p, hp⟩ : ∃ p, parts[i] = p := ⟨_, rfl⟩
    have hps := hs p (hp ▸ List.getElem_mem hlt)
    refine Ev.step (fun k => by rw [exequaturref01_Form.l0]) ?_
    rw [rdOf_get _ _ _ hlt, hp, List.drop_eq_getElem_cons hlt, hp, List.foldl_cons]
    refine Ev.if_pos (by omega) (Ev.if_pos (by omega) ?_)
    rw [w64 (by omega) (by omega)]
    by_cases h0 : p.size = 0
    · refine Ev.if_pos ((toList_nil p).2 h0) ?_
      rw [show formStep (some acc) p = some acc from by simp [formStep, h0]]
      exact ih (i + 1) acc (by omega) (by omega)
    refine Ev.if_neg (fun h => h0 ((toList_nil p).1 h)) ?_
    refine Ev.bind (ref_at p 61 (by omega)) ?_
    have hpl := pre_length_le 61 (bl p)
    rw [bl_length] at hpl
    have key : ∀ x8 : ByteArray, bl x8 = post 61 (bl p) → Ev (fun k => exequaturref01_Form.j1 k acc parts (i : Int) ((pre 61 (bl p)).length : Int) x8) (formFin (List.foldl formStep (formStep (some acc) p) (List.drop (i + 1) parts))) := by
      intro x8 hx8
      refine Ev.step (fun k => by rw [exequaturref01_Form.j1]) ?_
      rw [rdOf_get _ _ _ hlt, hp]
      refine Ev.if_pos (by omega) (Ev.if_pos (by omega) (Ev.if_pos (by omega) (Ev.if_pos (by omega) ?_)))
      have hpe : bl (p.extract 0 ((((pre 61 (bl p)).length : Nat) : Int)).toNat) = pre 61 (bl p) := by
        rw [show ((((pre 61 (bl p)).length : Nat) : Int)).toNat = (pre 61 (bl p)).length from by omega, pre_extract_any]
      have hz8 : x8.size ≤ 70368744177664 := by
        rw [← bl_length, hx8]; have := post_length_le 61 (bl p); rw [bl_length] at this; omega
      refine Ev.bind (ref_Unquote _ (by rw [← bl_length, hpe]; omega)) (Ev.bind (ref_Unquote x8 hz8) ?_)
      rw [hpe, hx8]
      have hfs : formStep (some acc) p = (match unquoteL (pre 61 (bl p)), unquoteL (post 61 (bl p)) with | some a, some b => some (acc ++ [⟨ba a, ba b⟩]) | _, _ => none) := by
        unfold formStep pair1
        rw [if_neg h0]
        cases unquoteL (pre 61 (bl p)) <;> cases unquoteL (post 61 (bl p)) <;> rfl
      rw [hfs]
      cases h1 : unquoteL (pre 61 (bl p)) with
      | none =>
        simp only []
        rw [form_none]
        exact Ev.if_neg (by simp) (Ev.some _)
      | some a =>
        cases h2 : unquoteL (post 61 (bl p)) with
        | none =>
          simp only []
          rw [form_none]
          exact Ev.if_pos (by simp) (Ev.if_neg (by simp) (Ev.some _))
        | some b =>
          simp only []
          refine Ev.if_pos (by simp) (Ev.if_pos (by simp) (Ev.if_pos (by omega) ?_))
          rw [w64 (by omega) (by omega)]
          exact ih (i + 1) (acc ++ [⟨ba a, ba b⟩]) (by omega) (by simp; omega)
    by_cases hm : (61 : UInt8) ∈ bl p
    · have hlt2 := pre_lt_iff.2 hm
      rw [bl_length] at hlt2
      refine Ev.if_pos (by omega) (Ev.if_pos ?_ (Ev.if_pos ?_ ?_))
      · rw [w64 (by omega) (by omega)]; omega
      · rw [w64 (by omega) (by omega)]; omega
      · refine key _ ?_
        rw [w64 (by omega) (by omega), show ((((pre 61 (bl p)).length : Nat) : Int) + 1).toNat = (pre 61 (bl p)).length + 1 from by omega, ← post_extract p 61 hm, bl_ba]
    · refine Ev.if_neg (by rw [pre_of_not_mem hm, bl_length]; omega) (key _ ?_)
      rw [post_of_not_mem hm]; rfl
theorem ref_Form (s : ByteArray) (r : List Pr × Int) (h : pairs_Parse.f s = some r) : Ev (fun k => exequaturref01_Form.f k s) r := by
  rw [parse_f] at h
  obtain rfl := Option.some.inj h
  unfold exequaturref01_Form.f
  by_cases hs : 4096 < s.size
  · rw [if_pos hs]
    exact Ev.if_pos (by omega) (Ev.some _)
  · rw [if_neg hs]
    refine Ev.if_neg (by omega) (Ev.bind (ref_Split s 38 (by omega)) ?_)
    have h1 := spParts_sizes 38 s
    have h2 := spParts_length 38 s
    exact (form_from (spParts 38 s) (fun p hp => by have := h1 p hp; omega) (by omega) _ 0 [] (by simp; rfl) (by simp)).uni rfl

/-! Build -/
def pairL (p : Pr) : List UInt8 := quoteL (bl p.f0) ++ 61 :: quoteL (bl p.f1)
def buildL (l : List Pr) : List UInt8 := Lib.join (l.map pairL) [38]
def psz (p : Pr) : Nat := p.f0.size + p.f1.size
theorem pairL_length (p : Pr) : (pairL p).length ≤ 3 * psz p + 1 := by
  have h1 := quoteL_length (bl p.f0)
  have h2 := quoteL_length (bl p.f1)
  rw [bl_length] at h1 h2
  simp only [pairL, psz, List.length_append, List.length_cons]
  omega
theorem join_snoc (xs : List (List UInt8)) (x sep : List UInt8) (h : xs ≠ []) : Lib.join (xs ++ [x]) sep = Lib.join xs sep ++ (sep ++ x) := by
  cases xs with
  | nil => exact absurd rfl h
  | cons y r => rw [List.cons_append, Lib.join_cons, Lib.join_cons]; simp [Lib.joinTail]
theorem buildL_snoc (l : List Pr) (p : Pr) : buildL (l ++ [p]) = if l = [] then pairL p else buildL l ++ 38 :: pairL p := by
  unfold buildL
  split
  · rename_i h; subst h; simp [Lib.join_one]
  · rename_i h; rw [List.map_append, List.map_cons, List.map_nil, join_snoc _ _ _ (by simpa using h)]; simp
theorem buildL_cons (p q : Pr) (r : List Pr) : buildL (p :: q :: r) = pairL p ++ 38 :: buildL (q :: r) := by
  simp [buildL, Lib.join, List.intercalate, List.intersperse]
theorem buildL_one (p : Pr) : buildL [p] = pairL p := by simp [buildL, Lib.join_one]
theorem buildL_length (M : Nat) (l : List Pr) (h : ∀ p ∈ l, psz p ≤ M) : (buildL l).length ≤ l.length * (3 * M + 2) := by
  induction l with
  | nil => simp [buildL, Lib.join_nil]
  | cons p r ih =>
    have hp := pairL_length p
    have hm := h p List.mem_cons_self
    cases r with
    | nil => rw [buildL_one]; simp; omega
    | cons q r =>
      rw [buildL_cons]
      have := ih (fun p hp => h p (List.mem_cons_of_mem _ hp))
      simp only [List.length_append, List.length_cons, Nat.succ_mul, Nat.add_mul, Nat.one_mul] at this ⊢
      omega
def pairS (p : Pr) : ByteArray := (ba (quoteL (bl p.f0)) ++ (⟨#[61]⟩ : ByteArray)) ++ ba (quoteL (bl p.f1))
theorem bl_pairS (p : Pr) : bl (pairS p) = pairL p := by
  unfold pairS pairL
  rw [bl_append, bl_append, bl_ba, bl_ba, show bl (⟨#[61]⟩ : ByteArray) = [61] from rfl, List.append_assoc]; rfl
theorem rd_pr (l : List Pr) (i : Nat) (h : i < l.length) : rd_T30 l (i : Int) = l[i] := by simp [rd_T30, h]
theorem size_app (a b : ByteArray) : (a ++ b).size = a.size + b.size := ByteArray.size_append
theorem build_from (l : List Pr) (hs : ∀ p ∈ l, psz p ≤ 1048576) (hl : l.length ≤ 1048576) : ∀ n i, i + n = l.length → Ev (fun k => pairs_Build.l0 k ((l.take i).map pairS) l (l.length : Int) (i : Int)) (ba (buildL l)) := by
  have hbl := buildL_length 1048576 l hs
  intro n
  induction n with
  | zero =>
    intro i hi
    refine Ev.step (fun k => by rw [pairs_Build.l0]) ?_
    refine Ev.if_neg (by omega) ?_
    have hj : Lib.join (List.map bl (List.map pairS (l.take i))) (bl (⟨#[38]⟩ : ByteArray)) = buildL l := by
      rw [List.take_of_length_le (by omega), List.map_map]
      unfold buildL
      congr 1
      exact List.map_congr_left (fun p _ => bl_pairS p)
    refine Ev.bind (Ev.const (x := ba (buildL l)) ?_) (Ev.some _)
    unfold strings_Join.f
    rw [hj, if_pos]
    refine ⟨?_, by simp; omega⟩
    have : l.length * (3 * 1048576 + 2) ≤ 1048576 * (3 * 1048576 + 2) := Nat.mul_le_mul_right _ hl
    omega
  | succ n ih =>
    intro i hi
    have hlt : i < l.length := by omega
    refine Ev.step (fun k => by rw [pairs_Build.l0]) ?_
    obtain ⟨p, hp⟩ : ∃ p, l[i] = p := ⟨_, rfl⟩
    have hps := hs p (hp ▸ List.getElem_mem hlt)
    unfold psz at hps
    rw [rd_pr _ _ hlt, hp, w64 (by omega) (by omega)]
    have q0 := quoteL_length (bl p.f0)
    have q1 := quoteL_length (bl p.f1)
    rw [bl_length] at q0 q1
    refine Ev.if_pos (by omega) (Ev.if_pos (by omega) (Ev.if_pos (by omega) ?_))
    refine Ev.bind (Ev.const (x := ba (quoteL (bl p.f0))) (by unfold text_Quote.f; rw [if_pos (by omega)])) ?_
    refine Ev.if_pos (by rw [size_ba]; omega) ?_
    refine Ev.bind (Ev.const (x := ba (quoteL (bl p.f1))) (by unfold text_Quote.f; rw [if_pos (by omega)])) ?_
    refine Ev.if_pos (by rw [size_app, size_ba, size_ba]; simp only [show (⟨#[61]⟩ : ByteArray).size = 1 from rfl]; omega) (Ev.if_pos (by simp; omega) ?_)
    have := ih (i + 1) (by omega)
    rw [List.take_succ_eq_append_getElem hlt, List.map_append, hp] at this
    exact this
theorem build_f (l : List Pr) (hs : ∀ p ∈ l, psz p ≤ 1048576) (hl : l.length ≤ 1048576) : Ev (fun k => pairs_Build.f k l) (ba (buildL l)) := build_from l hs hl l.length 0 (by simp)
theorem rbuild_from (l : List Pr) (hs : ∀ p ∈ l, psz p ≤ 1048576) (hl : l.length ≤ 1048576) : ∀ n i, i + n = l.length → Ev (fun k => exequaturref01_Build.l0 k l (ba (buildL (l.take i))) (i : Int)) (ba (buildL l)) := by
  intro n
  induction n with
  | zero =>
    intro i hi
    refine Ev.step (fun k => by rw [exequaturref01_Build.l0]) ?_
    rw [List.take_of_length_le (by omega)]
    exact Ev.if_neg (by omega) (Ev.some _)
  | succ n ih =>
    intro i hi
    have hlt : i < l.length := by omega
    refine Ev.step (fun k => by rw [exequaturref01_Build.l0]) ?_
    obtain ⟨p, hp⟩ : ∃ p, l[i] = p := ⟨_, rfl⟩
    have hps := hs p (hp ▸ List.getElem_mem hlt)
    unfold psz at hps
    rw [rd_pr _ _ hlt, hp, w64 (by omega) (by omega)]
    have q0 := quoteL_length (bl p.f0)
    have q1 := quoteL_length (bl p.f1)
    rw [bl_length] at q0 q1
    have hbl := buildL_length 1048576 (l.take i) (fun p hp => hs p (List.mem_of_mem_take hp))
    rw [List.length_take, Nat.min_eq_left (by omega)] at hbl
    have hb2 : i * (3 * 1048576 + 2) ≤ 1048576 * (3 * 1048576 + 2) := Nat.mul_le_mul_right _ (by omega)
    have hbb : (buildL (l.take i)).length ≤ 3298537000000 := by omega
    clear hbl hb2
    have hrec := ih (i + 1) (by omega)
    rw [List.take_succ_eq_append_getElem hlt, buildL_snoc, hp] at hrec
    have z38 : (⟨#[38]⟩ : ByteArray).size = 1 := rfl
    have z61 : (⟨#[61]⟩ : ByteArray).size = 1 := rfl
    refine Ev.if_pos (by omega) ?_
    by_cases hi0 : i = 0
    · subst hi0
      refine Ev.if_neg (by omega) (Ev.if_pos (by omega) ?_)
      refine Ev.bind (ref_Quote p.f0 (by omega)) (Ev.if_pos ?_ (Ev.if_pos ?_ (Ev.bind (ref_Quote p.f1 (by omega)) (Ev.if_pos ?_ ?_))))
      · simp only [size_ba]; omega
      · simp only [size_app, size_ba]; omega
      · simp only [size_app, size_ba, z61]; omega
      · have e : ((ba (buildL (l.take 0)) ++ ba (quoteL (bl p.f0))) ++ (⟨#[61]⟩ : ByteArray)) ++ ba (quoteL (bl p.f1)) = ba (pairL p) := by
          apply bl_inj
          simp only [bl_append, bl_ba, show bl (⟨#[61]⟩ : ByteArray) = [61] from rfl, pairL]
          simp [buildL, Lib.join_nil]
        rw [e]
        simpa using hrec
    · refine Ev.if_pos (by omega) (Ev.if_pos ?_ (Ev.if_pos (by omega) ?_))
      · simp only [size_ba]; omega
      refine Ev.bind (ref_Quote p.f0 (by omega)) (Ev.if_pos ?_ (Ev.if_pos ?_ (Ev.bind (ref_Quote p.f1 (by omega)) (Ev.if_pos ?_ ?_))))
      · simp only [size_app, size_ba, z38]; omega
      · simp only [size_app, size_ba, z38]; omega
      · simp only [size_app, size_ba, z38, z61]; omega
      · have hne : l.take i ≠ [] := by
          intro h
          have := congrArg List.length h
          rw [List.length_take, List.length_nil] at this; omega
        have e : (((ba (buildL (l.take i)) ++ (⟨#[38]⟩ : ByteArray)) ++ ba (quoteL (bl p.f0))) ++ (⟨#[61]⟩ : ByteArray)) ++ ba (quoteL (bl p.f1)) = ba (buildL (l.take i) ++ 38 :: pairL p) := by
          apply bl_inj
          simp only [bl_append, bl_ba, show bl (⟨#[61]⟩ : ByteArray) = [61] from rfl, show bl (⟨#[38]⟩ : ByteArray) = [38] from rfl, pairL]
          simp
        rw [e]
        rw [if_neg hne] at hrec
        exact hrec
theorem ref_Build (l : List Pr) (hs : ∀ p ∈ l, psz p ≤ 1048576) (hl : l.length ≤ 1048576) : Ev (fun k => exequaturref01_Build.f k l) (ba (buildL l)) := rbuild_from l hs hl l.length 0 (by simp)

/-! parts that are pairs' forms -/
theorem splitL_hit (c : UInt8) (x r : List UInt8) (h : c ∉ x) : splitL c (x ++ c :: r) = x :: splitL c r := by
  induction x with
  | nil => simp [splitL]
  | cons y x ih =>
    simp only [List.mem_cons, not_or] at h
    rw [List.cons_append, splitL, if_neg (fun e => h.1 e.symm), ih h.2]
theorem splitL_miss (c : UInt8) (x : List UInt8) (h : c ∉ x) : splitL c x = [x] := by
  rw [splitL_eq, if_neg h, pre_of_not_mem h]
theorem pre_hit (c : UInt8) (x r : List UInt8) (h : c ∉ x) : pre c (x ++ c :: r) = x := by
  induction x with
  | nil => simp [pre]
  | cons y x ih =>
    simp only [List.mem_cons, not_or] at h
    have := ih h.2
    unfold pre at *
    rw [List.cons_append, List.takeWhile_cons, if_pos (bne_iff_ne.2 (fun e => h.1 e.symm)), this]
theorem post_hit (c : UInt8) (x r : List UInt8) (h : c ∉ x) : post c (x ++ c :: r) = r := by
  induction x with
  | nil => simp [post]
  | cons y x ih =>
    simp only [List.mem_cons, not_or] at h
    have := ih h.2
    unfold post at *
    rw [List.cons_append, List.dropWhile_cons, if_pos (bne_iff_ne.2 (fun e => h.1 e.symm)), this]
theorem quote1_fin : ∀ n : Fin 256, 38 ∉ quote1 n.val.toUInt8 ∧ 61 ∉ quote1 n.val.toUInt8 := by decide +kernel
theorem quote1_no (c : UInt8) : 38 ∉ quote1 c ∧ 61 ∉ quote1 c := by
  have h := quote1_fin ⟨c.toNat, c.toNat_lt⟩
  simp only [back8] at h
  exact h
theorem quoteL_no (l : List UInt8) : 38 ∉ quoteL l ∧ 61 ∉ quoteL l := by
  constructor <;> intro h <;> obtain ⟨c, _, hc⟩ := List.mem_flatMap.1 h
  · exact (quote1_no c).1 hc
  · exact (quote1_no c).2 hc
theorem unq1_fin : ∀ n : Fin 256, unquoteL (quote1 n.val.toUInt8) = some [n.val.toUInt8] := by decide +kernel
theorem plain_fin2 : ∀ n : Fin 256, plainc n.val.toUInt8 = true → n.val.toUInt8 ≠ 37 ∧ n.val.toUInt8 ≠ 43 := by decide +kernel
theorem great_fin2 : ∀ n : Fin 16, digv (greatc n.val) = (n.val : Int) := by decide +kernel
theorem unq_quote1 (c : UInt8) (r : List UInt8) : unquoteL (quote1 c ++ r) = (unquoteL r).map (c :: ·) := by
  unfold quote1
  split
  · rename_i h
    have h2 := plain_fin2 ⟨c.toNat, c.toNat_lt⟩
    simp only [back8] at h2
    have h3 := h2 h
    rw [List.singleton_append, unq_plain c r h3.1, if_neg h3.2]
  · have h256 := c.toNat_lt
    have d1 := great_fin2 ⟨c.toNat / 16, by omega⟩
    have d2 := great_fin2 ⟨c.toNat % 16, by omega⟩
    simp only at d1 d2
    show unquoteL (37 :: greatc (c.toNat / 16) :: greatc (c.toNat % 16) :: r) = _
    rw [unq_ok _ _ _ (by omega) (by omega), d1, d2]
    have : (16 * ((c.toNat / 16 : Nat) : Int).toNat + ((c.toNat % 16 : Nat) : Int).toNat).toUInt8 = c := by
      rw [show 16 * ((c.toNat / 16 : Nat) : Int).toNat + ((c.toNat % 16 : Nat) : Int).toNat = c.toNat from by omega, back8]
    rw [this]
theorem unq_quote (l : List UInt8) : unquoteL (quoteL l) = some l := by
  induction l with
  | nil => rfl
  | cons c r ih => rw [show quoteL (c :: r) = quote1 c ++ quoteL r from by simp [quoteL], unq_quote1, ih]; rfl
theorem pairL_no (p : Pr) : 38 ∉ pairL p := by
  unfold pairL
  have h0 := (quoteL_no (bl p.f0)).1
  have h1 := (quoteL_no (bl p.f1)).1
  simp only [List.mem_append, List.mem_cons, not_or]
  exact ⟨h0, by decide, h1⟩
theorem pair1_pairL (p : Pr) : pair1 (ba (pairL p)) = some p := by
  unfold pair1
  rw [bl_ba, pairL, pre_hit _ _ _ (quoteL_no _).2, post_hit _ _ _ (quoteL_no _).2, unq_quote, unq_quote]
  simp
/-- a form's pairs, behind those that are there -/
def formL (acc : Option (List Pr)) (l : List UInt8) : Option (List Pr) := ((splitL 38 l).map ba).foldl formStep acc
theorem formOf_L (s : ByteArray) : formOf (spParts 38 s) = formL (some []) (bl s) := rfl
theorem formL_amp (acc : Option (List Pr)) (r : List UInt8) : formL acc (38 :: r) = formL acc r := by
  unfold formL
  rw [splitL, if_pos rfl, List.map_cons, List.foldl_cons]
  congr 1
theorem formL_nil (acc : Option (List Pr)) : formL acc [] = acc := by
  unfold formL
  simp [splitL, formStep]
theorem formL_hit (acc : List Pr) (x r : List UInt8) (p : Pr) (h : 38 ∉ x) (hx : x ≠ []) (hp : pair1 (ba x) = some p) : formL (some acc) (x ++ 38 :: r) = formL (some (acc ++ [p])) r := by
  unfold formL
  rw [splitL_hit _ _ _ h, List.map_cons, List.foldl_cons]
  congr 1
  unfold formStep
  rw [if_neg (by rw [size_ba]; exact fun e => hx (List.length_eq_zero_iff.1 e)), hp]; rfl
theorem formL_last (acc : List Pr) (x : List UInt8) (p : Pr) (h : 38 ∉ x) (hx : x ≠ []) (hp : pair1 (ba x) = some p) : formL (some acc) x = some (acc ++ [p]) := by
  unfold formL
  rw [splitL_miss _ _ h]
  simp only [List.map_cons, List.map_nil, List.foldl_cons, List.foldl_nil]
  unfold formStep
  rw [if_neg (by rw [size_ba]; exact fun e => hx (List.length_eq_zero_iff.1 e)), hp]; rfl
theorem pairL_ne (p : Pr) : pairL p ≠ [] := by unfold pairL; simp
theorem formL_build (l acc : List Pr) : formL (some acc) (buildL l) = some (acc ++ l) := by
  induction l generalizing acc with
  | nil => rw [show buildL [] = [] from rfl, formL_nil]; simp
  | cons p r ih =>
    cases r with
    | nil => rw [buildL_one, formL_last acc _ p (pairL_no p) (pairL_ne p) (pair1_pairL p)]
    | cons q r =>
      rw [buildL_cons, formL_hit acc _ _ p (pairL_no p) (pairL_ne p) (pair1_pairL p), ih]
      simp
end Go.Proofs.YtibfhaekomflpaaDoor.X
