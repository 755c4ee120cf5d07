/- Ours: the plain laws of chapter 24: lines, steps, texts. -/
import Derived.Test.YtjfajkdamechiaaDoorHNums
import Derived.Test.YtjfajkdamechiaaDoorHRefB64
import Derived.Test.YtjfajkdamechiaaDoorX9
import Derived.Test.YtjfajkdamechiaaDoorX8
namespace Go.Proofs.YtjfajkdamechiaaDoor.X
open Go.RowKit Go.Proofs.YtjfajkdamechiaaDoorW.PrintWords Go.Proofs.YtjfajkdamechiaaDoor.Spec
set_option linter.unusedVariables false
set_option linter.unusedSimpArgs false

/-! ### splitting -/
theorem split_none (c : UInt8) (a : List UInt8) (h : c ∉ a) : splitL c a = [a] := by
  rw [splitL_eq, if_neg h, pre_of_not_mem h]
theorem split_one (c : UInt8) (a b : List UInt8) (h : c ∉ a) : splitL c (a ++ c :: b) = a :: splitL c b := by
  induction a with
  | nil => simp [splitL]
  | cons x r ih =>
    simp only [List.mem_cons, not_or] at h
    rw [List.cons_append, splitL, if_neg (fun e => h.1 e.symm), ih h.2]
theorem pre_stop (c : UInt8) (a b : List UInt8) (h : c ∉ a) : pre c (a ++ c :: b) = a ∧ post c (a ++ c :: b) = b := by
  have e := split_one c a b h
  induction a with
  | nil => simp [pre, post]
  | cons x r ih =>
    simp only [List.mem_cons, not_or] at h
    have hx : (x != c) = true := bne_iff_ne.2 (fun e => h.1 e.symm)
    have hi := ih h.2 (split_one c r b h.2)
    unfold pre post at *
    rw [List.cons_append, List.takeWhile_cons, if_pos hx, List.dropWhile_cons, if_pos hx, hi.1]
    exact ⟨rfl, hi.2⟩
theorem dSt_mem : ∀ (l : List UInt8) (s t : ES), dSt s l = some t → ∀ c ∈ l, ¬ letter c < 0
  | [], _, _, _, c, hc => by cases hc
  | x :: r, s, t, h, c, hc => by
    unfold dSt at h
    split at h
    · cases h
    · rename_i hx
      rcases List.mem_cons.1 hc with rfl | hc
      · exact hx
      · exact dSt_mem r _ t h c hc
theorem enc_no (l : List UInt8) (c : UInt8) (hc : letter c < 0) : c ∉ encL l := by
  intro h
  have hd := dec_enc l
  unfold decL at hd
  obtain ⟨t, ht, _⟩ := Option.map_eq_some_iff.1 hd
  exact dSt_mem _ _ t ht c h hc
theorem word_no (t : ByteArray) (c : UInt8) (hc : letter c < 0) (h : c ≠ 120) : c ∉ wordL t := by
  intro hm
  rcases List.mem_cons.1 hm with hm | hm
  · exact h hm
  · exact enc_no _ c hc hm
theorem tail_no (l : List ByteArray) (c : UInt8) (hc : letter c < 0) (h : c ≠ 120) (h2 : c ≠ 32) : c ∉ tailL l := by
  intro hm
  obtain ⟨t, _, ht⟩ := List.mem_flatMap.1 hm
  rcases List.mem_cons.1 ht with ht | ht
  · exact h2 ht
  · exact word_no t c hc h ht
theorem letter10 : letter 10 < 0 := by decide +kernel
theorem letter32 : letter 32 < 0 := by decide +kernel
theorem line_no10 (s : S36) : (10 : UInt8) ∉ lineB s := by
  unfold lineB
  intro h
  rcases List.mem_append.1 h with h | h
  · exact itoa_no _ 10 (by decide) h
  · rcases List.mem_cons.1 h with h | h
    · cases h
    · rcases List.mem_append.1 h with h | h
      · exact itoa_no _ 10 (by decide) h
      · exact tail_no _ 10 letter10 (by decide) (by decide) h
theorem split_tail : ∀ (ws : List ByteArray) (h : List UInt8), (32 : UInt8) ∉ h → splitL 32 (h ++ tailL ws) = h :: ws.map wordL
  | [], h, hn => by simpa [tailL] using split_none 32 h hn
  | t :: r, h, hn => by
    have ih := split_tail r (wordL t) (word_no t 32 letter32 (by decide))
    have e : h ++ tailL (t :: r) = h ++ 32 :: (wordL t ++ tailL r) := by simp [tailL]
    rw [e, split_one 32 h _ hn, ih]
    rfl
theorem split_line (s : S36) : splitL 32 (lineB s) = Lib.itoa s.f0 :: Lib.itoa s.f1 :: (stW s).map wordL := by
  unfold lineB
  rw [split_one 32 _ _ (itoa_no _ 32 (by decide)), split_tail _ _ (itoa_no _ 32 (by decide))]
theorem isWord_word (t : ByteArray) : isWord (wordL t) = true ∧ ba (decR (inner (wordL t))).1 = t := by
  have hp : Lib.hasPrefix (wordL t) [120] = true := by simp [Lib.hasPrefix, wordL, List.isPrefixOf]
  have hi : inner (wordL t) = encL (bl t) := by
    unfold inner Lib.trimPrefix
    rw [if_pos hp]; rfl
  unfold isWord
  rw [hp, hi, decR_enc]
  exact ⟨rfl, ba_bl t⟩
theorem wdG_words : ∀ ws : List ByteArray, wdG (ws.map wordL) = some ws
  | [] => rfl
  | t :: r => by
    have h := isWord_word t
    rw [List.map_cons, wdG, if_pos h.1, wdG_words r, h.2]; rfl
theorem mkS_self (s : S36) : mkS s.f0 s.f1 (stW s) = s := rfl
theorem step_line (s : S36) (h : stOk s) : stepR (lineB s) = (s, true) := by
  have h0 := at_itoa s.f0 h.1.1 h.1.2
  have h1 := at_itoa s.f1 h.2.1.1 h.2.1.2
  have hl : ¬ ((Lib.itoa s.f0 :: Lib.itoa s.f1 :: (stW s).map wordL).length < 12) := by simp [stW]
  unfold stepR
  rw [split_line, stepOf, if_neg hl]
  have d2 : (Lib.itoa s.f0 :: Lib.itoa s.f1 :: (stW s).map wordL).drop 2 = (stW s).map wordL := rfl
  have g0 : (Lib.itoa s.f0 :: Lib.itoa s.f1 :: (stW s).map wordL).getD 0 [] = Lib.itoa s.f0 := rfl
  have g1 : (Lib.itoa s.f0 :: Lib.itoa s.f1 :: (stW s).map wordL).getD 1 [] = Lib.itoa s.f1 := rfl
  rw [d2, g0, g1, wdG_words, h0.1, h0.2, h1.1, h1.2, stepEnd, mkS_self]
  simp [lineL]
theorem step_sound (s : List UInt8) (h : (stepR s).2 = true) : lineL (stepR s).1 = s ++ [10] := by
  unfold stepR stepOf at *
  split at h
  · cases h
  · rename_i hl
    rw [if_neg hl]
    cases hw : wdG ((splitL 32 s).drop 2) with
    | none => rw [hw] at h; cases h
    | some t =>
      rw [hw] at h
      simp only [stepEnd, Bool.and_eq_true] at h ⊢
      exact of_decide_eq_true h.2
theorem step_ok (s : List UInt8) (hs : s.length ≤ 1000000000) : stOk (stepR s).1 := by
  unfold stepR stepOf
  have hz : stOk z36 := by decide
  split
  · exact hz
  · rename_i hl
    cases hw : wdG ((splitL 32 s).drop 2) with
    | none => exact hz
    | some t =>
      obtain ⟨h1, h2⟩ := wdG_len _ _ hw
      have h3 := sum_drop (splitL 32 s) 2
      rw [split_sum] at h3
      exact mkS_ok _ _ t (atv_range _) (atv_range _) (by rw [h1, List.length_drop]; omega) (by omega)

/-! ### Parse -/
def pG : Nat → List UInt8 → List S36 → Int → List S36 × Int × Int
  | 0, _, acc, n => (acc, 0, 0)
  | f + 1, s, acc, n => if s = [] then (acc, 0, 0) else if (stepR (pre 10 s)).2 = true then (if (10 : UInt8) ∈ s then pG f (post 10 s) (acc ++ [(stepR (pre 10 s)).1]) (n + 1) else ([], n, 11)) else ([], n, 11)
theorem toList_ba (l : List UInt8) : (ba l).toList = l := by rw [toList_bl, bl_ba]
theorem post_length (c : UInt8) (l : List UInt8) (h : c ∈ l) : (post c l).length + 1 ≤ l.length := by
  have := congrArg List.length (pre_post h)
  simp only [List.length_append, List.length_cons] at this
  omega
theorem parse_ev : ∀ (f : Nat) (s : List UInt8) (acc : List S36) (n : Int), s.length < f → s.length ≤ 1000000000 → acc.length + s.length ≤ 1000000000 → 0 ≤ n → n + s.length ≤ 10000000000 → Ev (fun k => script_Parse.l0 k (ba s) acc n) (pG f s acc n)
  | 0, s, acc, n, hf, _, _, _, _ => by omega
  | f + 1, s, acc, n, hf, hs, ha, hn0, hn => by
    refine Ev.step (fun k => by rw [script_Parse.l0]) ?_
    unfold pG
    by_cases h0 : s = []
    · rw [if_pos h0]
      exact Ev.if_pos (by rw [toList_ba]; exact h0) (Ev.some _)
    · rw [if_neg h0]
      refine Ev.if_neg (by rw [toList_ba]; exact h0) ?_
      have hcut : strings_Cut.f (ba s) ⟨#[10]⟩ = some (ba (pre 10 s), ba (post 10 s), decide ((10 : UInt8) ∈ s)) := by
        unfold strings_Cut.f
        rw [show bl (⟨#[10]⟩ : ByteArray) = [10] from rfl]
        simp only
        rw [if_pos (by rw [size_ba]; omega), bl_ba]
      have hpl := pre_length_le 10 s
      have hst : ∃ x : S36 × Bool, x = stepR (pre 10 s) := ⟨_, rfl⟩
      obtain ⟨x, hx⟩ := hst
      have hstep : script_step.f (ba (pre 10 s)) = some (x.1.f0, x.1.f1, x.1.f2.f0, x.1.f2.f1, x.1.f2.f2, x.1.f2.f3, x.1.f2.f4, x.1.f2.f5, x.1.f3, x.1.f4, x.1.f5, x.1.f6, x.1.f7, x.2) := by
        unfold script_step.f
        rw [if_pos (by rw [size_ba]; omega), bl_ba, ← hx]
      rw [← hx]
      simp only [hcut, Option.bind_some, hstep]
      by_cases h1 : x.2 = true
      · rw [if_pos h1]
        refine Ev.if_pos h1 ?_
        by_cases h2 : (10 : UInt8) ∈ s
        · rw [if_pos h2]
          have hp := post_length 10 s h2
          refine Ev.if_pos (decide_eq_true h2) (Ev.if_pos (by omega) ?_)
          rw [w64 (n := n + 1) (by omega) (by omega)]
          exact parse_ev f (post 10 s) (acc ++ [x.1]) (n + 1) (by omega) (by omega) (by rw [List.length_append]; simp only [List.length_cons, List.length_nil]; omega) (by omega) (by omega)
        · rw [if_neg h2]
          exact Ev.if_neg (by rw [decide_eq_false h2]; simp) (Ev.some _)
      · rw [if_neg h1]
        exact Ev.if_neg h1 (Ev.some _)
def parseR (s : List UInt8) : List S36 × Int × Int := pG (s.length + 1) s [] 1
theorem parse_f (s : List UInt8) (hs : s.length ≤ 1000000000) : Ev (fun k => script_Parse.f k (ba s)) (parseR s) :=
  parse_ev (s.length + 1) s [] 1 (by omega) hs (by simpa using hs) (by omega) (by omega)
theorem textL_cons (s : S36) (r : List S36) : textL (s :: r) = lineB s ++ 10 :: textL r := by simp [textL, lineL]
theorem parse_lines : ∀ (l : List S36) (rest : List UInt8) (acc : List S36) (n : Int) (f : Nat), (∀ s ∈ l, stOk s) → (textL l ++ rest).length < f → ∃ f', rest.length < f' ∧ pG f (textL l ++ rest) acc n = pG f' rest (acc ++ l) (n + l.length)
  | [], rest, acc, n, f, _, hf => ⟨f, by simpa [textL] using hf, by simp [textL]⟩
  | s :: r, rest, acc, n, 0, _, hf => by omega
  | s :: r, rest, acc, n, f + 1, hok, hf => by
    have e : textL (s :: r) ++ rest = lineB s ++ 10 :: (textL r ++ rest) := by rw [textL_cons]; simp
    rw [e] at hf ⊢
    have hp := pre_stop 10 (lineB s) (textL r ++ rest) (line_no10 s)
    have hst := step_line s (hok s (List.mem_cons_self ..))
    obtain ⟨f', h1, h2⟩ := parse_lines r rest (acc ++ [s]) (n + 1) f (fun x hx => hok x (List.mem_cons_of_mem _ hx)) (by simp only [List.length_append, List.length_cons] at hf ⊢; omega)
    refine ⟨f', h1, ?_⟩
    rw [pG, if_neg (by simp), hp.1, hp.2, hst, if_pos rfl, if_pos (by simp), h2, List.append_assoc]
    congr 1
    simp only [List.length_cons]; omega
theorem parse_text (l : List S36) (hok : ∀ s ∈ l, stOk s) : parseR (textL l) = (l, 0, 0) := by
  obtain ⟨f', h1, h2⟩ := parse_lines l [] [] 1 ((textL l).length + 1) hok (by simp)
  rw [List.append_nil] at h2
  unfold parseR
  rw [h2]
  cases f' with
  | zero => simp at h1
  | succ f' => simp [pG]

/-! ### the law's own text -/
theorem ref_dec (n : Int) (h : in64 n) : exequaturref01_Dec.f n = some (ba (Lib.itoa n)) := by
  unfold exequaturref01_Dec.f
  rw [if_pos ⟨h.1, h.2⟩]
theorem text_in (l : List S36) (i : Nat) (t : List ByteArray) (X : ByteArray) (ht : szs t ≤ 1000000000000) (hi : i ≤ 1000000000000) : ∀ n j (out : List UInt8), j + n = t.length → out.length + 3 * szs (t.drop j) ≤ 5000000000000000000 →
    Ev (fun k => exequaturlaw24_text.l0 k l (ba (out ++ tailL (t.drop j) ++ [10])) ((i + 1 : Nat) : Int)) X → Ev (fun k => exequaturlaw24_text.l1 k l (ba out) (i : Int) t (j : Int)) X := by
  have hl := szs_len t
  intro n
  induction n with
  | zero =>
    intro j out hj hb hX
    rw [List.drop_of_length_le (by omega)] at hX
    refine Ev.step (fun k => by rw [exequaturlaw24_text.l1]) ?_
    refine Ev.if_neg (by omega) (Ev.if_pos (by rw [size_ba]; omega) ?_)
    rw [w64 (n := (i : Int) + 1) (by omega) (by omega), show (i : Int) + 1 = ((i + 1 : Nat) : Int) from by omega]
    have e : ba out ++ (⟨#[10]⟩ : ByteArray) = ba (out ++ tailL [] ++ [10]) := by
      apply bl_inj
      rw [bl_append, bl_ba, bl_ba]
      simp [tailL]; rfl
    rw [e]
    exact hX
  | succ n ih =>
    intro j out hj hb hX
    have hlt : j < t.length := by omega
    have hd : t.drop j = t[j]'hlt :: t.drop (j + 1) := List.drop_eq_getElem_cons hlt
    have hm := szs_mem (List.getElem_mem hlt)
    rw [hd] at hb hX
    rw [szs_cons] at hb
    have he := encL_length (bl (t[j]'hlt))
    rw [bl_length] at he
    refine Ev.step (fun k => by rw [exequaturlaw24_text.l1]) ?_
    refine Ev.if_pos (by omega) (Ev.if_pos (by rw [size_ba]; omega) (Ev.if_pos (by omega) ?_))
    have hr : rdOf ByteArray.empty t (j : Int) = t[j]'hlt := by simp [rdOf, List.getD_eq_getElem?_getD, List.getElem?_eq_getElem hlt]
    rw [hr]
    refine Ev.bind (ref_B64 _ (by omega)) ?_
    refine Ev.if_pos (by rw [ByteArray.size_append, size_ba, size_ba, show (⟨#[32, 120]⟩ : ByteArray).size = 2 from rfl]; omega) ?_
    rw [w64 (n := (j : Int) + 1) (by omega) (by omega), show (j : Int) + 1 = ((j + 1 : Nat) : Int) from by omega]
    have e : ba out ++ (⟨#[32, 120]⟩ : ByteArray) ++ ba (encL (bl (t[j]'hlt))) = ba (out ++ 32 :: wordL (t[j]'hlt)) := by
      apply bl_inj
      rw [bl_append, bl_append, bl_ba, bl_ba, bl_ba, show bl (⟨#[32, 120]⟩ : ByteArray) = [32, 120] from rfl]
      simp [wordL]
    rw [e]
    refine ih (j + 1) _ (by omega) (by simp only [List.length_append, List.length_cons, wordL]; omega) ?_
    have e2 : out ++ tailL (t[j]'hlt :: t.drop (j + 1)) ++ [10] = out ++ 32 :: wordL (t[j]'hlt) ++ tailL (t.drop (j + 1)) ++ [10] := by
      rw [show tailL (t[j]'hlt :: t.drop (j + 1)) = (32 :: wordL (t[j]'hlt)) ++ tailL (t.drop (j + 1)) from rfl]
      simp only [List.append_assoc, List.cons_append]
    rw [e2] at hX
    exact hX
theorem text_out (l : List S36) (hok : ∀ s ∈ l, stOk s) (hl : l.length ≤ 1000000) : ∀ n i (out : List UInt8), i + n = l.length → out.length ≤ i * 4000000000000 → Ev (fun k => exequaturlaw24_text.l0 k l (ba out) (i : Int)) (ba (out ++ textL (l.drop i))) := by
  intro n
  induction n with
  | zero =>
    intro i out hi ho
    rw [List.drop_of_length_le (by omega)]
    refine Ev.step (fun k => by rw [exequaturlaw24_text.l0]) ?_
    refine Ev.if_neg (by omega) ?_
    simpa [textL] using Ev.some (ba out)
  | succ n ih =>
    intro i out hi ho
    have hlt : i < l.length := by omega
    have hd : l.drop i = l[i]'hlt :: l.drop (i + 1) := List.drop_eq_getElem_cons hlt
    have hm := hok _ (List.getElem_mem hlt)
    have hz := hm.2.2
    have hr : rd_T36 l (i : Int) = l[i]'hlt := by simp [rd_T36, List.getD_eq_getElem?_getD, List.getElem?_eq_getElem hlt]
    rw [hd]
    generalize l[i]'hlt = s at hm hz hr
    have h0 := itoa_short s.f0 hm.1
    have h1 := itoa_short s.f1 hm.2.1
    have h7 : s.f7.length + 10 = (stW s).length := by simp [stW]
    have hzl := szs_len (stW s)
    refine Ev.step (fun k => by rw [exequaturlaw24_text.l0]) ?_
    refine Ev.if_pos (by omega) (Ev.if_pos (by omega) ?_)
    simp only [hr, ref_dec _ hm.1, ref_dec _ hm.2.1, Option.bind_some]
    have hol : out.length ≤ 4000000000000000000 := by omega
    refine Ev.if_pos (by rw [size_ba, size_ba]; omega) (Ev.if_pos (by rw [ByteArray.size_append, size_ba, size_ba]; omega) (Ev.if_pos (by rw [ByteArray.size_append, ByteArray.size_append, size_ba, size_ba, size_ba, show (⟨#[32]⟩ : ByteArray).size = 1 from rfl]; omega) (Ev.if_pos (by simp only [List.length_cons, List.length_nil]; omega) ?_)))
    have e : ba out ++ ba (Lib.itoa s.f0) ++ (⟨#[32]⟩ : ByteArray) ++ ba (Lib.itoa s.f1) = ba (out ++ (Lib.itoa s.f0 ++ 32 :: Lib.itoa s.f1)) := by
      apply bl_inj
      rw [bl_append, bl_append, bl_append, bl_ba, bl_ba, bl_ba, bl_ba, show bl (⟨#[32]⟩ : ByteArray) = [32] from rfl]
      simp
    rw [e]
    have hw : ([s.f2.f0, s.f2.f1, s.f2.f2, s.f2.f3, s.f2.f4, s.f2.f5, s.f3, s.f4, s.f5, s.f6] ++ s.f7 : List ByteArray) = stW s := rfl
    rw [hw]
    have htl := tailL_length (stW s)
    have hll : (Lib.itoa s.f0 ++ 32 :: Lib.itoa s.f1).length ≤ 43 := by simp only [List.length_append, List.length_cons]; omega
    have hX := ih (i + 1) (out ++ (Lib.itoa s.f0 ++ 32 :: Lib.itoa s.f1) ++ tailL (stW s) ++ [10]) (by omega) (by simp only [List.length_append, List.length_cons, List.length_nil] at hll ⊢; omega)
    have e3 : out ++ (Lib.itoa s.f0 ++ 32 :: Lib.itoa s.f1) ++ tailL (stW s) ++ [10] ++ textL (l.drop (i + 1)) = out ++ textL (s :: l.drop (i + 1)) := by
      rw [textL_cons]
      simp only [lineB, List.append_assoc, List.cons_append, List.nil_append]
    rw [e3] at hX
    exact text_in l i (stW s) _ hz (by omega) (stW s).length 0 _ (by omega) (by rw [List.length_append, List.drop_zero]; omega) hX
theorem text_f (l : List S36) (hok : ∀ s ∈ l, stOk s) (hl : l.length ≤ 1000000) : Ev (fun k => exequaturlaw24_text.f k l) (ba (textL l)) := by
  exact text_out l hok hl l.length 0 [] (by omega) (by simp)

/-! ### sizes -/
def tot (l : List S36) : Nat := (l.map fun x => B36 x).sum
theorem b_szs (s : S36) : szs (stW s) + 2 ≤ B36 s := by
  have h : szs (stW s) = szs [s.f2.f0, s.f2.f1, s.f2.f2, s.f2.f3, s.f2.f4, s.f2.f5, s.f3, s.f4, s.f5, s.f6] + szs s.f7 := by simp [stW, szs]; omega
  have h7 : B31 s.f7 = szs s.f7 + 1 := rfl
  rw [h]
  unfold B36 B34
  rw [h7]
  simp only [szs_cons, show szs ([] : List ByteArray) = 0 from rfl]
  omega
theorem tot_mem {s : S36} {l : List S36} (h : s ∈ l) : B36 s ≤ tot l := by
  induction l with
  | nil => cases h
  | cons x r ih =>
    simp only [tot, List.map_cons, List.sum_cons] at *
    rcases List.mem_cons.1 h with rfl | h
    · omega
    · have := ih h; omega
theorem tot_len (l : List S36) (hi : ∀ s ∈ l, in64 s.f0 ∧ in64 s.f1) : l.length * 2 ≤ tot l ∧ (textL l).length ≤ 50 * tot l := by
  induction l with
  | nil => simp [tot, textL]
  | cons x r ih =>
    have hb := b_szs x
    have h3 := tailL_length (stW x)
    have hx := hi x (List.mem_cons_self ..)
    have h1 := itoa_short _ hx.1
    have h2 := itoa_short _ hx.2
    have ih := ih (fun s hs => hi s (List.mem_cons_of_mem _ hs))
    have e : (textL (x :: r)).length = (lineB x).length + 1 + (textL r).length := by rw [textL_cons]; simp; omega
    have e2 : (lineB x).length = (Lib.itoa x.f0).length + 1 + (Lib.itoa x.f1).length + (tailL (stW x)).length := by simp [lineB]; omega
    rw [e, e2]
    simp only [tot, List.map_cons, List.sum_cons, List.length_cons] at *
    omega
theorem wf_ok {l : List S36} (hb : B22 l ≤ 1048577) (g : G22 l) : (∀ s ∈ l, stOk s) ∧ l.length ≤ 600000 ∧ (textL l).length ≤ 60000000 := by
  have ht : B22 l = tot l + 1 := rfl
  have hi : ∀ s ∈ l, in64 s.f0 ∧ in64 s.f1 := fun s hs => ⟨wf_i64 (g s hs).1, wf_i64 (g s hs).2.1⟩
  have h := tot_len l hi
  refine ⟨fun s hs => ⟨(hi s hs).1, (hi s hs).2, ?_⟩, by omega, by omega⟩
  have h1 := b_szs s
  have h2 := tot_mem hs
  omega
theorem small_f (l : List S36) (hok : ∀ s ∈ l, stOk s) (hl : l.length ≤ 600000) : exequaturlaw24_small.f l = some (smallG 0 l) := by
  unfold exequaturlaw24_small.f
  rw [if_pos ⟨by omega, fun s hs => (hok s hs).2.2⟩]
theorem print_f (l : List S36) (hok : ∀ s ∈ l, stOk s) (hl : l.length ≤ 600000) (ht : (textL l).length ≤ 60000000) : script_Print.f l = some (ba (textL l)) := by
  unfold script_Print.f
  rw [if_pos ⟨by omega, by omega, hok⟩]
def one0 : S36 := ⟨3, (-5), (⟨(⟨#[]⟩ : ByteArray), (⟨#[]⟩ : ByteArray), (⟨#[]⟩ : ByteArray), (⟨#[]⟩ : ByteArray), (⟨#[]⟩ : ByteArray), (⟨#[]⟩ : ByteArray)⟩ : S34), (⟨#[]⟩ : ByteArray), (⟨#[]⟩ : ByteArray), (⟨#[]⟩ : ByteArray), (⟨#[]⟩ : ByteArray), ([] : List ByteArray)⟩
theorem one0_text : textL [one0] = [51, 32, 45, 53, 32, 120, 32, 120, 32, 120, 32, 120, 32, 120, 32, 120, 32, 120, 32, 120, 32, 120, 32, 120, 10] := by
  have d : ∀ n, n < 10 → Lib.decDigits n = [UInt8.ofNat (48 + n)] := fun n h => by rw [Lib.decDigits, dif_pos h]
  have i3 : Lib.itoa 3 = [51] := by unfold Lib.itoa; rw [if_neg (by omega), d _ (by decide)]; rfl
  have i5 : Lib.itoa (-5) = [45, 53] := by unfold Lib.itoa; rw [if_pos (by omega), d _ (by decide)]; rfl
  have e : textL [one0] = Lib.itoa 3 ++ 32 :: (Lib.itoa (-5) ++ tailL (stW one0)) ++ [10] := by simp [textL, lineL, lineB, one0]
  rw [e, i3, i5]
  rfl
theorem one0_ok : ∀ s ∈ [one0], stOk s := by
  intro s hs
  rw [List.mem_singleton.1 hs]
  decide
theorem answers_ev : Ev (fun k => exequaturlaw24_answers.f k) true := by
  unfold exequaturlaw24_answers.f
  have hp := print_f [one0] one0_ok (by simp) (by rw [one0_text]; decide)
  have hq := parse_f (textL [one0]) (by rw [one0_text]; decide)
  rw [parse_text [one0] one0_ok] at hq
  refine Ev.bind (Ev.const hp) (Ev.bind hq ?_)
  refine Ev.if_pos (by rw [toList_ba, one0_text]) (Ev.if_pos rfl (Ev.if_pos rfl (Ev.if_pos (by decide) ?_)))
  exact Ev.const rfl
theorem ends_ev : Ev (fun k => (exequaturlaw24_answers.f k).bind fun t => (some t)) true := Ev.bind answers_ev (Ev.some true)
theorem same_ev (l : List S36) (hok : ∀ s ∈ l, stOk s) (hl : l.length ≤ 600000) : Ev (fun k => exequaturlaw24_same.f k l l) true := by
  unfold exequaturlaw24_same.f
  refine Ev.if_pos rfl (Ev.bind (text_f l hok (by omega)) (Ev.bind (text_f l hok (by omega)) ?_))
  exact Ev.const (by rw [beq_self_eq_true])
end Go.Proofs.YtjfajkdamechiaaDoor.X
