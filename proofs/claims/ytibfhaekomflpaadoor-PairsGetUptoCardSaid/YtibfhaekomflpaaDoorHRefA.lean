/- Ours: what the reference's functions on texts answer. -/
import Derived.Test.YtibfhaekomflpaaDoorHEv
import Derived.Test.YtibfhaekomflpaaDoorHLib
import Derived.Test.YtibfhaekomflpaaDoorHSplitSeq
import Derived.Test.YtibfhaekomflpaaDoorX6
import Derived.Test.YtibfhaekomflpaaDoorX7
import Derived.Test.YtibfhaekomflpaaDoorX12
namespace Go.Proofs.YtibfhaekomflpaaDoor.X
open Go.RowKit Go.Proofs.YtibfhaekomflpaaDoorW.PrintWords Go.Proofs.YtibfhaekomflpaaDoor.Spec
set_option linter.unusedVariables false
set_option linter.unusedSimpArgs false

theorem pre_extract_any (s : ByteArray) (c : UInt8) : bl (s.extract 0 (pre c (bl s)).length) = pre c (bl s) := by
  by_cases hm : c ∈ bl s
  · rw [← pre_extract s c hm, bl_ba]
  · rw [pre_of_not_mem hm, bl_length]
    rw [show bl (s.extract 0 s.size) = (s.extract 0 s.size).data.toList from rfl, Lib.extract_eq]
    simp only [Nat.sub_zero, List.drop_zero]
    rw [Lib.size_eq]; exact List.take_length

/-! at -/
theorem at_from (s : ByteArray) (c : UInt8) (hs : s.size ≤ 4611686018427387904) : ∀ n i, i + n = (pre c (bl s)).length → Ev (fun k => exequaturref01_at.l0 k s (c.toNat : Int) (i : Int)) ((pre c (bl s)).length : Int) := by
  have hp := pre_length_le c (bl s)
  rw [bl_length] at hp
  intro n
  induction n with
  | zero =>
    intro i hi
    simp only [Nat.add_zero] at hi
    refine Ev.step (fun k => by rw [exequaturref01_at.l0]) ?_
    by_cases hlt : i < s.size
    · refine Ev.if_pos (by omega) (Ev.if_pos (by omega) (Ev.if_pos ?_ ?_))
      · rw [bt_get s i hlt, toNat_inj]
        have := pre_at (c := c) (l := bl s) (by rw [bl_length]; omega)
        simp only [hi]; exact this
      · rw [hi]; exact Ev.some _
    · refine Ev.if_neg (by omega) ?_
      exact (Ev.some _).uni (by omega)
  | succ n ih =>
    intro i hi
    refine Ev.step (fun k => by rw [exequaturref01_at.l0]) ?_
    refine Ev.if_pos (by omega) (Ev.if_pos (by omega) (Ev.if_neg ?_ ?_))
    · rw [bt_get s i (by omega), toNat_inj]
      obtain ⟨_, h⟩ := pre_get (c := c) (l := bl s) (i := i) (by omega)
      exact h
    · rw [w64 (by omega) (by omega)]
      exact ih (i + 1) (by omega)
theorem ref_at (s : ByteArray) (c : UInt8) (hs : s.size ≤ 4611686018427387904) : Ev (fun k => exequaturref01_at.f k s (c.toNat : Int)) ((pre c (bl s)).length : Int) :=
  at_from s c hs (pre c (bl s)).length 0 (by simp)

/-! Split -/
theorem split_from (c : UInt8) : ∀ n (s : ByteArray) (acc : List ByteArray), s.size ≤ n → n ≤ 4611686018427387904 → acc.length + n < 8796093022208 → Ev (fun k => exequaturref01_Split.l0 k s (c.toNat : Int) acc) (acc ++ spParts c s) := by
  intro n
  induction n with
  | zero =>
    intro s acc hs hn ha
    have hp := pre_length_le c (bl s)
    rw [bl_length] at hp
    refine Ev.step (fun k => by rw [exequaturref01_Split.l0]) ?_
    refine Ev.bind (ref_at s c (by omega)) ?_
    refine Ev.if_pos (by omega) (Ev.if_pos (by omega) (Ev.if_pos (by omega) ?_))
    refine Ev.bind (Ev.some _) (Ev.if_pos (by omega) ?_)
    have hm : c ∉ bl s := by rw [← pre_lt_iff, bl_length]; omega
    rw [spParts_miss c s hm]
    refine (Ev.some _).uni ?_
    congr 2
    apply bl_inj
    rw [show ((((pre c (bl s)).length : Nat) : Int)).toNat = (pre c (bl s)).length from by omega, pre_extract_any s c, pre_of_not_mem hm]
  | succ n ih =>
    intro s acc hs hn ha
    have hp := pre_length_le c (bl s)
    rw [bl_length] at hp
    refine Ev.step (fun k => by rw [exequaturref01_Split.l0]) ?_
    refine Ev.bind (ref_at s c (by omega)) ?_
    refine Ev.if_pos (by omega) (Ev.if_pos (by omega) (Ev.if_pos (by omega) ?_))
    refine Ev.bind (Ev.some _) ?_
    by_cases hm : c ∈ bl s
    · have hlt := pre_lt_iff.2 hm
      rw [bl_length] at hlt
      refine Ev.if_neg (by omega) (Ev.if_pos ?_ (Ev.if_pos ?_ ?_))
      · rw [w64 (by omega) (by omega)]; omega
      · rw [w64 (by omega) (by omega)]; omega
      · rw [w64 (by omega) (by omega), show ((((pre c (bl s)).length : Nat) : Int) + 1).toNat = (pre c (bl s)).length + 1 from by omega, show ((((pre c (bl s)).length : Nat) : Int)).toNat = (pre c (bl s)).length from by omega, spParts_hit c s hm]
        have hsz : (s.extract ((pre c (bl s)).length + 1) s.size).size ≤ n := by rw [ByteArray.size_extract]; omega
        refine (ih _ (acc ++ [s.extract 0 (pre c (bl s)).length]) hsz (by omega) (by simp; omega)).uni ?_
        simp
    · refine Ev.if_pos ?_ ?_
      · rw [pre_of_not_mem hm, bl_length]
      · rw [spParts_miss c s hm]
        refine (Ev.some _).uni ?_
        congr 2
        apply bl_inj
        rw [show ((((pre c (bl s)).length : Nat) : Int)).toNat = (pre c (bl s)).length from by omega, pre_extract_any s c, pre_of_not_mem hm]
theorem ref_Split (s : ByteArray) (c : UInt8) (hs : s.size < 8796093022208) : Ev (fun k => exequaturref01_Split.f k s (c.toNat : Int)) (spParts c s) :=
  split_from c s.size s [] (Nat.le_refl _) (by omega) (by simpa using hs)

/-! hex -/
theorem hex_fin : ∀ n : Fin 256, exequaturref01_hex.f 3 (n.val : Int) = some (digv n.val.toUInt8) := by decide +kernel
theorem back8 (c : UInt8) : c.toNat.toUInt8 = c := by simp
theorem ref_hex (c : UInt8) : Ev (fun k => exequaturref01_hex.f k (c.toNat : Int)) (digv c) := by
  have h := hex_fin ⟨c.toNat, c.toNat_lt⟩
  simp only [back8] at h
  exact Ev.of_mono (g := fun k => exequaturref01_hex.f k (c.toNat : Int)) (fun k => exequaturref01_hex.mono _ k) (K := 3) h

/-! Unquote -/
def unqR (A : List UInt8) (r : Option (List UInt8)) : ByteArray × Bool := match r with | some l => (ba (A ++ l), true) | none => (⟨#[]⟩, false)
theorem unqR_cons (A : List UInt8) (c : UInt8) (r : Option (List UInt8)) : unqR A (r.map (c :: ·)) = unqR (A ++ [c]) r := by cases r <;> simp [unqR]
theorem hexbyte (x y : Int) (h0 : 0 ≤ x) (h1 : x < 16) (g0 : 0 ≤ y) (g1 : y < 16) : (wrap64 (wrap64 (16 * x) + y)) % 256 = (((16 * x.toNat + y.toNat).toUInt8.toNat : Nat) : Int) := by
  rw [w64 (n := 16 * x) (by omega) (by omega), w64 (by omega) (by omega)]
  have : (16 * x.toNat + y.toNat).toUInt8.toNat = 16 * x.toNat + y.toNat := by
    simp; omega
  rw [this]
  omega
theorem unq_j2_bad (s : ByteArray) (A : List Int) (i : Int) : Ev (fun k => exequaturref01_Unquote.j2 k s A i true) (⟨#[]⟩, false) := by
  refine Ev.step (fun k => by rw [exequaturref01_Unquote.j2]) (Ev.if_pos rfl (Ev.some _))
theorem unq_from (s : ByteArray) (hs : s.size ≤ 70368744177664) : ∀ n i (A : List UInt8), i + n = s.size → A.length ≤ i → Ev (fun k => exequaturref01_Unquote.l0 k s (nb A) (i : Int)) (unqR A (unquoteL ((bl s).drop i))) := by
  intro n
  induction n using Nat.strongRecOn with
  | ind n ih =>
  intro i A hi hA
  refine Ev.step (fun k => by rw [exequaturref01_Unquote.l0]) ?_
  by_cases hlt : i < s.size
  case neg =>
    refine Ev.if_neg (by omega) ?_
    rw [List.drop_of_length_le (by rw [bl_length]; omega), str_nb]
    exact (Ev.some _).uni (by simp [unqR, unquoteL])
  refine Ev.if_pos (by omega) (Ev.if_pos (by omega) ?_)
  have hb : i < (bl s).length := by rw [bl_length]; exact hlt
  obtain ⟨c, hc⟩ : ∃ c, (bl s)[i] = c := ⟨_, rfl⟩
  have hbt : bt s (i : Int) = (c.toNat : Int) := by rw [bt_get s i hlt, hc]
  rw [hbt, List.drop_eq_getElem_cons hb, hc]
  obtain ⟨d, hd⟩ : ∃ d : UInt8, d = if c = 43 then 32 else c := ⟨_, rfl⟩
  have key : Ev (fun k => exequaturref01_Unquote.j1 k s (nb A) (i : Int) (d.toNat : Int)) (unqR A (unquoteL (c :: (bl s).drop (i + 1)))) := by
    refine Ev.step (fun k => by rw [exequaturref01_Unquote.j1]) ?_
    refine Ev.if_pos (by omega) (Ev.if_pos (by omega) ?_)
    rw [hbt]
    by_cases h37 : c = 37
    · subst h37
      refine Ev.if_pos rfl ?_
      rw [w64 (n := (i : Int) + 2) (by omega) (by omega), w64 (n := (i : Int) + 1) (by omega) (by omega)]
      by_cases hsh : i + 2 < s.size
      case neg =>
        refine Ev.if_pos (by omega) ((unq_j2_bad s _ _).uni ?_)
        rw [unq_short _ (by rw [List.length_drop, bl_length]; omega)]; rfl
      refine Ev.if_neg (by omega) (Ev.if_pos (by omega) (Ev.if_pos (by omega) ?_))
      have hb1 : i + 1 < (bl s).length := by rw [bl_length]; omega
      have hb2 : i + 2 < (bl s).length := by rw [bl_length]; omega
      obtain ⟨x, hx⟩ : ∃ x, (bl s)[i + 1] = x := ⟨_, rfl⟩
      obtain ⟨y, hy⟩ : ∃ y, (bl s)[i + 2] = y := ⟨_, rfl⟩
      have e1 : bt s ((i : Int) + 1) = (x.toNat : Int) := by
        rw [show (i : Int) + 1 = ((i + 1 : Nat) : Int) from by omega, bt_get s (i + 1) (by omega), hx]
      have e2 : bt s ((i : Int) + 2) = (y.toNat : Int) := by
        rw [show (i : Int) + 2 = ((i + 2 : Nat) : Int) from by omega, bt_get s (i + 2) (by omega), hy]
      rw [e1, e2, List.drop_eq_getElem_cons hb1, hx, show i + 1 + 1 = i + 2 from rfl, List.drop_eq_getElem_cons hb2, hy, show i + 2 + 1 = i + 3 from rfl]
      refine Ev.bind (ref_hex x) ?_
      by_cases hx0 : digv x < 0
      · refine Ev.if_pos hx0 ((unq_j2_bad s _ _).uni ?_)
        rw [unq_bad _ _ _ (.inl hx0)]; rfl
      refine Ev.if_neg hx0 (Ev.if_pos (by omega) (Ev.if_pos (by omega) ?_))
      refine Ev.bind (ref_hex y) ?_
      by_cases hy0 : digv y < 0
      · rw [decide_eq_true hy0]
        refine (unq_j2_bad s _ _).uni ?_
        rw [unq_bad _ _ _ (.inr hy0)]; rfl
      rw [decide_eq_false hy0]
      refine Ev.step (fun k => by rw [exequaturref01_Unquote.j2]) ?_
      refine Ev.if_neg (by simp) ?_
      rw [w64 (n := (i : Int) + 2) (by omega) (by omega), w64 (n := (i : Int) + 1) (by omega) (by omega)]
      refine Ev.if_pos (by omega) (Ev.if_pos (by omega) ?_)
      rw [e1, e2]
      refine Ev.bind (ref_hex x) (Ev.if_pos (by omega) (Ev.if_pos (by omega) (Ev.bind (ref_hex y) (Ev.if_pos (by rw [nb_length]; omega) ?_))))
      have hx1 := @digv_lt x
      have hy1 := @digv_lt y
      rw [hexbyte _ _ (by omega) hx1.1 (by omega) hy1.1, w64 (by omega) (by omega), unq_ok _ _ _ (by omega) (by omega), unqR_cons]
      have := ih (n - 3) (by omega) (i + 3) (A ++ [(16 * (digv x).toNat + (digv y).toNat).toUInt8]) (by omega) (by simp; omega)
      rw [nb_append] at this
      exact this
    · refine Ev.if_neg (by rw [show (37 : Int) = ((37 : UInt8).toNat : Int) from rfl, toNat_inj]; exact h37) ?_
      refine Ev.if_pos (by rw [nb_length]; omega) ?_
      rw [w64 (by omega) (by omega), unq_plain c _ h37, ← hd, unqR_cons]
      have := ih (n - 1) (by omega) (i + 1) (A ++ [d]) (by omega) (by simp; omega)
      rw [nb_append] at this
      exact this
  by_cases h43 : c = 43
  · subst h43
    refine Ev.if_pos rfl ?_
    rw [if_pos rfl] at hd
    subst hd
    exact key
  · refine Ev.if_neg (by rw [show (43 : Int) = ((43 : UInt8).toNat : Int) from rfl, toNat_inj]; exact h43) ?_
    rw [if_neg h43] at hd
    subst hd
    exact key
theorem ref_Unquote (s : ByteArray) (hs : s.size ≤ 70368744177664) : Ev (fun k => exequaturref01_Unquote.f k s) (match unquoteL (bl s) with | some l => (ba l, true) | none => (⟨#[]⟩, false)) := by
  refine (unq_from s hs s.size 0 [] (by simp) (by simp)).uni ?_
  simp only [List.drop_zero]
  cases unquoteL (bl s) <;> rfl

/-! Quote -/
theorem rplain_fin : ∀ n : Fin 256, exequaturref01_plain.f (n.val : Int) = some (plainc n.val.toUInt8) := by decide +kernel
theorem ref_plain (c : UInt8) : exequaturref01_plain.f (c.toNat : Int) = some (plainc c) := by
  have h := rplain_fin ⟨c.toNat, c.toNat_lt⟩
  simp only [back8] at h
  exact h
theorem rgreat_fin : ∀ n : Fin 16, bt (⟨#[48, 49, 50, 51, 52, 53, 54, 55, 56, 57, 65, 66, 67, 68, 69, 70]⟩ : ByteArray) (n.val : Int) = ((greatc n.val).toNat : Int) := by decide +kernel
theorem great_bt (n : Nat) (h : n < 16) : bt (⟨#[48, 49, 50, 51, 52, 53, 54, 55, 56, 57, 65, 66, 67, 68, 69, 70]⟩ : ByteArray) (n : Int) = ((greatc n).toNat : Int) := rgreat_fin ⟨n, h⟩
theorem quote_from (s : ByteArray) (hs : s.size ≤ 35184372088832) : ∀ n i (A : List UInt8), i + n = s.size → A.length ≤ 3 * i → Ev (fun k => exequaturref01_Quote.l0 k s (nb A) (i : Int)) (ba (A ++ quoteL ((bl s).drop i))) := by
  intro n
  induction n with
  | zero =>
    intro i A hi hA
    refine Ev.step (fun k => by rw [exequaturref01_Quote.l0]) ?_
    refine Ev.if_neg (by omega) ?_
    rw [List.drop_of_length_le (by rw [bl_length]; omega), str_nb]
    exact (Ev.some _).uni (by simp [quoteL])
  | succ n ih =>
    intro i A hi hA
    refine Ev.step (fun k => by rw [exequaturref01_Quote.l0]) ?_
    refine Ev.if_pos (by omega) (Ev.if_pos (by omega) ?_)
    have hlt : i < s.size := by omega
    have hb : i < (bl s).length := by rw [bl_length]; exact hlt
    obtain ⟨c, hc⟩ : ∃ c, (bl s)[i] = c := ⟨_, rfl⟩
    have hbt : bt s (i : Int) = (c.toNat : Int) := by rw [bt_get s i hlt, hc]
    have h256 := c.toNat_lt
    rw [hbt, List.drop_eq_getElem_cons hb, hc]
    have hq : quoteL (c :: (bl s).drop (i + 1)) = quote1 c ++ quoteL ((bl s).drop (i + 1)) := by simp [quoteL]
    rw [hq, ← List.append_assoc]
    refine Ev.bind (Ev.const (ref_plain c)) ?_
    rw [w64 (by omega) (by omega)]
    cases hpl : plainc c with
    | true =>
      refine Ev.if_pos rfl (Ev.if_pos (by rw [nb_length]; omega) ?_)
      have := ih (i + 1) (A ++ quote1 c) (by omega) (by simp [quote1, hpl]; omega)
      rw [nb_append] at this
      rw [show quote1 c = [c] from by simp [quote1, hpl]] at this ⊢
      exact this
    | false =>
      refine Ev.if_neg (by simp) ?_
      have e1 : (Int.tdiv (c.toNat : Int) 16) % 256 = ((c.toNat / 16 : Nat) : Int) := by
        rw [Int.tdiv_eq_ediv_of_nonneg (by omega)]; omega
      have e2 : Int.tmod (c.toNat : Int) 16 = ((c.toNat % 16 : Nat) : Int) := by
        rw [Int.tmod_eq_emod_of_nonneg (by omega)]; omega
      rw [e1, e2, great_bt _ (by omega), great_bt _ (by omega)]
      refine Ev.if_pos (by omega) (Ev.if_pos (by omega) (Ev.if_pos (by omega) (Ev.if_pos (by omega) ?_)))
      refine Ev.bind (Ev.some _) (Ev.if_pos (by rw [nb_length]; simp; omega) ?_)
      have hq1 : quote1 c = [37, greatc (c.toNat / 16), greatc (c.toNat % 16)] := by simp [quote1, hpl]
      have := ih (i + 1) (A ++ quote1 c) (by omega) (by rw [hq1]; simp; omega)
      rw [nb_append] at this
      rw [hq1] at this ⊢
      exact this
theorem ref_Quote (s : ByteArray) (hs : s.size ≤ 35184372088832) : Ev (fun k => exequaturref01_Quote.f k s) (ba (quoteL (bl s))) :=
  (quote_from s hs s.size 0 [] (by simp) (by simp)).uni (by simp)
end Go.Proofs.YtibfhaekomflpaaDoor.X
