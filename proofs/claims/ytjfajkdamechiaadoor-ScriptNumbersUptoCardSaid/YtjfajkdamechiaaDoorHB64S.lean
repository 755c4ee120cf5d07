/- base64url, as lists: a machine that keeps the bits that are left over. -/
import Derived.Test.YtjfajkdamechiaaDoorHSpec
namespace Go.Proofs.YtjfajkdamechiaaDoor.X
open Go.RowKit Go.Proofs.YtjfajkdamechiaaDoorW.PrintWords Go.Proofs.YtjfajkdamechiaaDoor.Spec
set_option linter.unusedVariables false
set_option linter.unusedSimpArgs false

def alphaB : ByteArray := ⟨#[65, 66, 67, 68, 69, 70, 71, 72, 73, 74, 75, 76, 77, 78, 79, 80, 81, 82, 83, 84, 85, 86, 87, 88, 89, 90, 97, 98, 99, 100, 101, 102, 103, 104, 105, 106, 107, 108, 109, 110, 111, 112, 113, 114, 115, 116, 117, 118, 119, 120, 121, 122, 48, 49, 50, 51, 52, 53, 54, 55, 56, 57, 45, 95]⟩
def alpha (n : Nat) : UInt8 := alphaB.data.toList.getD n 0
structure ES where
  out : List UInt8
  have_ : Nat
  v : Nat
def eStep (s : ES) (b : UInt8) : ES :=
  if s.have_ = 4 then ⟨s.out ++ [alpha ((s.v * 256 + b.toNat) / 64 % 64), alpha ((s.v * 256 + b.toNat) % 64)], 0, 0⟩
  else if s.have_ = 2 then ⟨s.out ++ [alpha ((s.v * 256 + b.toNat) / 16 % 64)], 4, (s.v * 256 + b.toNat) % 16⟩
  else ⟨s.out ++ [alpha (b.toNat / 4 % 64)], 2, b.toNat % 4⟩
def eSt (l : List UInt8) : ES := l.foldl eStep ⟨[], 0, 0⟩
theorem eSt_snoc (l : List UInt8) (b : UInt8) : eSt (l ++ [b]) = eStep (eSt l) b := by simp [eSt, List.foldl_append]
def eEnd (s : ES) : List UInt8 := if s.have_ = 4 then s.out ++ [alpha (s.v * 4 % 64)] else if s.have_ = 2 then s.out ++ [alpha (s.v * 16 % 64)] else s.out
def encL (l : List UInt8) : List UInt8 := eEnd (eSt l)
/-- the machine's states -/
structure EOk (s : ES) (n : Nat) : Prop where
  st : s.have_ = 0 ∧ s.v = 0 ∨ s.have_ = 2 ∧ s.v < 4 ∨ s.have_ = 4 ∧ s.v < 16
  len : s.out.length ≤ 2 * n
theorem EOk.nil : EOk ⟨[], 0, 0⟩ 0 := ⟨.inl ⟨rfl, rfl⟩, Nat.le_refl _⟩
theorem EOk.step {s : ES} {n : Nat} (h : EOk s n) (b : UInt8) : EOk (eStep s b) (n + 1) := by
  have hl := h.len
  unfold eStep
  rcases h.st with ⟨h1, h2⟩ | ⟨h1, h2⟩ | ⟨h1, h2⟩
  · rw [if_neg (by omega), if_neg (by omega)]
    exact ⟨.inr (.inl ⟨rfl, by show b.toNat % 4 < 4; omega⟩), by simp only [List.length_append, List.length_cons, List.length_nil]; omega⟩
  · rw [if_neg (by omega), if_pos (by omega)]
    exact ⟨.inr (.inr ⟨rfl, by show (s.v * 256 + b.toNat) % 16 < 16; omega⟩), by simp only [List.length_append, List.length_cons, List.length_nil]; omega⟩
  · rw [if_pos (by omega)]
    exact ⟨.inl ⟨rfl, rfl⟩, by simp only [List.length_append, List.length_cons, List.length_nil]; omega⟩
theorem eOk_take (l : List UInt8) : ∀ k : Nat, k ≤ l.length → EOk (eSt (l.take k)) k := by
  intro k
  induction k with
  | zero => intro _; exact EOk.nil
  | succ k ih =>
    intro hk
    rw [List.take_succ_eq_append_getElem (by omega), eSt_snoc]
    exact (ih (by omega)).step _
theorem encL_length (l : List UInt8) : (encL l).length ≤ 2 * l.length + 1 := by
  have h := eOk_take l l.length (Nat.le_refl _)
  rw [List.take_length] at h
  have := h.len
  unfold encL eEnd
  split
  · simp only [List.length_append, List.length_cons, List.length_nil]; omega
  · split
    · simp only [List.length_append, List.length_cons, List.length_nil]; omega
    · omega

/-- which letter a byte is -/
def letter (c : UInt8) : Int := Lib.indexByte alphaB.data.toList c
theorem letter_fin : ∀ n : Fin 256, (letter (UInt8.ofNat n.val) < 0 ∨ 0 ≤ letter (UInt8.ofNat n.val) ∧ letter (UInt8.ofNat n.val) < 64 ∧ alpha (letter (UInt8.ofNat n.val)).toNat = UInt8.ofNat n.val) := by decide +kernel
theorem letter_cases (c : UInt8) : letter c < 0 ∨ 0 ≤ letter c ∧ letter c < 64 ∧ alpha (letter c).toNat = c := by
  have := letter_fin ⟨c.toNat, c.toNat_lt⟩
  simpa using this
theorem letter_alpha_fin : ∀ n : Fin 64, letter (alpha n.val) = n.val := by decide +kernel
theorem letter_alpha (n : Nat) (h : n < 64) : letter (alpha n) = n := letter_alpha_fin ⟨n, h⟩
def dStep (s : ES) (d : Nat) : ES :=
  if s.have_ = 0 then ⟨s.out, 6, d⟩
  else if s.have_ = 6 then ⟨s.out ++ [UInt8.ofNat ((s.v * 64 + d) / 16 % 256)], 4, (s.v * 64 + d) % 16⟩
  else if s.have_ = 4 then ⟨s.out ++ [UInt8.ofNat ((s.v * 64 + d) / 4 % 256)], 2, (s.v * 64 + d) % 4⟩
  else ⟨s.out ++ [UInt8.ofNat ((s.v * 64 + d) % 256)], 0, 0⟩
def dSt : ES → List UInt8 → Option ES
  | s, [] => some s
  | s, c :: r => if letter c < 0 then none else dSt (dStep s (letter c).toNat) r
theorem dSt_snoc (s : ES) (l : List UInt8) (c : UInt8) : dSt s (l ++ [c]) = (dSt s l).bind fun t => if letter c < 0 then none else some (dStep t (letter c).toNat) := by
  induction l generalizing s with
  | nil => rfl
  | cons x r ih =>
    show dSt s (x :: (r ++ [c])) = _
    rw [dSt, dSt]
    split
    · rfl
    · exact ih _
structure DOk (s : ES) (n : Nat) : Prop where
  st : s.have_ = 0 ∧ s.v = 0 ∨ s.have_ = 2 ∧ s.v < 4 ∨ s.have_ = 4 ∧ s.v < 16 ∨ s.have_ = 6 ∧ s.v < 64
  len : s.out.length ≤ n
theorem DOk.nil : DOk ⟨[], 0, 0⟩ 0 := ⟨.inl ⟨rfl, rfl⟩, Nat.le_refl _⟩
theorem DOk.step {s : ES} {n : Nat} (h : DOk s n) (d : Nat) (hd : d < 64) : DOk (dStep s d) (n + 1) := by
  have hl := h.len
  unfold dStep
  rcases h.st with ⟨h1, h2⟩ | ⟨h1, h2⟩ | ⟨h1, h2⟩ | ⟨h1, h2⟩
  · rw [if_pos h1]
    exact ⟨.inr (.inr (.inr ⟨rfl, hd⟩)), Nat.le_succ_of_le hl⟩
  · rw [if_neg (by omega), if_neg (by omega), if_neg (by omega)]
    exact ⟨.inl ⟨rfl, rfl⟩, by simp only [List.length_append, List.length_cons, List.length_nil]; omega⟩
  · rw [if_neg (by omega), if_neg (by omega), if_pos (by omega)]
    exact ⟨.inr (.inl ⟨rfl, by show (s.v * 64 + d) % 4 < 4; omega⟩), by simp only [List.length_append, List.length_cons, List.length_nil]; omega⟩
  · rw [if_neg (by omega), if_pos (by omega)]
    exact ⟨.inr (.inr (.inl ⟨rfl, by show (s.v * 64 + d) % 16 < 16; omega⟩)), by simp only [List.length_append, List.length_cons, List.length_nil]; omega⟩
theorem dOk_take (l : List UInt8) : ∀ (k : Nat), k ≤ l.length → ∀ s, dSt ⟨[], 0, 0⟩ (l.take k) = some s → DOk s k := by
  intro k
  induction k with
  | zero => intro _ s h; obtain rfl := Option.some.inj h; exact DOk.nil
  | succ k ih =>
    intro hk s h
    rw [List.take_succ_eq_append_getElem (by omega), dSt_snoc] at h
    obtain ⟨t, ht, h⟩ := Option.bind_eq_some_iff.1 h
    split at h
    · cases h
    · rename_i hn
      obtain rfl := Option.some.inj h
      rcases letter_cases l[k] with h0 | ⟨h0, h1, _⟩
      · exact absurd h0 hn
      · exact (ih (by omega) t ht).step _ (by omega)
/-- a text's bytes; the flag: it is those bytes' own text -/
def decL (l : List UInt8) : Option (List UInt8) := (dSt ⟨[], 0, 0⟩ l).map ES.out
def decR (l : List UInt8) : List UInt8 × Bool := match decL l with | some o => (o, decide (encL o = l)) | none => ([], false)
theorem decL_length (l o : List UInt8) (h : decL l = some o) : o.length ≤ l.length := by
  unfold decL at h
  obtain ⟨s, hs, rfl⟩ := Option.map_eq_some_iff.1 h
  have := (dOk_take l l.length (Nat.le_refl _) s (by rw [List.take_length]; exact hs)).len
  exact this

/-! what is encoded is decoded again -/
theorem ofNat_eq (b : UInt8) (n : Nat) (h : n = b.toNat) : UInt8.ofNat n = b := by subst h; simp
def Sim (l : List UInt8) (s : ES) (t : ES) : Prop :=
  s.have_ = 0 ∧ s.v = 0 ∧ t = ⟨l, 0, 0⟩ ∨ (∃ l' b, l = l' ++ [b] ∧ s.have_ = 2 ∧ s.v = b.toNat % 4 ∧ t = ⟨l', 6, b.toNat / 4⟩) ∨ (∃ l' b, l = l' ++ [b] ∧ s.have_ = 4 ∧ s.v = b.toNat % 16 ∧ t = ⟨l', 4, b.toNat / 16⟩)
theorem dSt_letter (s : ES) (l : List UInt8) (t : ES) (h : dSt s l = some t) (n : Nat) (hn : n < 64) : dSt s (l ++ [alpha n]) = some (dStep t n) := by
  rw [dSt_snoc, h, Option.bind_some, letter_alpha n hn, if_neg (by omega)]
  rfl
theorem sim_step {l : List UInt8} {s t : ES} (h : Sim l s t) (ht : dSt ⟨[], 0, 0⟩ s.out = some t) (b : UInt8) : ∃ t', dSt ⟨[], 0, 0⟩ (eStep s b).out = some t' ∧ Sim (l ++ [b]) (eStep s b) t' := by
  have hb := b.toNat_lt
  rcases h with ⟨h1, h2, rfl⟩ | ⟨l', b0, rfl, h1, h2, rfl⟩ | ⟨l', b0, rfl, h1, h2, rfl⟩
  · have e : eStep s b = ⟨s.out ++ [alpha (b.toNat / 4 % 64)], 2, b.toNat % 4⟩ := by unfold eStep; rw [if_neg (by omega), if_neg (by omega)]
    rw [e]
    refine ⟨_, dSt_letter _ _ _ ht _ (by omega), .inr (.inl ⟨l, b, rfl, rfl, rfl, ?_⟩)⟩
    unfold dStep
    rw [if_pos rfl]
    congr 1; omega
  · have hb0 := b0.toNat_lt
    have e : eStep s b = ⟨s.out ++ [alpha ((s.v * 256 + b.toNat) / 16 % 64)], 4, (s.v * 256 + b.toNat) % 16⟩ := by unfold eStep; rw [if_neg (by omega), if_pos (by omega)]
    rw [e]
    refine ⟨_, dSt_letter _ _ _ ht _ (by omega), .inr (.inr ⟨l' ++ [b0], b, rfl, rfl, by show (s.v * 256 + b.toNat) % 16 = _; omega, ?_⟩)⟩
    unfold dStep
    rw [if_neg (by simp), if_pos rfl]
    congr 1
    · rw [ofNat_eq b0 _ (by dsimp only; omega)]
    · dsimp only; omega
  · have hb0 := b0.toNat_lt
    have e : eStep s b = ⟨s.out ++ [alpha ((s.v * 256 + b.toNat) / 64 % 64), alpha ((s.v * 256 + b.toNat) % 64)], 0, 0⟩ := by unfold eStep; rw [if_pos (by omega)]
    rw [e]
    have h3 := dSt_letter _ _ _ ht ((s.v * 256 + b.toNat) / 64 % 64) (by omega)
    have h4 := dSt_letter _ _ _ h3 ((s.v * 256 + b.toNat) % 64) (by omega)
    rw [List.append_assoc] at h4
    refine ⟨_, h4, .inl ⟨rfl, rfl, ?_⟩⟩
    have e1 : dStep ⟨l', 4, b0.toNat / 16⟩ ((s.v * 256 + b.toNat) / 64 % 64) = ⟨l' ++ [b0], 2, b.toNat / 64⟩ := by
      unfold dStep
      rw [if_neg (by simp), if_neg (by simp), if_pos rfl]
      congr 1
      · rw [ofNat_eq b0 _ (by dsimp only; omega)]
      · dsimp only; omega
    rw [e1]
    unfold dStep
    rw [if_neg (by simp), if_neg (by simp), if_neg (by simp)]
    congr 1
    rw [ofNat_eq b _ (by dsimp only; omega)]
theorem sim_all (l : List UInt8) : ∀ k : Nat, k ≤ l.length → ∃ t, dSt ⟨[], 0, 0⟩ (eSt (l.take k)).out = some t ∧ Sim (l.take k) (eSt (l.take k)) t := by
  intro k
  induction k with
  | zero => intro _; exact ⟨_, rfl, .inl ⟨rfl, rfl, rfl⟩⟩
  | succ k ih =>
    intro hk
    obtain ⟨t, ht, hS⟩ := ih (by omega)
    rw [List.take_succ_eq_append_getElem (by omega), eSt_snoc]
    exact sim_step hS ht _
theorem dec_enc (l : List UInt8) : decL (encL l) = some l := by
  obtain ⟨t, ht, hS⟩ := sim_all l l.length (Nat.le_refl _)
  rw [List.take_length] at ht hS
  unfold decL encL eEnd
  rcases hS with ⟨h1, h2, rfl⟩ | ⟨l', b, rfl, h1, h2, rfl⟩ | ⟨l', b, rfl, h1, h2, rfl⟩
  · rw [if_neg (by omega), if_neg (by omega), ht]
    rfl
  · have hb := b.toNat_lt
    rw [if_neg (by omega), if_pos (by omega), dSt_letter _ _ _ ht _ (by omega)]
    unfold dStep
    rw [if_neg (by simp), if_pos rfl, Option.map_some]
    dsimp only
    rw [ofNat_eq b _ (by omega)]
  · have hb := b.toNat_lt
    rw [if_pos (by omega), dSt_letter _ _ _ ht _ (by omega)]
    unfold dStep
    rw [if_neg (by simp), if_neg (by simp), if_pos rfl, Option.map_some]
    dsimp only
    rw [ofNat_eq b _ (by omega)]
theorem decR_enc (l : List UInt8) : decR (encL l) = (l, true) := by
  unfold decR
  rw [dec_enc]
  simp
/-- letters taken out of what is kept, six bits at a time -/
def drain : Nat → Nat → Nat → List UInt8 → List UInt8 × Nat
  | 0, hv, _, o => (o, hv)
  | n + 1, hv, B, o => if 6 ≤ hv then drain n (hv - 6) B (o ++ [alpha (B / 2 ^ (hv - 6) % 64)]) else (o, hv)
theorem drain_go {n hv B : Nat} {o : List UInt8} (h : 6 ≤ hv) : drain (n + 1) hv B o = drain n (hv - 6) B (o ++ [alpha (B / 2 ^ (hv - 6) % 64)]) := by
  conv => lhs; unfold drain
  rw [if_pos h]
theorem drain_end {n hv B : Nat} {o : List UInt8} (h : hv < 6) : drain n hv B o = (o, hv) := by
  cases n with
  | zero => rfl
  | succ n => unfold drain; rw [if_neg (by omega)]
theorem drain_step {s : ES} {k B : Nat} (c : UInt8) (hok : EOk s k) (h2 : s.have_ = 2 → B % 4 = s.v) (h4 : s.have_ = 4 → B % 16 = s.v) :
    drain 2 (s.have_ + 8) (B * 256 % 4294967296 + c.toNat) s.out = ((eStep s c).out, (eStep s c).have_) := by
  have hc := c.toNat_lt
  rcases hok.st with ⟨h, hv⟩ | ⟨h, hv⟩ | ⟨h, hv⟩
  · rw [h, drain_go (by decide), drain_end (by decide)]
    unfold eStep
    rw [if_neg (by omega), if_neg (by omega)]
    have e : (B * 256 % 4294967296 + c.toNat) / 2 ^ (0 + 8 - 6) % 64 = c.toNat / 4 % 64 := by
      show (B * 256 % 4294967296 + c.toNat) / 4 % 64 = _
      omega
    rw [e]
  · rw [h, drain_go (by decide), drain_end (by decide)]
    unfold eStep
    rw [if_neg (by omega), if_pos (by omega)]
    have := h2 h
    have e : (B * 256 % 4294967296 + c.toNat) / 2 ^ (2 + 8 - 6) % 64 = (s.v * 256 + c.toNat) / 16 % 64 := by
      show (B * 256 % 4294967296 + c.toNat) / 16 % 64 = _
      omega
    rw [e]
  · rw [h, drain_go (by decide), drain_go (by decide), drain_end (by decide)]
    unfold eStep
    rw [if_pos (by omega)]
    have := h4 h
    have e : (B * 256 % 4294967296 + c.toNat) / 2 ^ (4 + 8 - 6) % 64 = (s.v * 256 + c.toNat) / 64 % 64 := by
      show (B * 256 % 4294967296 + c.toNat) / 64 % 64 = _
      omega
    have e2 : (B * 256 % 4294967296 + c.toNat) / 2 ^ (4 + 8 - 6 - 6) % 64 = (s.v * 256 + c.toNat) % 64 := by
      show (B * 256 % 4294967296 + c.toNat) / 1 % 64 = _
      omega
    rw [e, e2]
    simp
theorem keep_step {s : ES} {k B : Nat} (c : UInt8) (hok : EOk s k) (h2 : s.have_ = 2 → B % 4 = s.v) (h4 : s.have_ = 4 → B % 16 = s.v) :
    ((eStep s c).have_ = 2 → (B * 256 % 4294967296 + c.toNat) % 4 = (eStep s c).v) ∧ ((eStep s c).have_ = 4 → (B * 256 % 4294967296 + c.toNat) % 16 = (eStep s c).v) := by
  have hc := c.toNat_lt
  rcases hok.st with ⟨h, hv⟩ | ⟨h, hv⟩ | ⟨h, hv⟩
  · unfold eStep
    rw [if_neg (by omega), if_neg (by omega)]
    exact ⟨fun _ => (by show _ = c.toNat % 4; omega), fun e => (by cases e)⟩
  · unfold eStep
    rw [if_neg (by omega), if_pos (by omega)]
    have := h2 h
    exact ⟨fun e => (by cases e), fun _ => (by show _ = (s.v * 256 + c.toNat) % 16; omega)⟩
  · unfold eStep
    rw [if_pos (by omega)]
    exact ⟨fun e => (by cases e), fun e => (by cases e)⟩
def Drains (f : Nat) (hv B : Nat) (o : List UInt8) (t : ES) : Prop := drain f hv B o = (t.out, t.have_)

theorem dSt_append (s : ES) (a b : List UInt8) : dSt s (a ++ b) = (dSt s a).bind fun t => dSt t b := by
  induction a generalizing s with
  | nil => rfl
  | cons x r ih =>
    show dSt s (x :: (r ++ b)) = _
    rw [dSt, dSt]
    split
    · rfl
    · exact ih _
theorem letter_range (c : UInt8) : -1 ≤ letter c ∧ letter c < 64 := by
  have fin : ∀ n : Fin 256, -1 ≤ letter (UInt8.ofNat n.val) ∧ letter (UInt8.ofNat n.val) < 64 := by decide +kernel
  have := fin ⟨c.toNat, c.toNat_lt⟩
  simpa using this
def DKeep (s : ES) (B : Nat) : Prop := B < 4294967296 ∧ (s.have_ = 2 → B % 4 = s.v) ∧ (s.have_ = 4 → B % 16 = s.v) ∧ (s.have_ = 6 → B % 64 = s.v)
theorem dkeep_step {s : ES} {k B d : Nat} (hok : DOk s k) (h : DKeep s B) (hd : d < 64) : DKeep (dStep s d) (B * 64 % 4294967296 + d) := by
  obtain ⟨h0, h2, h4, h6⟩ := h
  unfold dStep
  rcases hok.st with ⟨e1, e2⟩ | ⟨e1, e2⟩ | ⟨e1, e2⟩ | ⟨e1, e2⟩
  · rw [if_pos e1]
    exact ⟨by omega, fun e => (by cases e), fun e => (by cases e), fun _ => (by show _ = d; omega)⟩
  · rw [if_neg (by omega), if_neg (by omega), if_neg (by omega)]
    exact ⟨by omega, fun e => (by cases e), fun e => (by cases e), fun e => (by cases e)⟩
  · have := h4 e1
    rw [if_neg (by omega), if_neg (by omega), if_pos (by omega)]
    exact ⟨by omega, fun _ => (by show _ = (s.v * 64 + d) % 4; omega), fun e => (by cases e), fun e => (by cases e)⟩
  · have := h6 e1
    rw [if_neg (by omega), if_pos (by omega)]
    exact ⟨by omega, fun e => (by cases e), fun _ => (by show _ = (s.v * 64 + d) % 16; omega), fun e => (by cases e)⟩
theorem decR_none {l : List UInt8} {k : Nat} (h : dSt ⟨[], 0, 0⟩ (l.take k) = none) : decR l = ([], false) := by
  have : dSt ⟨[], 0, 0⟩ l = none := by
    have e := dSt_append ⟨[], 0, 0⟩ (l.take k) (l.drop k)
    rw [List.take_append_drop, h] at e
    exact e
  unfold decR decL
  rw [this]; rfl
theorem decR_some {l : List UInt8} {s : ES} (h : dSt ⟨[], 0, 0⟩ l = some s) : decR l = (s.out, decide (encL s.out = l)) := by
  unfold decR decL
  rw [h]; rfl
end Go.Proofs.YtjfajkdamechiaaDoor.X
