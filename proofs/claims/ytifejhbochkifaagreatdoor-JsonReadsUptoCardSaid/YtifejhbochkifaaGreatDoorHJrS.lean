/- What the reference's reading leaves is the end of what was read. -/
import Derived.Test.YtifejhbochkifaaGreatDoorHJr
namespace Go.Proofs.YtifejhbochkifaaGreatDoor.X
open Go.RowKit Go.Proofs.YtifejhbochkifaaGreatDoorW.PrintWords Go.Proofs.YtifejhbochkifaaGreatDoor.Spec
set_option linter.unusedVariables false
/-- a shorter end of a text -/
def Suf (r s : List UInt8) : Prop := r = s.drop (s.length - r.length) ∧ r.length ≤ s.length
theorem Suf.refl (s : List UInt8) : Suf s s := ⟨by simp, Nat.le_refl _⟩
theorem Suf.drop (s : List UInt8) (n : Nat) : Suf (s.drop n) s := by
 refine ⟨?_, by rw [List.length_drop]; omega⟩
 rw [List.length_drop]
 by_cases h : n ≤ s.length
 ·rw [show s.length - (s.length - n) = n by omega]
 ·rw [show s.length - (s.length - n) = s.length by omega, List.drop_of_length_le (by omega), List.drop_of_length_le (by omega)]
theorem Suf.trans {a b c : List UInt8} (h : Suf a b) (g : Suf b c) : Suf a c := by
 obtain ⟨h1, h2⟩ := h
 obtain ⟨g1, g2⟩ := g
 refine ⟨?_, by omega⟩
 conv => lhs; rw [h1, g1, List.drop_drop]
 congr 1
 have hl : (c.drop (c.length - b.length)).length = b.length := by rw [← g1]
 rw [← g1]
 omega
theorem Suf.tail (c : UInt8) (r : List UInt8) : Suf r (c :: r) := Suf.drop (c :: r) 1
theorem Suf.cons {r s : List UInt8} (c : UInt8) (h : Suf r s) : Suf r (c :: s) := h.trans (Suf.tail c s)
theorem rfHex_suf {l r : List UInt8} {c : UInt8} (h : rfHex l = some (c, r)) : Suf r l := by
 unfold rfHex at h
 split at h
 ·split at h
  ·simp only [Option.some.injEq, Prod.mk.injEq] at h
   rw [← h.2]; exact Suf.drop (_ :: _ :: _) 2
  ·cases h
 ·cases h
theorem rfEsc_suf {l r : List UInt8} {c : UInt8} (h : rfEsc l = some (c, r)) : Suf r l := by
 unfold rfEsc at h
 split at h
 ·simp only [Option.some.injEq, Prod.mk.injEq] at h
  rw [← h.2]; exact Suf.drop _ _
 ·split at h
  ·simp only [Option.some.injEq, Prod.mk.injEq] at h
   rw [← h.2]; exact Suf.drop _ _
  ·split at h
   ·exact (rfHex_suf h).trans (Suf.drop _ _)
   ·cases h
theorem rfTx_suf : ∀ (n : Nat) (l out t r : List UInt8), l.length ≤ n → rfTx out l = some (t, r) → Suf r l := by
 intro n
 induction n with
 | zero => intro l out t r hn h; cases l with
  | nil => rw [rfTx] at h; cases h
  | cons c l => simp at hn
 | succ n ih =>
  intro l out t r hn h
  cases l with
  | nil => rw [rfTx] at h; cases h
  | cons c l =>
   simp only [List.length_cons] at hn
   rw [rfTx] at h
   split at h
   ·simp only [Option.some.injEq, Prod.mk.injEq] at h
    rw [← h.2]; exact Suf.tail _ _
   ·split at h
    ·split at h
     ·rename_i x r' e
      have h1 := rfEsc_len e
      exact Suf.cons _ ((ih r' _ _ _ (by omega) h).trans (rfEsc_suf e))
     ·cases h
    ·exact Suf.cons _ (ih l _ _ _ (by omega) h)
theorem rfQ_suf' {l t r : List UInt8} (h : rfQ l = some (t, r)) : Suf r l := by
 unfold rfQ at h
 split at h
 ·exact (rfTx_suf _ _ _ _ _ (Nat.le_refl _) h).trans (Suf.drop _ _)
 ·cases h
theorem rfQ_suf {l t r : List UInt8} (h : rfQ l = some (t, r)) : r = l.drop (l.length - r.length) := (rfQ_suf' h).1
theorem rfDig_suf : ∀ (l : List UInt8) (acc m : Nat), Suf (rfDig acc m l).2 l := by
 intro l
 induction l with
 | nil => intro acc m; cases m <;> exact Suf.refl _
 | cons c r ih =>
  intro acc m
  cases m with
  | zero => exact Suf.refl _
  | succ m =>
   rw [rfDig]
   split
   ·exact Suf.cons _ (ih _ _)
   ·exact Suf.refl _
theorem rfNum_suf {l r : List UInt8} {v : V} (h : rfNum l = some (v, r)) : Suf r l ∧ r.length < l.length := by
 unfold rfNum at h
 split at h
 ·rename_i hp
  have := hp.length_le
  simp only [List.length_singleton] at this
  simp only [Option.some.injEq, Prod.mk.injEq] at h
  rw [← h.2]
  have hs := rfDig_suf (l.drop 1) 0 17
  refine ⟨hs.trans (Suf.drop _ _), ?_⟩
  have := hs.2
  rw [List.length_drop] at this
  omega
 ·split at h
  ·cases h
  ·rename_i hne
   simp only [Option.some.injEq, Prod.mk.injEq] at h
   rw [← h.2]
   have hs := rfDig_suf l 0 18
   exact ⟨hs, by have := hs.2; omega⟩
theorem suf_drop1 {r s : List UInt8} {c : UInt8} (hp : [c] <+: s) (h : Suf r (s.drop 1)) : Suf r s ∧ r.length < s.length := by
 have h1 := hp.length_le
 simp only [List.length_singleton] at h1
 have h2 := h.2
 rw [List.length_drop] at h2
 exact ⟨h.trans (Suf.drop _ _), by omega⟩
theorem rf_suf : ∀ k,
  (∀ s v r, rfV k s = some (v, r) → Suf r s ∧ r.length < s.length) ∧
  (∀ obj s v r, rfRow k obj s = some (v, r) → Suf r s) ∧
  (∀ obj ls ks s v r, rfItems k obj ls ks s = some (v, r) → Suf r s) ∧
  (∀ obj ls ks s v r, rfItem k obj ls ks s = some (v, r) → Suf r s) := by
 intro k
 induction k with
 | zero =>
  refine ⟨?_, ?_, ?_, ?_⟩
  ·intro s v r h; rw [rfV] at h; cases h
  ·intro obj s v r h; rw [rfRow] at h; cases h
  ·intro obj ls ks s v r h; rw [rfItems] at h; cases h
  ·intro obj ls ks s v r h; rw [rfItem] at h; cases h
 | succ k ih =>
  obtain ⟨ihV, ihR, ihI, ihT⟩ := ih
  have lit : ∀ (p : List UInt8) (s : List UInt8) (n : Nat) (v v' : V) (r : List UInt8), p <+: s → n = p.length → 0 < n → some (v', s.drop n) = some (v, r) → Suf r s ∧ r.length < s.length := by
   intro p s n v v' r hp hn h0 h
   have h1 := hp.length_le
   simp only [Option.some.injEq, Prod.mk.injEq] at h
   rw [← h.2]
   exact ⟨Suf.drop _ _, by rw [List.length_drop]; omega⟩
  refine ⟨?_, ?_, ?_, ?_⟩
  ·intro s v r h
   rw [rfV] at h
   split at h
   ·exact lit _ _ _ _ _ _ (by assumption) rfl (by decide) h
   ·split at h
    ·exact lit _ _ _ _ _ _ (by assumption) rfl (by decide) h
    ·split at h
     ·exact lit _ _ _ _ _ _ (by assumption) rfl (by decide) h
     ·split at h
      ·rw [Option.map_eq_some_iff] at h
       obtain ⟨⟨t, r'⟩, hq, he⟩ := h
       simp only [Prod.mk.injEq] at he
       obtain ⟨_, rfl⟩ := he
       have := (rfQ_len hq).1
       exact ⟨rfQ_suf' hq, by omega⟩
      ·split at h
       ·rename_i hp
        exact suf_drop1 hp (ihR _ _ _ _ h)
       ·split at h
        ·rename_i hp
         exact suf_drop1 hp (ihR _ _ _ _ h)
        ·exact rfNum_suf h
  ·intro obj s v r h
   rw [rfRow] at h
   split at h
   ·simp only [Option.some.injEq, Prod.mk.injEq] at h
    rw [← h.2]; exact Suf.drop _ _
   ·exact ihI _ _ _ _ _ _ h
  ·intro obj ls ks s v r h
   cases obj with
   | true =>
    rw [rfItems] at h
    split at h
    ·rename_i t r' hq
     split at h
     ·exact ((ihT _ _ _ _ _ _ h).trans (Suf.drop _ _)).trans (rfQ_suf' hq)
     ·cases h
    ·cases h
   | false =>
    rw [rfItems] at h
    exact ihT _ _ _ _ _ _ h
  ·intro obj ls ks s v r h
   rw [rfItem] at h
   split at h
   ·rename_i x r' hv
    have h1 := (ihV _ _ _ hv).1
    split at h
    ·simp only [Option.some.injEq, Prod.mk.injEq] at h
     rw [← h.2]; exact (Suf.drop _ _).trans h1
    ·split at h
     ·exact ((ihI _ _ _ _ _ _ h).trans (Suf.drop _ _)).trans h1
     ·cases h
   ·cases h
end Go.Proofs.YtifejhbochkifaaGreatDoor.X
