/- A text's parts between a byte. -/
import Derived.Test.YtjagjfmkfiikaaaDoorHLib
namespace Go.Proofs.YtjagjfmkfiikaaaDoor.X
open Go.RowKit Go.Proofs.YtjagjfmkfiikaaaDoorW.PrintWords Go.Proofs.YtjagjfmkfiikaaaDoor.Spec
set_option linter.unusedVariables false
set_option linter.unusedSimpArgs false
def spParts (c : UInt8) (s : ByteArray) : List ByteArray := (splitL c (bl s)).map ba
theorem spParts_hit (c : UInt8) (s : ByteArray) (h : c ∈ bl s) : spParts c s = s.extract 0 (pre c (bl s)).length :: spParts c (s.extract ((pre c (bl s)).length + 1) s.size) := by
  unfold spParts
  rw [splitL_eq, if_pos h, ← post_extract s c h, bl_ba, List.map_cons, pre_extract s c h]
theorem splitL_sizes (c : UInt8) (l : List UInt8) : ∀ x ∈ splitL c l, x.length ≤ l.length := by
  induction l with
  | nil => intro x hx; simp [splitL] at hx; subst hx; simp
  | cons y r ih =>
    intro x hx
    rw [splitL] at hx
    split at hx
    · rcases List.mem_cons.1 hx with h | h
      · subst h; simp
      · have := ih x h; simp; omega
    · split at hx
      · rename_i p ps hps
        rcases List.mem_cons.1 hx with h | h
        · subst h; have := ih p (by rw [hps]; simp); simp; omega
        · have := ih x (by rw [hps]; exact List.mem_cons_of_mem _ h); simp; omega
      · simp at hx; subst hx; simp
theorem spParts_sizes (c : UInt8) (s : ByteArray) : ∀ x ∈ spParts c s, x.size ≤ s.size := by
  intro x hx
  obtain ⟨l, hl, rfl⟩ := List.mem_map.1 hx
  have := splitL_sizes c (bl s) l hl
  rw [bl_length] at this
  simpa using this
theorem splitL_length (c : UInt8) (l : List UInt8) : (splitL c l).length ≤ l.length + 1 := by
  induction l with
  | nil => simp [splitL]
  | cons y r ih =>
    rw [splitL]
    split
    · simp; omega
    · split
      · rename_i p ps hps; rw [hps] at ih; simp at ih ⊢; omega
      · simp
theorem spParts_length (c : UInt8) (s : ByteArray) : (spParts c s).length ≤ s.size + 1 := by
  have := splitL_length c (bl s)
  rw [bl_length] at this
  simpa [spParts] using this
theorem spParts_miss (c : UInt8) (s : ByteArray) (h : c ∉ bl s) : spParts c s = [s] := by
  unfold spParts
  rw [splitL_eq, if_neg h, pre_of_not_mem h]; simp

end Go.Proofs.YtjagjfmkfiikaaaDoor.X
