/- What the library's search wants of a world: MaxLen holds some number. -/
import Derived.Test.YtkcgalpagpgfhaaDoorHLib
import Derived.Lib.IndexMore
namespace Go.Proofs.YtkcgalpagpgfhaaDoor.X
open Go.RowKit Go.Proofs.YtkcgalpagpgfhaaDoorW.PrintWords Go.Proofs.YtkcgalpagpgfhaaDoorW.PrintLast Go.Proofs.YtkcgalpagpgfhaaDoorW.PrintMore Go.Proofs.YtkcgalpagpgfhaaDoor.Spec
set_option linter.unusedVariables false
set_option linter.unusedSimpArgs false

/-- what the search wants of a world: MaxLen holds some number -/
def GOK (w : World) : Prop := ∃ m, w.cell? ⟨0, 0, none⟩ = some (.int .i64 m)
theorem GOK.maxLen {w : World} (h : GOK w) : ∃ m, w.cell? ⟨0, 0, none⟩ = some (.int .i64 m) := h
theorem GOK.below {w w' : World} (h : GOK w) (hb : Below w.heap.size w w') : GOK w' := by
  obtain ⟨m, hm⟩ := h
  exact ⟨m, (hb.cell (World.block_lt_of_cell? w _ hm)).trans hm⟩
theorem GOK.drawn {w w' : World} (h : GOK w) (hb : Drawn0 w w') : GOK w' := by
  obtain ⟨n, rfl⟩ := hb
  obtain ⟨m, hm⟩ := h
  exact ⟨m, by simpa using hm⟩
theorem GOK.drewN {w : World} (n : Nat) (h : GOK w) : GOK (w.drewN n) := h.drawn ⟨n, rfl⟩

theorem indexByte_index (l : List UInt8) (c : UInt8) : Lib.index l [c] = Lib.indexByte l c := by
  induction l with
  | nil => rfl
  | cons x r ih =>
    unfold Lib.index Lib.indexByte
    rw [ih]
    by_cases h : x = c
    · subst h; simp [List.isPrefixOf]
    · have h1 : (x == c) = false := beq_eq_false_iff_ne.2 h
      have h2 : (c == x) = false := beq_eq_false_iff_ne.2 (fun e => h e.symm)
      simp [List.isPrefixOf, h1, h2]
end Go.Proofs.YtkcgalpagpgfhaaDoor.X
