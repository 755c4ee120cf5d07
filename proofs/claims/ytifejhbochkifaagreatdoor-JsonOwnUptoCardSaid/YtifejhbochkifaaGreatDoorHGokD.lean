/- What the library's search and conversions want of a world: MaxLen, the table of the powers of ten, two errors' variables. -/
import Derived.Test.YtifejhbochkifaaGreatDoorHLib
import Derived.Lib.IndexMore
import Derived.Lib.AppendIntMem
import Derived.Lib.SmallJoins
namespace Go.Proofs.YtifejhbochkifaaGreatDoor.X
open Go.RowKit Go.Proofs.YtifejhbochkifaaGreatDoorW.PrintWords Go.Proofs.YtifejhbochkifaaGreatDoorW.PrintLast Go.Proofs.YtifejhbochkifaaGreatDoorW.PrintMore Go.Proofs.YtifejhbochkifaaGreatDoor.Spec
set_option linter.unusedVariables false
set_option linter.unusedSimpArgs false

def GOK (w : World) : Prop := (∃ m, w.cell? ⟨3, 0, none⟩ = some (.int .i64 m)) ∧ Lib.TabIs Tryz.prog w "internal/strconv.uint64pow10" .u64 Lib.pow10Tab ∧ (∃ tp p, w.var? Tryz.prog "strconv.ErrSyntax" = some #[.iface tp p]) ∧ (∃ tp p, w.var? Tryz.prog "strconv.ErrRange" = some #[.iface tp p])
theorem GOK.maxLen {w : World} (h : GOK w) : ∃ m, w.cell? ⟨3, 0, none⟩ = some (.int .i64 m) := h.1
theorem GOK.tab {w : World} (h : GOK w) : Lib.TabIs Tryz.prog w "internal/strconv.uint64pow10" .u64 Lib.pow10Tab := h.2.1
theorem GOK.esyn {w : World} (h : GOK w) : ∃ tp p, w.var? Tryz.prog "strconv.ErrSyntax" = some #[.iface tp p] := h.2.2.1
theorem GOK.eran {w : World} (h : GOK w) : ∃ tp p, w.var? Tryz.prog "strconv.ErrRange" = some #[.iface tp p] := h.2.2.2
theorem GOK.below {w w' : World} (h : GOK w) (hb : Below w.heap.size w w') : GOK w' := by
 obtain ⟨⟨m, hm⟩, h1, ⟨tp, p, h2⟩, tp', p', h3⟩ := h
 refine ⟨⟨m, (hb.cell (World.block_lt_of_cell? w _ hm)).trans hm⟩, ?_, ⟨tp, p, ?_⟩, tp', p', ?_⟩
 ·exact Joins.tab_stays (g := 0) (by kernel_rfl) h1 hb (Nat.le_refl _)
 ·exact Joins.var_stays (g := 1) (by kernel_rfl) h2 hb (Nat.le_refl _)
 ·exact Joins.var_stays (g := 2) (by kernel_rfl) h3 hb (Nat.le_refl _)
theorem GOK.drawn {w w' : World} (h : GOK w) (hb : Drawn0 w w') : GOK w' := by
 obtain ⟨n, rfl⟩ := hb
 exact h
theorem GOK.drewN {w : World} (n : Nat) (h : GOK w) : GOK (w.drewN n) := h

theorem indexByte_index (l : List UInt8) (c : UInt8) : Lib.index l [c] = Lib.indexByte l c := by
 induction l with
 | nil => rfl
 | cons x r ih =>
  unfold Lib.index Lib.indexByte
  rw [ih]
  by_cases h : x = c
  ·subst h; simp [List.isPrefixOf]
  ·have h1 : (x == c) = false := beq_eq_false_iff_ne.2 h
   have h2 : (c == x) = false := beq_eq_false_iff_ne.2 (fun e => h e.symm)
   simp [List.isPrefixOf, h1, h2]
end Go.Proofs.YtifejhbochkifaaGreatDoor.X
