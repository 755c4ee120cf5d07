/- json's reader: what is taken off the front. -/
import Derived.Test.YtifejhbochkifaaGreatDoorHJs
import Derived.Lib.Strings
import Derived.Lib.Slices
import Derived.Lib.Walk
import Derived.WalkKit
import Derived.Maps.AppendAt
namespace Go.Proofs.YtifejhbochkifaaGreatDoor.X
open Go.RowKit Go.Proofs.YtifejhbochkifaaGreatDoorW.PrintWords Go.Proofs.YtifejhbochkifaaGreatDoorW.PrintLast Go.Proofs.YtifejhbochkifaaGreatDoorW.PrintMore Go.Proofs.YtifejhbochkifaaGreatDoor.Spec
set_option linter.unusedVariables false
set_option linter.unusedSimpArgs false

/-- The reader in block b: what is left of the text, and whether something was wrong. -/
def Rs (w : World) (b : Nat) (s : List UInt8) (bad : Bool) : Prop := w.heap[b]? = some (.cells #[.string (ba s), .bool bad] 46 (0, 0))
theorem Rs.c0 {w : World} {b : Nat} {s : List UInt8} {bad : Bool} (h : Rs w b s bad) : w.cell? ⟨b, 0, none⟩ = some (.string (ba s)) := (blk_cell h 0).trans rfl
theorem Rs.c1 {w : World} {b : Nat} {s : List UInt8} {bad : Bool} (h : Rs w b s bad) : w.cell? ⟨b, 1, none⟩ = some (.bool bad) := (blk_cell h 1).trans rfl
theorem Rs.lt {w : World} {b : Nat} {s : List UInt8} {bad : Bool} (h : Rs w b s bad) : b < w.heap.size := blk_lt h
theorem set_heap {w : World} {b j : Nat} {cells : Array Value} {T : TypeId} (h : w.heap[b]? = some (.cells cells T (0, 0))) (v : Value) : (w.setCell ⟨b, j, none⟩ v).heap[b]? = some (.cells (cells.setIfInBounds j v) T (0, 0)) := blk_set h j v
theorem Rs.set0 {w : World} {b : Nat} {s s' : List UInt8} {bad : Bool} (h : Rs w b s bad) : Rs (w.setCell ⟨b, 0, none⟩ (.string (ba s'))) b s' bad := (set_heap h _).trans rfl
theorem Rs.set1 {w : World} {b : Nat} {s : List UInt8} {bad bad' : Bool} (h : Rs w b s bad) : Rs (w.setCell ⟨b, 1, none⟩ (.bool bad')) b s bad' := (set_heap h _).trans rfl
theorem Rs.below {w w' : World} {b : Nat} {s : List UInt8} {bad : Bool} (h : Rs w b s bad) (hb : Below w.heap.size w w') : Rs w' b s bad := blk_below h hb
theorem Rs.alloc {w : World} {b : Nat} {s : List UInt8} {bad : Bool} (h : Rs w b s bad) (o : Obj) : Rs (w.alloc o) b s bad := blk_alloc h o
theorem Rs.grown {w w' : World} {b : Nat} {s : List UInt8} {bad : Bool} {row : Option Nat} (h : Rs w b s bad) (hg : w.grownBy w' row) (hn : some b ≠ row) : Rs w' b s bad := (hg.block b h.lt hn).trans h
theorem gb_set (w : World) (b j : Nat) (v : Value) : w.grownBy (w.setCell ⟨b, j, none⟩ v) (some b) :=
 ⟨rfl, rfl, rfl, by simp, fun i hi hn => Below.heap_setCell w ⟨b, j, none⟩ v i (fun e => hn (congrArg some e))⟩

theorem cut_prefix (s p : ByteArray) (w : World) :
  Calls Tryz.prog 58 #[.string s, .string p] w fun e w' => e = .returned (.tuple #[.string ⟨(Lib.trimPrefix s.data.toList p.data.toList).toArray⟩, .bool (Lib.hasPrefix s.data.toList p.data.toList)]) ∧ w' = w := by
 go_enter Tryz.func58, Tryz.ntmps58
 go_wp2
 ·have h2 : (!((s.extract 0 p.size).toList == p.toList)) = true := by assumption
  have h3 : (decide (p.size ≤ s.size) && ((s.extract 0 p.size).toList == p.toList)) = false := by
   have : ((s.extract 0 p.size).toList == p.toList) = false := by simpa using h2
   rw [this]
   simp
  go_ret2
  refine ⟨?_, rfl⟩
  rw [Lib.trimPrefix_miss s p h3, ← Lib.hasPrefix_raw, h3]
  rfl
 ·have h1 : p.size ≤ s.size := by assumption
  have h2 : (!((s.extract 0 p.size).toList == p.toList)) = false := by assumption
  have h2' : ((s.extract 0 p.size).toList == p.toList) = true := by simpa using h2
  go_ret2
  refine ⟨?_, rfl⟩
  rw [Lib.trimPrefix_hit s p h1 h2', ← Lib.hasPrefix_raw, h2', decide_eq_true h1]
  rfl
 ·have h1 : ¬ p.size ≤ s.size := by assumption
  have h3 : (decide (p.size ≤ s.size) && ((s.extract 0 p.size).toList == p.toList)) = false := by simp [h1]
  go_ret2
  refine ⟨?_, rfl⟩
  rw [Lib.trimPrefix_miss s p h3, ← Lib.hasPrefix_raw, h3]
  rfl
theorem cut_yes (s p : List UInt8) (h : p <+: s) (w : World) : Calls Tryz.prog 58 #[.string (ba s), .string (ba p)] w fun e w' => e = .returned (.tuple #[.string (ba (s.drop p.length)), .bool true]) ∧ w' = w := by
 refine (cut_prefix (ba s) (ba p) w).mono ?_
 rintro e w' ⟨rfl, rfl⟩
 have h2 : Lib.hasPrefix s p = true := by unfold Lib.hasPrefix; exact List.isPrefixOf_iff_prefix.2 h
 refine ⟨?_, rfl⟩
 have e1 : Lib.hasPrefix (ba s).data.toList (ba p).data.toList = true := h2
 have e2 : Lib.trimPrefix (ba s).data.toList (ba p).data.toList = s.drop p.length := by unfold Lib.trimPrefix; rw [e1]; rfl
 rw [e1, e2]; rfl
theorem cut_no (s p : List UInt8) (h : ¬ p <+: s) (w : World) : Calls Tryz.prog 58 #[.string (ba s), .string (ba p)] w fun e w' => e = .returned (.tuple #[.string (ba s), .bool false]) ∧ w' = w := by
 refine (cut_prefix (ba s) (ba p) w).mono ?_
 rintro e w' ⟨rfl, rfl⟩
 have h2 : Lib.hasPrefix s p = false := by
  unfold Lib.hasPrefix
  exact Bool.eq_false_iff.2 (fun hh => h (List.isPrefixOf_iff_prefix.1 hh))
 refine ⟨?_, rfl⟩
 have e1 : Lib.hasPrefix (ba s).data.toList (ba p).data.toList = false := h2
 have e2 : Lib.trimPrefix (ba s).data.toList (ba p).data.toList = s := by unfold Lib.trimPrefix; rw [e1]; rfl
 rw [e1, e2]; rfl

set_option maxHeartbeats 1000000 in
theorem take_yes (b : Nat) (s p : List UInt8) (bad : Bool) (w : World) (h : Rs w b s bad) (hp : p <+: s) :
  Calls Tryz.prog 38 #[.pointer (some ⟨b, 0, none⟩), .string (ba p)] w fun e w' => e = .returned (.bool true) ∧ Rs w' b (s.drop p.length) bad ∧ w.grownBy w' (some b) := by
 have H := Aside0.mk h
 have h0 := h.c0
 have f0 := blk_frozen h 0
 have HP := Aside0.mk hp
 clear h hp
 go_enter Tryz.func38, Tryz.ntmps38
 go_wp2_with fail
 refine (cut_yes s p HP.out w).mono ?_
 rintro e w1 ⟨rfl, rfl⟩
 go_wp2
 go_ret
 exact ⟨rfl, H.out.set0, gb_set w1 b 0 _⟩
set_option maxHeartbeats 1000000 in
theorem take_no (b : Nat) (s p : List UInt8) (bad : Bool) (w : World) (h : Rs w b s bad) (hp : ¬ p <+: s) :
  Calls Tryz.prog 38 #[.pointer (some ⟨b, 0, none⟩), .string (ba p)] w fun e w' => e = .returned (.bool false) ∧ w' = w := by
 have h0 := h.c0
 have HP := Aside0.mk hp
 clear h hp
 go_enter Tryz.func38, Tryz.ntmps38
 go_wp2_with fail
 refine (cut_no s p HP.out w).mono ?_
 rintro e w1 ⟨rfl, rfl⟩
 go_wp2
 go_ret
 exact ⟨rfl, rfl⟩
set_option maxHeartbeats 1000000 in
theorem need_yes (b : Nat) (s p : List UInt8) (bad : Bool) (w : World) (h : Rs w b s bad) (hp : p <+: s) :
  Calls Tryz.prog 60 #[.pointer (some ⟨b, 0, none⟩), .string (ba p)] w fun e w' => e = .returned (.tuple #[]) ∧ Rs w' b (s.drop p.length) bad ∧ w.grownBy w' (some b) := by
 have H := Aside0.mk h
 have HP := Aside0.mk hp
 clear h hp
 go_enter Tryz.func60, Tryz.ntmps60
 go_wp2_with fail
 refine (take_yes b s p bad w H.out HP.out).mono ?_
 rintro e w1 ⟨rfl, h1, g1⟩
 have h1c := h1.c1
 have f1 := blk_frozen h1 1
 have H1 := Aside0.mk h1
 have G1 := Aside0.mk g1
 clear h1 g1
 go_wp2
 go_end0
 exact ⟨rfl, H1.out.set1, G1.out.trans (gb_set w1 b 1 _)⟩
set_option maxHeartbeats 1000000 in
theorem need_no (b : Nat) (s p : List UInt8) (bad : Bool) (w : World) (h : Rs w b s bad) (hp : ¬ p <+: s) :
  Calls Tryz.prog 60 #[.pointer (some ⟨b, 0, none⟩), .string (ba p)] w fun e w' => e = .returned (.tuple #[]) ∧ Rs w' b s true ∧ w.grownBy w' (some b) := by
 have H := Aside0.mk h
 have HP := Aside0.mk hp
 clear h hp
 go_enter Tryz.func60, Tryz.ntmps60
 go_wp2_with fail
 refine (take_no b s p bad w H.out HP.out).mono ?_
 rintro e w1 ⟨rfl, rfl⟩
 have h1c := H.out.c1
 have f1 := blk_frozen H.out 1
 go_wp2
 go_end0
 exact ⟨rfl, H.out.set1, gb_set w1 b 1 _⟩
end Go.Proofs.YtifejhbochkifaaGreatDoor.X
