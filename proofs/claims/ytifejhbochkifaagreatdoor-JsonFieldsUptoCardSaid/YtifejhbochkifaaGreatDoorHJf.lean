/- A value told whose rows are new. -/
import Derived.Test.YtifejhbochkifaaGreatDoorHJh
namespace Go.Proofs.YtifejhbochkifaaGreatDoor.X
open Go.RowKit Go.Proofs.YtifejhbochkifaaGreatDoorW.PrintWords Go.Proofs.YtifejhbochkifaaGreatDoorW.PrintLast Go.Proofs.YtifejhbochkifaaGreatDoorW.PrintMore Go.Proofs.YtifejhbochkifaaGreatDoor.Spec
set_option linter.unusedVariables false
/-- A value told whose rows are new since block B. -/
def VFr (w : World) (B : Nat) (x : V) (c : Value) : Prop :=
  ∃ c3 c4, c = .agg #[.int .i64 x.f0, .int .i64 x.f1, .string x.f2, c3, c4] ∧ Kd.N k25 25 w B (fun k => B ≤ k) c3 x.f3 ∧ Kd.V Kd.string 9 w B (fun k => B ≤ k) c4 x.f4
theorem VFr.at {w : World} {B : Nat} {x : V} {c : Value} (h : VFr w B x c) : VAt w x c := by
 obtain ⟨c3, c4, he, h3, h4⟩ := h
 obtain ⟨A3, q3, rfl⟩ := Kd.N_slice h3
 obtain ⟨A4, q4, rfl⟩ := Kd.V_slice h4
 have r3 := Kd.N_reads' h3
 have r4 := Kd.V_reads' h4
 exact ⟨A3, q3, A4, q4, he, r3.2.1, r3.2.2, r4.2.1, r4.2.2⟩
theorem VFr.below {w w' : World} {B : Nat} {x : V} {c : Value} (h : VFr w B x c) (hb : Below w.heap.size w w') : VFr w' B x c := by
 obtain ⟨c3, c4, he, h3, h4⟩ := h
 exact ⟨c3, c4, he, Kd.N_below h3 hb, Kd.V_below h4 hb⟩
theorem VFr.lower {w : World} {B B' : Nat} {x : V} {c : Value} (h : VFr w B x c) (hb : B' ≤ B) : VFr w B' x c := by
 obtain ⟨c3, c4, he, h3, h4⟩ := h
 exact ⟨c3, c4, he, Kd.N_mono (Kd.N_lower h3 hb) (fun k hk => Nat.le_trans hb hk), Kd.V_mono (Kd.V_lower h4 hb) (fun k hk => Nat.le_trans hb hk)⟩
theorem VFr.set5 {w : World} {B g : Nat} {x : V} {c : Value} (h : VFr w B x c) (hg : g < B) (u0 u1 u2 u3 u4 : Value) :
  VFr (((((w.setCell ⟨g, 0, none⟩ u0).setCell ⟨g, 1, none⟩ u1).setCell ⟨g, 2, none⟩ u2).setCell ⟨g, 3, none⟩ u3).setCell ⟨g, 4, none⟩ u4) B x c := by
 obtain ⟨c3, c4, he, h3, h4⟩ := h
 exact ⟨c3, c4, he, N_set5 h3 (fun k hk => by omega) u0 u1 u2 u3 u4, V_set5 h4 (fun k hk => by omega) u0 u1 u2 u3 u4⟩
def VNew (w : World) (x : V) (e : Ending) (w' : World) : Prop := ∃ c, e = .returned c ∧ VFr w' w.heap.size x c ∧ Below w.heap.size w w'
end Go.Proofs.YtifejhbochkifaaGreatDoor.X
