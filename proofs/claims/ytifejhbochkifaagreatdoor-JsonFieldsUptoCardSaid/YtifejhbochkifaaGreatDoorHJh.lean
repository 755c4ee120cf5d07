/- A value told: its rows are read; stores beside it. -/
import Derived.Test.YtifejhbochkifaaGreatDoorHNum
namespace Go.Proofs.YtifejhbochkifaaGreatDoor.X
open Go.RowKit Go.Proofs.YtifejhbochkifaaGreatDoorW.PrintWords Go.Proofs.YtifejhbochkifaaGreatDoorW.PrintLast Go.Proofs.YtifejhbochkifaaGreatDoorW.PrintMore Go.Proofs.YtifejhbochkifaaGreatDoor.Spec
set_option linter.unusedVariables false
/-- A value told: its rows are read. -/
def VAt (w : World) (x : V) (c : Value) : Prop :=
  ∃ A3 q3 A4 q4, c = .agg #[.int .i64 x.f0, .int .i64 x.f1, .string x.f2, .slice A3 x.f3.length q3, .slice A4 x.f4.length q4] ∧ x.f3.length ≤ q3 ∧ Kd.C k25 w A3 x.f3.length x.f3 ∧ x.f4.length ≤ q4 ∧ Kd.C Kd.string w A4 x.f4.length x.f4
theorem VAt.below {w w' : World} {x : V} {c : Value} (h : VAt w x c) (hb : Below w.heap.size w w') : VAt w' x c := by
 obtain ⟨A3, q3, A4, q4, he, h1, h2, h3, h4⟩ := h
 exact ⟨A3, q3, A4, q4, he, h1, Kd.C_below h2 hb, h3, Kd.C_below h4 hb⟩
def VRet (w : World) (x : V) (e : Ending) (w' : World) : Prop := ∃ c, e = .returned c ∧ VAt w' x c ∧ Below w.heap.size w w'
theorem below_base {B B' : Nat} {w w1 w2 : World} (h : Below B w w1) (k : Below B' w1 w2) (hB : B ≤ B') : Below B w w2 :=
 ⟨k.os.trans h.os, k.tape.trans h.tape, k.output.trans h.output, Nat.le_trans h.size k.size, fun i hi => (k.block i (by omega)).trans (h.block i hi)⟩
theorem below_grown {w w1 : World} (h : w.grownBy w1 none) : Below w.heap.size w w1 := ⟨h.os, h.tape, h.output, h.size, fun i hi => h.block i hi (by simp)⟩
theorem N_set5 {α : Type} {d : Kd α} {e g B : Nat} {w : World} {ok : Nat → Prop} {v : Value} {xs : List α} (h : Kd.N d e w B ok v xs) (hok : ∀ k, ok k → k ≠ g) (u0 u1 u2 u3 u4 : Value) :
  Kd.N d e (((((w.setCell ⟨g, 0, none⟩ u0).setCell ⟨g, 1, none⟩ u1).setCell ⟨g, 2, none⟩ u2).setCell ⟨g, 3, none⟩ u3).setCell ⟨g, 4, none⟩ u4) B ok v xs :=
 Kd.N_far (p := ⟨g, 4, none⟩) (Kd.N_far (p := ⟨g, 3, none⟩) (Kd.N_far (p := ⟨g, 2, none⟩) (Kd.N_far (p := ⟨g, 1, none⟩) (Kd.N_far (p := ⟨g, 0, none⟩) h hok u0) hok u1) hok u2) hok u3) hok u4
theorem V_set5 {α : Type} {d : Kd α} {e g B : Nat} {w : World} {ok : Nat → Prop} {v : Value} {xs : List α} (h : Kd.V d e w B ok v xs) (hok : ∀ k, ok k → k ≠ g) (u0 u1 u2 u3 u4 : Value) :
  Kd.V d e (((((w.setCell ⟨g, 0, none⟩ u0).setCell ⟨g, 1, none⟩ u1).setCell ⟨g, 2, none⟩ u2).setCell ⟨g, 3, none⟩ u3).setCell ⟨g, 4, none⟩ u4) B ok v xs :=
 Kd.V_far (p := ⟨g, 4, none⟩) (Kd.V_far (p := ⟨g, 3, none⟩) (Kd.V_far (p := ⟨g, 2, none⟩) (Kd.V_far (p := ⟨g, 1, none⟩) (Kd.V_far (p := ⟨g, 0, none⟩) h hok u0) hok u1) hok u2) hok u3) hok u4
theorem Rr_set5 {α : Type} {d : Kd α} {e g B : Nat} {w : World} {ok : Nat → Prop} {v : Value} {xs : List α} (h : Kd.R d e w B ok v xs) (hok : ∀ k, ok k → k ≠ g) (u0 u1 u2 u3 u4 : Value) :
  Kd.R d e (((((w.setCell ⟨g, 0, none⟩ u0).setCell ⟨g, 1, none⟩ u1).setCell ⟨g, 2, none⟩ u2).setCell ⟨g, 3, none⟩ u3).setCell ⟨g, 4, none⟩ u4) B ok v xs :=
 Kd.R_far (p := ⟨g, 4, none⟩) (Kd.R_far (p := ⟨g, 3, none⟩) (Kd.R_far (p := ⟨g, 2, none⟩) (Kd.R_far (p := ⟨g, 1, none⟩) (Kd.R_far (p := ⟨g, 0, none⟩) h hok u0) hok u1) hok u2) hok u3) hok u4
theorem below_set5 {g : Nat} {w0 w : World} (h : Below w0.heap.size w0 w) (hg : w0.heap.size ≤ g) (u0 u1 u2 u3 u4 : Value) :
  Below w0.heap.size w0 (((((w.setCell ⟨g, 0, none⟩ u0).setCell ⟨g, 1, none⟩ u1).setCell ⟨g, 2, none⟩ u2).setCell ⟨g, 3, none⟩ u3).setCell ⟨g, 4, none⟩ u4) :=
 below_set (below_set (below_set (below_set (below_set h hg) hg) hg) hg) hg
end Go.Proofs.YtifejhbochkifaaGreatDoor.X
