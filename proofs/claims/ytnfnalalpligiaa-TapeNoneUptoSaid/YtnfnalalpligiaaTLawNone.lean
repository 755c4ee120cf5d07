/- TapeNone: its walk in the rows' form. -/
import Derived.Test.YtnfnalalpligiaaTAns
namespace Go.Proofs.Ytnfnalalpligiaa.X
open Go.RowKit Go.Proofs.YtnfnalalpligiaaW.PrintWords Go.Proofs.YtnfnalalpligiaaW.PrintLast Go.Proofs.YtnfnalalpligiaaW.PrintMore
set_option linter.unusedVariables false

def exequaturlaw10_TapeNone.f (l0 : List Int) (a1 : Int) : Option Bool := some true
theorem exequaturlaw10_TapeNone.calls (A0 : Option Addr) (c0 : Nat) (l0 : List Int) (a1 : Int) (r : Bool) (w : World) (hr0 : Kd.C (Kd.int .u8) w A0 l0.length l0) (hc0 : l0.length ≤ c0) (h : exequaturlaw10_TapeNone.f l0 a1 = some r) :
    Calls Try.prog 5 #[.slice A0 l0.length c0, .int .i64 a1] w fun e w' => e = .returned (.bool r) ∧ Below w.heap.size w w' := by
  obtain rfl := Option.some.inj h
  exact none_walk _ a1 w
end Go.Proofs.Ytnfnalalpligiaa.X
