-- Lean text made by xprint.py (ours) out of the seat's translation. Lean checks it.
import Derived.Test.YtnfnalalpligiaaProg
import Derived.Below
import Derived.Deep.Draws
import Derived.Deep.AppendLies
import Derived.Maps.AppendAt
import Derived.OwnWalk
import Derived.Laws.BytesArg
import Derived.Laws.MakeOwn
import Derived.Laws.OwnMore
import Derived.Deep.OwnRows
import Derived.Tactics
import Derived.Lib.ConvBytes
import Derived.Laws.Slices
import Derived.WalkKit
import Derived.KernelRfl
import Derived.RowKit3
import Derived.Deep.LoopGhost
import Derived.Deep.QuietTactic
import Derived.BigQuiet
import Derived.WideLaws
import Derived.Deep.DeepCutAuto
import Derived.Deep.CutBlock
import Derived.Deep.RegionHeld3
import Derived.Laws.Rows
import Derived.Lib.AppendStr
import Derived.ArgAppend
import Derived.Laws.IdiomCopy
import Derived.OrdersHeld
import Derived.Laws.BitsLemmas
import Derived.RowKit
import Derived.Test.YtnfnalalpligiaaWWords
import Derived.Test.YtnfnalalpligiaaWLast
import Derived.Test.YtnfnalalpligiaaWTab
import Derived.Test.YtnfnalalpligiaaWFour
import Derived.Test.YtnfnalalpligiaaWQPut
import Derived.Test.YtnfnalalpligiaaWApart
import Derived.Test.YtnfnalalpligiaaWArr
import Derived.Test.YtnfnalalpligiaaWZeros
import Derived.Test.YtnfnalalpligiaaWFoot
import Derived.Test.YtnfnalalpligiaaWKept
import Derived.Test.YtnfnalalpligiaaWShare
import Derived.Test.YtnfnalalpligiaaWN
import Derived.Test.YtnfnalalpligiaaWFootNe
import Derived.Test.YtnfnalalpligiaaWAt
import Derived.Test.YtnfnalalpligiaaWEqStruct
import Derived.Test.YtnfnalalpligiaaWRepsOne
import Derived.Test.YtnfnalalpligiaaWInv
import Derived.Test.YtnfnalalpligiaaWInvWords
import Derived.Test.YtnfnalalpligiaaWGuard
import Derived.Test.YtnfnalalpligiaaWNEv
import Derived.Test.YtnfnalalpligiaaWMore
namespace Go.Proofs.Ytnfnalalpligiaa.X
open Go.RowKit Go.Proofs.YtnfnalalpligiaaW.PrintWords Go.Proofs.YtnfnalalpligiaaW.PrintLast Go.Proofs.YtnfnalalpligiaaW.PrintMore
attribute [local go_sem] max2_int min2_int max_two min_two max_three min_three max_four min_four   -- for this text's walks alone
set_option linter.unusedVariables false
set_option linter.unusedSimpArgs false



def errW : Option Int → Value
  | none => .nilIface
  | some c => .iface 0 (.int .i64 c)
theorem errW_none : errW none = .nilIface := rfl
theorem errW_some (c : Int) : errW (some c) = .iface 0 (.int .i64 c) := rfl

-- the values' own types

end Go.Proofs.Ytnfnalalpligiaa.X
