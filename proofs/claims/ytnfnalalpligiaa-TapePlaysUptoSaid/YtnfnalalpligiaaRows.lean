/-
  No cell of these rows narrows 'for every input' (looked for: loops, veiled, ifaces, maps, wideKeys, modest, calm, conditions, laid).
  DERIVED. THE GIVEN ROWS OF THIS SEAT. 4 by the template 'for every input the law returns true; each argument reads behind the call as it read before'; 0 by the template 'total and deterministic' (their statements: YtnfnalalpligiaaTotals.lean).
  GIVEN WITH THE SEED: the statements are not yours to turn. If you find one false, say at which input.
  Laid BY PROGRAM, IN A SANDBOX (cutbox-rows.mjs): the forced cells as the released guide's own fill.sh prints them over the translation b2979deb90b25067… (all of the seat's roots in one cut). By AI agents, Wed Nov 11 2026. No macro, syntax, notation, axiom, sorry.
-/
import Derived.Test.YtnfnalalpligiaaChecked
import GoSem.Claim
import GoSem.ClaimJoined
import GoSem.ClaimMapViews
import Derived.JoinedTies
import Derived.KernelRfl
namespace Go.Proofs.Ytnfnalalpligiaa
/- THE CELL 'sum', in the pinned program and in every row, IS THE sha256 OF THE DUMP (.gsa) THAT YtnfnalalpligiaaProg.lean LOADS. Nothing in Lean hashes anything: it is a label: what it is worth is what the hold of that sum in a sandbox is worth. -/
noncomputable def Try.pinned : Pinned := { name := "ytnfnalalpligiaa", sum := "b2979deb90b2506716a96b5d4943fd5a3b5d3ffeb19df9221ade825ab2e97b4a", checked := Try.checked }
namespace Rows
def none {H : Type} : Left H := { results := [], args := [] }

/-- 'exequaturlaw10.TapeSure': WHATEVER THE INPUT: true; the input reads as it did. -/
def tapeSureSpec : ChangeSpec := { name := "tapeSure", fn := fun _ => fun
  | [d1, d2, d3, d4] => { results := [.lit (.bool true)], args := [d1, d2, d3, d4] }
  | _ => none }
def tapeSureRow : OpenClaim := { program := "ytnfnalalpligiaa", sum := "b2979deb90b2506716a96b5d4943fd5a3b5d3ffeb19df9221ade825ab2e97b4a", func := "exequatur/exequaturlaw10.TapeSure", spec := "tapeSure", apart := false }
def TapeSureSaid : Prop := tapeSureRow.holds Try.pinned (OpenSpec.ofChange tapeSureSpec)

/-- ITS FALSE NEIGHBOUR: 'it returns false'. Refute it at one input. -/
def tapeSureWrong : ChangeSpec := { name := "tapeSure", fn := fun _ => fun
  | [d1, d2, d3, d4] => { results := [.lit (.bool false)], args := [d1, d2, d3, d4] }
  | _ => none }
def TapeSureWrongFalsely : Prop := tapeSureRow.holds Try.pinned (OpenSpec.ofChange tapeSureWrong)

/-- 'exequaturlaw10.TapePlays': WHATEVER THE INPUT: true; the input reads as it did. -/
def tapePlaysSpec : ChangeSpec := { name := "tapePlays", fn := fun _ => fun
  | [d] => { results := [.lit (.bool true)], args := [d] }
  | _ => none }
def tapePlaysRow : OpenClaim := { program := "ytnfnalalpligiaa", sum := "b2979deb90b2506716a96b5d4943fd5a3b5d3ffeb19df9221ade825ab2e97b4a", func := "exequatur/exequaturlaw10.TapePlays", spec := "tapePlays", apart := false }
def TapePlaysSaid : Prop := tapePlaysRow.holds Try.pinned (OpenSpec.ofChange tapePlaysSpec)

/-- ITS FALSE NEIGHBOUR: 'it returns false'. Refute it at one input. -/
def tapePlaysWrong : ChangeSpec := { name := "tapePlays", fn := fun _ => fun
  | [d] => { results := [.lit (.bool false)], args := [d] }
  | _ => none }
def TapePlaysWrongFalsely : Prop := tapePlaysRow.holds Try.pinned (OpenSpec.ofChange tapePlaysWrong)

/-- 'exequaturlaw10.TapeNone': WHATEVER THE INPUT: true; the input reads as it did. -/
def tapeNoneSpec : ChangeSpec := { name := "tapeNone", fn := fun _ => fun
  | [d1, d2] => { results := [.lit (.bool true)], args := [d1, d2] }
  | _ => none }
def tapeNoneRow : OpenClaim := { program := "ytnfnalalpligiaa", sum := "b2979deb90b2506716a96b5d4943fd5a3b5d3ffeb19df9221ade825ab2e97b4a", func := "exequatur/exequaturlaw10.TapeNone", spec := "tapeNone", apart := false }
def TapeNoneSaid : Prop := tapeNoneRow.holds Try.pinned (OpenSpec.ofChange tapeNoneSpec)

/-- ITS FALSE NEIGHBOUR: 'it returns false'. Refute it at one input. -/
def tapeNoneWrong : ChangeSpec := { name := "tapeNone", fn := fun _ => fun
  | [d1, d2] => { results := [.lit (.bool false)], args := [d1, d2] }
  | _ => none }
def TapeNoneWrongFalsely : Prop := tapeNoneRow.holds Try.pinned (OpenSpec.ofChange tapeNoneWrong)

/-- 'exequaturlaw10.TapeBurns': WHATEVER THE INPUT: true; the input reads as it did. -/
def tapeBurnsSpec : ChangeSpec := { name := "tapeBurns", fn := fun _ => fun
  | [d1, d2] => { results := [.lit (.bool true)], args := [d1, d2] }
  | _ => none }
def tapeBurnsRow : OpenClaim := { program := "ytnfnalalpligiaa", sum := "b2979deb90b2506716a96b5d4943fd5a3b5d3ffeb19df9221ade825ab2e97b4a", func := "exequatur/exequaturlaw10.TapeBurns", spec := "tapeBurns", apart := false }
def TapeBurnsSaid : Prop := tapeBurnsRow.holds Try.pinned (OpenSpec.ofChange tapeBurnsSpec)

/-- ITS FALSE NEIGHBOUR: 'it returns false'. Refute it at one input. -/
def tapeBurnsWrong : ChangeSpec := { name := "tapeBurns", fn := fun _ => fun
  | [d1, d2] => { results := [.lit (.bool false)], args := [d1, d2] }
  | _ => none }
def TapeBurnsWrongFalsely : Prop := tapeBurnsRow.holds Try.pinned (OpenSpec.ofChange tapeBurnsWrong)

/- THE SECOND FORM. 'bulk': how many values and letters a reading holds, each counted each time it is reached (what is shared counts as often as it is met; a slice's spare places count too). A statement '..UptoSaid' is the law's where the arguments, and the package variables that the reading takes, are together of bulk at most 1048576: NARROWER than '..Said'. Prove '..Said' where nothing that the law and all that it calls make is longer than what came in: it says more and counts as full. Else prove '..UptoSaid'. A law counts once. -/
mutual
def uptoBulk {H : Type} : DataW H → Nat
  | .lit (.string bytes) => bytes.length + 1
  | .lit _ => 1
  | .nil => 1
  | .ptr d => uptoBulk d + 1
  | .slice elems spare => uptoBulkAll elems + uptoBulkAll spare + 1
  | .agg parts => uptoBulkAll parts + 1
  | .iface _ d => uptoBulk d + 1
  | .map entries => uptoBulkEntries entries + 1
  | .held _ => 1
def uptoBulkAll {H : Type} : List (DataW H) → Nat
  | [] => 0
  | d :: r => uptoBulk d + uptoBulkAll r
def uptoBulkEntries {H : Type} : List (Lit × DataW H) → Nat
  | [] => 0
  | x :: r => uptoBulkEntry x + uptoBulkEntries r
def uptoBulkEntry {H : Type} : Lit × DataW H → Nat
  | (.string bytes, d) => bytes.length + uptoBulk d + 1
  | (_, d) => uptoBulk d + 1
 end
def uptoSmall : (H : Type) → List (DataW H) → Bool := fun _ ds => decide (uptoBulkAll ds ≤ 1048576)
def OpenSpec.upto (s : _root_.Go.ChangeSpec) : _root_.Go.OpenSpec := { _root_.Go.OpenSpec.ofChange s with cond := some uptoSmall }

/-- 'exequaturlaw10.TapeSure', WHERE WHAT IT READS IS OF BULK AT MOST 1048576: true; the input reads as it did. -/
def tapeSureUptoRow : OpenClaim := { program := "ytnfnalalpligiaa", sum := "b2979deb90b2506716a96b5d4943fd5a3b5d3ffeb19df9221ade825ab2e97b4a", func := "exequatur/exequaturlaw10.TapeSure", spec := "tapeSure", apart := false, narrowed := true }
def TapeSureUptoSaid : Prop := tapeSureUptoRow.holds Try.pinned (OpenSpec.upto tapeSureSpec)

/-- 'exequaturlaw10.TapePlays', WHERE WHAT IT READS IS OF BULK AT MOST 1048576: true; the input reads as it did. -/
def tapePlaysUptoRow : OpenClaim := { program := "ytnfnalalpligiaa", sum := "b2979deb90b2506716a96b5d4943fd5a3b5d3ffeb19df9221ade825ab2e97b4a", func := "exequatur/exequaturlaw10.TapePlays", spec := "tapePlays", apart := false, narrowed := true }
def TapePlaysUptoSaid : Prop := tapePlaysUptoRow.holds Try.pinned (OpenSpec.upto tapePlaysSpec)

/-- 'exequaturlaw10.TapeNone', WHERE WHAT IT READS IS OF BULK AT MOST 1048576: true; the input reads as it did. -/
def tapeNoneUptoRow : OpenClaim := { program := "ytnfnalalpligiaa", sum := "b2979deb90b2506716a96b5d4943fd5a3b5d3ffeb19df9221ade825ab2e97b4a", func := "exequatur/exequaturlaw10.TapeNone", spec := "tapeNone", apart := false, narrowed := true }
def TapeNoneUptoSaid : Prop := tapeNoneUptoRow.holds Try.pinned (OpenSpec.upto tapeNoneSpec)

/-- 'exequaturlaw10.TapeBurns', WHERE WHAT IT READS IS OF BULK AT MOST 1048576: true; the input reads as it did. -/
def tapeBurnsUptoRow : OpenClaim := { program := "ytnfnalalpligiaa", sum := "b2979deb90b2506716a96b5d4943fd5a3b5d3ffeb19df9221ade825ab2e97b4a", func := "exequatur/exequaturlaw10.TapeBurns", spec := "tapeBurns", apart := false, narrowed := true }
def TapeBurnsUptoSaid : Prop := tapeBurnsUptoRow.holds Try.pinned (OpenSpec.upto tapeBurnsSpec)

end Rows
end Go.Proofs.Ytnfnalalpligiaa
