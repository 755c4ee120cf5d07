/-
  NARROWER THAN 'FOR EVERY INPUT', by the rows' own cells (each row's printed sentence says how): PairsParse: laid · PairsBack: laid · PairsLimits: laid · PairsEmpty: laid · PairsGet: laid.
  DERIVED. THE GIVEN ROWS OF THIS SEAT. 5 by the template 'for every input the law returns true; each argument reads behind the call as it read before'; 0 by the template 'total and deterministic' (their statements: YtibfhaekomflpaaDoorTotals.lean).
  GIVEN WITH THE SEED: the statements are not yours to turn. If you find one false, say at which input.
  Laid BY PROGRAM, IN A SANDBOX (cutbox-rows.mjs): the forced cells as the released guide's own fill.sh prints them over the translation 2448340e40c754af… (all of the seat's roots in one cut). By AI agents, Wed Nov 11 2026. No macro, syntax, notation, axiom, sorry.
-/
import Derived.Test.YtibfhaekomflpaaDoorChecked
import GoSem.PinnedTables
import GoSem.Claim
import GoSem.ClaimJoined
import GoSem.ClaimMapViews
import Derived.JoinedTies
import Derived.KernelRfl
namespace Go.Proofs.YtibfhaekomflpaaDoor
/- THE CELL 'sum', in the pinned program and in every row, IS THE sha256 OF THE DUMP (.gsa) THAT YtibfhaekomflpaaDoorProg.lean LOADS. Nothing in Lean hashes anything: it is a label: what it is worth is what the hold of that sum in a sandbox is worth. -/
noncomputable def Tryd.pinned : Pinned := { name := "ytibfhaekomflpaadoor", sum := "2448340e40c754af6cb333680147e515899202c1a76ac8b79a8d81bf25745b18", checked := Tryd.checked }
namespace Rows
def none {H : Type} : Left H := { results := [], args := [] }

/- WHAT THE LISTED PACKAGE-LEVEL VARIABLES READ AS WHEN THE CALL BEGINS. Each datum BY PROGRAM (the guide's laid-datum.mjs) off the statement by which the dump's own 'gosem.cut.vars' lays the variable. In a bare row this is a premise. The card (YtibfhaekomflpaaDoorCards.lean) ties it to the program's text. -/
def laid_unicode_utf8_acceptRanges {H : Type} : DataW H := .agg [.agg [.lit (.int .u8 128), .lit (.int .u8 191)], .agg [.lit (.int .u8 160), .lit (.int .u8 191)], .agg [.lit (.int .u8 128), .lit (.int .u8 159)], .agg [.lit (.int .u8 144), .lit (.int .u8 191)], .agg [.lit (.int .u8 128), .lit (.int .u8 143)], .agg [.lit (.int .u8 0), .lit (.int .u8 0)], .agg [.lit (.int .u8 0), .lit (.int .u8 0)], .agg [.lit (.int .u8 0), .lit (.int .u8 0)], .agg [.lit (.int .u8 0), .lit (.int .u8 0)], .agg [.lit (.int .u8 0), .lit (.int .u8 0)], .agg [.lit (.int .u8 0), .lit (.int .u8 0)], .agg [.lit (.int .u8 0), .lit (.int .u8 0)], .agg [.lit (.int .u8 0), .lit (.int .u8 0)], .agg [.lit (.int .u8 0), .lit (.int .u8 0)], .agg [.lit (.int .u8 0), .lit (.int .u8 0)], .agg [.lit (.int .u8 0), .lit (.int .u8 0)]]
/-- One of Go's own tables, pinned by name: the form's constant. -/
def laid_unicode_utf8_first : DataW Unit := Go.Pinned.utf8First

/-- 'exequaturlaw02.PairsParse': WHATEVER THE INPUT: true; the input reads as it did. -/
def pairsParseSpec : ChangeSpec := { name := "pairsParse", fn := fun _ => fun
  | [d] => { results := [.lit (.bool true)], args := [d] }
  | _ => none }
def pairsParseRow : OpenClaim := { program := "ytibfhaekomflpaadoor", sum := "2448340e40c754af6cb333680147e515899202c1a76ac8b79a8d81bf25745b18", func := "exequatur/exequaturlaw02.PairsParse", spec := "pairsParse", inPlace := ["internal/bytealg.IndexByteString", "internal/bytealg.IndexString", "internal/abi.NoEscape", "internal/bytealg.MakeNoZero"], unfollowed := true, recurses := true, named := ["unicode/utf8.first", "unicode/utf8.acceptRanges", "internal/bytealg.MaxLen"], apart := false, laid := [("unicode/utf8.acceptRanges", laid_unicode_utf8_acceptRanges), ("unicode/utf8.first", laid_unicode_utf8_first)] }
def PairsParseSaid : Prop := pairsParseRow.holds Tryd.pinned (OpenSpec.ofChange pairsParseSpec)

/-- ITS FALSE NEIGHBOUR: 'it returns false'. Refute it at one input. -/
def pairsParseWrong : ChangeSpec := { name := "pairsParse", fn := fun _ => fun
  | [d] => { results := [.lit (.bool false)], args := [d] }
  | _ => none }
def PairsParseWrongFalsely : Prop := pairsParseRow.holds Tryd.pinned (OpenSpec.ofChange pairsParseWrong)

/-- 'exequaturlaw02.PairsBack': WHATEVER THE INPUT: true; the input reads as it did. -/
def pairsBackSpec : ChangeSpec := { name := "pairsBack", fn := fun _ => fun
  | [d] => { results := [.lit (.bool true)], args := [d] }
  | _ => none }
def pairsBackRow : OpenClaim := { program := "ytibfhaekomflpaadoor", sum := "2448340e40c754af6cb333680147e515899202c1a76ac8b79a8d81bf25745b18", func := "exequatur/exequaturlaw02.PairsBack", spec := "pairsBack", inPlace := ["internal/bytealg.IndexByteString", "internal/bytealg.IndexString", "internal/abi.NoEscape", "internal/bytealg.MakeNoZero"], unfollowed := true, recurses := true, named := ["unicode/utf8.first", "unicode/utf8.acceptRanges", "internal/bytealg.MaxLen"], apart := false, laid := [("unicode/utf8.acceptRanges", laid_unicode_utf8_acceptRanges), ("unicode/utf8.first", laid_unicode_utf8_first)] }
def PairsBackSaid : Prop := pairsBackRow.holds Tryd.pinned (OpenSpec.ofChange pairsBackSpec)

/-- ITS FALSE NEIGHBOUR: 'it returns false'. Refute it at one input. -/
def pairsBackWrong : ChangeSpec := { name := "pairsBack", fn := fun _ => fun
  | [d] => { results := [.lit (.bool false)], args := [d] }
  | _ => none }
def PairsBackWrongFalsely : Prop := pairsBackRow.holds Tryd.pinned (OpenSpec.ofChange pairsBackWrong)

/-- 'exequaturlaw02.PairsLimits': WHATEVER THE INPUT: true; the input reads as it did. -/
def pairsLimitsSpec : ChangeSpec := { name := "pairsLimits", fn := fun _ => fun
  | [d1, d2] => { results := [.lit (.bool true)], args := [d1, d2] }
  | _ => none }
def pairsLimitsRow : OpenClaim := { program := "ytibfhaekomflpaadoor", sum := "2448340e40c754af6cb333680147e515899202c1a76ac8b79a8d81bf25745b18", func := "exequatur/exequaturlaw02.PairsLimits", spec := "pairsLimits", inPlace := ["internal/bytealg.IndexByteString", "internal/bytealg.IndexString", "internal/abi.NoEscape", "internal/bytealg.MakeNoZero"], unfollowed := true, recurses := true, named := ["unicode/utf8.first", "unicode/utf8.acceptRanges", "internal/bytealg.MaxLen"], apart := false, laid := [("unicode/utf8.acceptRanges", laid_unicode_utf8_acceptRanges), ("unicode/utf8.first", laid_unicode_utf8_first)] }
def PairsLimitsSaid : Prop := pairsLimitsRow.holds Tryd.pinned (OpenSpec.ofChange pairsLimitsSpec)

/-- ITS FALSE NEIGHBOUR: 'it returns false'. Refute it at one input. -/
def pairsLimitsWrong : ChangeSpec := { name := "pairsLimits", fn := fun _ => fun
  | [d1, d2] => { results := [.lit (.bool false)], args := [d1, d2] }
  | _ => none }
def PairsLimitsWrongFalsely : Prop := pairsLimitsRow.holds Tryd.pinned (OpenSpec.ofChange pairsLimitsWrong)

/-- 'exequaturlaw02.PairsEmpty': WHATEVER THE INPUT: true; the input reads as it did. -/
def pairsEmptySpec : ChangeSpec := { name := "pairsEmpty", fn := fun _ => fun
  | [d1, d2] => { results := [.lit (.bool true)], args := [d1, d2] }
  | _ => none }
def pairsEmptyRow : OpenClaim := { program := "ytibfhaekomflpaadoor", sum := "2448340e40c754af6cb333680147e515899202c1a76ac8b79a8d81bf25745b18", func := "exequatur/exequaturlaw02.PairsEmpty", spec := "pairsEmpty", inPlace := ["internal/bytealg.IndexByteString", "internal/bytealg.IndexString", "internal/abi.NoEscape", "internal/bytealg.MakeNoZero"], unfollowed := true, recurses := true, named := ["unicode/utf8.first", "unicode/utf8.acceptRanges", "internal/bytealg.MaxLen"], apart := false, laid := [("unicode/utf8.acceptRanges", laid_unicode_utf8_acceptRanges), ("unicode/utf8.first", laid_unicode_utf8_first)] }
def PairsEmptySaid : Prop := pairsEmptyRow.holds Tryd.pinned (OpenSpec.ofChange pairsEmptySpec)

/-- ITS FALSE NEIGHBOUR: 'it returns false'. Refute it at one input. -/
def pairsEmptyWrong : ChangeSpec := { name := "pairsEmpty", fn := fun _ => fun
  | [d1, d2] => { results := [.lit (.bool false)], args := [d1, d2] }
  | _ => none }
def PairsEmptyWrongFalsely : Prop := pairsEmptyRow.holds Tryd.pinned (OpenSpec.ofChange pairsEmptyWrong)

/-- 'exequaturlaw02.PairsGet': WHATEVER THE INPUT: true; the input reads as it did. -/
def pairsGetSpec : ChangeSpec := { name := "pairsGet", fn := fun _ => fun
  | [d1, d2] => { results := [.lit (.bool true)], args := [d1, d2] }
  | _ => none }
def pairsGetRow : OpenClaim := { program := "ytibfhaekomflpaadoor", sum := "2448340e40c754af6cb333680147e515899202c1a76ac8b79a8d81bf25745b18", func := "exequatur/exequaturlaw02.PairsGet", spec := "pairsGet", inPlace := ["internal/bytealg.IndexByteString", "internal/bytealg.IndexString", "internal/abi.NoEscape", "internal/bytealg.MakeNoZero"], unfollowed := true, recurses := true, named := ["unicode/utf8.first", "unicode/utf8.acceptRanges", "internal/bytealg.MaxLen"], apart := false, laid := [("unicode/utf8.acceptRanges", laid_unicode_utf8_acceptRanges), ("unicode/utf8.first", laid_unicode_utf8_first)] }
def PairsGetSaid : Prop := pairsGetRow.holds Tryd.pinned (OpenSpec.ofChange pairsGetSpec)

/-- ITS FALSE NEIGHBOUR: 'it returns false'. Refute it at one input. -/
def pairsGetWrong : ChangeSpec := { name := "pairsGet", fn := fun _ => fun
  | [d1, d2] => { results := [.lit (.bool false)], args := [d1, d2] }
  | _ => none }
def PairsGetWrongFalsely : Prop := pairsGetRow.holds Tryd.pinned (OpenSpec.ofChange pairsGetWrong)

/- THE SECOND FORM. 'bulk': how many values and letters a reading holds, each counted each time it is reached (what is shared counts as often as it is met; a slice's spare places count too). A statement '..UptoSaid' is the law's where the arguments, and the package variables that the reading takes, are together of bulk at most 1048576: NARROWER than '..Said'. Prove '..Said' where nothing that the law and all that it calls make is longer than what came in: it says more and counts as full. Else prove '..UptoSaid'. A law counts once. -/
mutual
def uptoBulk {H : Type} : DataW H → Nat
  | .lit (.string bytes) => bytes.length + 1
  | .lit _ => 1
  | .nil => 1
  | .ptr d => uptoBulk d + 1
  | .slice elems spare => uptoBulkAll elems + uptoBulkAll spare + 1
  | .agg parts => uptoBulkAll parts + 1
  | .iface _ d => uptoBulk d + 1
  | .map entries => uptoBulkEntries entries + 1
  | .held _ => 1
def uptoBulkAll {H : Type} : List (DataW H) → Nat
  | [] => 0
  | d :: r => uptoBulk d + uptoBulkAll r
def uptoBulkEntries {H : Type} : List (Lit × DataW H) → Nat
  | [] => 0
  | x :: r => uptoBulkEntry x + uptoBulkEntries r
def uptoBulkEntry {H : Type} : Lit × DataW H → Nat
  | (.string bytes, d) => bytes.length + uptoBulk d + 1
  | (_, d) => uptoBulk d + 1
 end
def uptoSmall : (H : Type) → List (DataW H) → Bool := fun _ ds => decide (uptoBulkAll ds ≤ 1048576)
def OpenSpec.upto (s : _root_.Go.ChangeSpec) : _root_.Go.OpenSpec := { _root_.Go.OpenSpec.ofChange s with cond := some uptoSmall }

/-- 'exequaturlaw02.PairsParse', WHERE WHAT IT READS IS OF BULK AT MOST 1048576: true; the input reads as it did. -/
def pairsParseUptoRow : OpenClaim := { program := "ytibfhaekomflpaadoor", sum := "2448340e40c754af6cb333680147e515899202c1a76ac8b79a8d81bf25745b18", func := "exequatur/exequaturlaw02.PairsParse", spec := "pairsParse", inPlace := ["internal/bytealg.IndexByteString", "internal/bytealg.IndexString", "internal/abi.NoEscape", "internal/bytealg.MakeNoZero"], unfollowed := true, recurses := true, named := ["unicode/utf8.first", "unicode/utf8.acceptRanges", "internal/bytealg.MaxLen"], apart := false, laid := [("unicode/utf8.acceptRanges", laid_unicode_utf8_acceptRanges), ("unicode/utf8.first", laid_unicode_utf8_first)], narrowed := true }
def PairsParseUptoSaid : Prop := pairsParseUptoRow.holds Tryd.pinned (OpenSpec.upto pairsParseSpec)

/-- 'exequaturlaw02.PairsBack', WHERE WHAT IT READS IS OF BULK AT MOST 1048576: true; the input reads as it did. -/
def pairsBackUptoRow : OpenClaim := { program := "ytibfhaekomflpaadoor", sum := "2448340e40c754af6cb333680147e515899202c1a76ac8b79a8d81bf25745b18", func := "exequatur/exequaturlaw02.PairsBack", spec := "pairsBack", inPlace := ["internal/bytealg.IndexByteString", "internal/bytealg.IndexString", "internal/abi.NoEscape", "internal/bytealg.MakeNoZero"], unfollowed := true, recurses := true, named := ["unicode/utf8.first", "unicode/utf8.acceptRanges", "internal/bytealg.MaxLen"], apart := false, laid := [("unicode/utf8.acceptRanges", laid_unicode_utf8_acceptRanges), ("unicode/utf8.first", laid_unicode_utf8_first)], narrowed := true }
def PairsBackUptoSaid : Prop := pairsBackUptoRow.holds Tryd.pinned (OpenSpec.upto pairsBackSpec)

/-- 'exequaturlaw02.PairsLimits', WHERE WHAT IT READS IS OF BULK AT MOST 1048576: true; the input reads as it did. -/
def pairsLimitsUptoRow : OpenClaim := { program := "ytibfhaekomflpaadoor", sum := "2448340e40c754af6cb333680147e515899202c1a76ac8b79a8d81bf25745b18", func := "exequatur/exequaturlaw02.PairsLimits", spec := "pairsLimits", inPlace := ["internal/bytealg.IndexByteString", "internal/bytealg.IndexString", "internal/abi.NoEscape", "internal/bytealg.MakeNoZero"], unfollowed := true, recurses := true, named := ["unicode/utf8.first", "unicode/utf8.acceptRanges", "internal/bytealg.MaxLen"], apart := false, laid := [("unicode/utf8.acceptRanges", laid_unicode_utf8_acceptRanges), ("unicode/utf8.first", laid_unicode_utf8_first)], narrowed := true }
def PairsLimitsUptoSaid : Prop := pairsLimitsUptoRow.holds Tryd.pinned (OpenSpec.upto pairsLimitsSpec)

/-- 'exequaturlaw02.PairsEmpty', WHERE WHAT IT READS IS OF BULK AT MOST 1048576: true; the input reads as it did. -/
def pairsEmptyUptoRow : OpenClaim := { program := "ytibfhaekomflpaadoor", sum := "2448340e40c754af6cb333680147e515899202c1a76ac8b79a8d81bf25745b18", func := "exequatur/exequaturlaw02.PairsEmpty", spec := "pairsEmpty", inPlace := ["internal/bytealg.IndexByteString", "internal/bytealg.IndexString", "internal/abi.NoEscape", "internal/bytealg.MakeNoZero"], unfollowed := true, recurses := true, named := ["unicode/utf8.first", "unicode/utf8.acceptRanges", "internal/bytealg.MaxLen"], apart := false, laid := [("unicode/utf8.acceptRanges", laid_unicode_utf8_acceptRanges), ("unicode/utf8.first", laid_unicode_utf8_first)], narrowed := true }
def PairsEmptyUptoSaid : Prop := pairsEmptyUptoRow.holds Tryd.pinned (OpenSpec.upto pairsEmptySpec)

/-- 'exequaturlaw02.PairsGet', WHERE WHAT IT READS IS OF BULK AT MOST 1048576: true; the input reads as it did. -/
def pairsGetUptoRow : OpenClaim := { program := "ytibfhaekomflpaadoor", sum := "2448340e40c754af6cb333680147e515899202c1a76ac8b79a8d81bf25745b18", func := "exequatur/exequaturlaw02.PairsGet", spec := "pairsGet", inPlace := ["internal/bytealg.IndexByteString", "internal/bytealg.IndexString", "internal/abi.NoEscape", "internal/bytealg.MakeNoZero"], unfollowed := true, recurses := true, named := ["unicode/utf8.first", "unicode/utf8.acceptRanges", "internal/bytealg.MaxLen"], apart := false, laid := [("unicode/utf8.acceptRanges", laid_unicode_utf8_acceptRanges), ("unicode/utf8.first", laid_unicode_utf8_first)], narrowed := true }
def PairsGetUptoSaid : Prop := pairsGetUptoRow.holds Tryd.pinned (OpenSpec.upto pairsGetSpec)

end Rows
end Go.Proofs.YtibfhaekomflpaaDoor
