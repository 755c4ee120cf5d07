/-
  NARROWER THAN 'FOR EVERY INPUT', by the rows' own cells (each row's printed sentence says how): UriWith: laid · UriBytes: laid · UriAgain: laid · UriParts: laid · UriPrint: laid.
  DERIVED. THE GIVEN ROWS OF THIS SEAT. 5 by the template 'for every input the law returns true; each argument reads behind the call as it read before'; 0 by the template 'total and deterministic' (their statements: YtjagjfmkfiikaaaDoorTotals.lean).
  GIVEN WITH THE SEED: the statements are not yours to turn. If you find one false, say at which input.
  Laid BY PROGRAM, IN A SANDBOX (cutbox-rows.mjs): the forced cells as the released guide's own fill.sh prints them over the translation 7982a82252082e19… (all of the seat's roots in one cut). By AI agents, Wed Nov 11 2026. No macro, syntax, notation, axiom, sorry.
-/
import Derived.Test.YtjagjfmkfiikaaaDoorChecked
import GoSem.PinnedTables
import GoSem.Claim
import GoSem.ClaimJoined
import GoSem.ClaimMapViews
import Derived.JoinedTies
import Derived.KernelRfl
namespace Go.Proofs.YtjagjfmkfiikaaaDoor
/- THE CELL 'sum', in the pinned program and in every row, IS THE sha256 OF THE DUMP (.gsa) THAT YtjagjfmkfiikaaaDoorProg.lean LOADS. Nothing in Lean hashes anything: it is a label: what it is worth is what the hold of that sum in a sandbox is worth. -/
noncomputable def Tryd.pinned : Pinned := { name := "ytjagjfmkfiikaaadoor", sum := "7982a82252082e195f155bea36efe66d0d9f0c72bac21b056928f33f692f8011", checked := Tryd.checked }
namespace Rows
def none {H : Type} : Left H := { results := [], args := [] }

/- WHAT THE LISTED PACKAGE-LEVEL VARIABLES READ AS WHEN THE CALL BEGINS. Each datum BY PROGRAM (the guide's laid-datum.mjs) off the statement by which the dump's own 'gosem.cut.vars' lays the variable. In a bare row this is a premise. The card (YtjagjfmkfiikaaaDoorCards.lean) ties it to the program's text. -/
def laid_unicode_utf8_acceptRanges {H : Type} : DataW H := .agg [.agg [.lit (.int .u8 128), .lit (.int .u8 191)], .agg [.lit (.int .u8 160), .lit (.int .u8 191)], .agg [.lit (.int .u8 128), .lit (.int .u8 159)], .agg [.lit (.int .u8 144), .lit (.int .u8 191)], .agg [.lit (.int .u8 128), .lit (.int .u8 143)], .agg [.lit (.int .u8 0), .lit (.int .u8 0)], .agg [.lit (.int .u8 0), .lit (.int .u8 0)], .agg [.lit (.int .u8 0), .lit (.int .u8 0)], .agg [.lit (.int .u8 0), .lit (.int .u8 0)], .agg [.lit (.int .u8 0), .lit (.int .u8 0)], .agg [.lit (.int .u8 0), .lit (.int .u8 0)], .agg [.lit (.int .u8 0), .lit (.int .u8 0)], .agg [.lit (.int .u8 0), .lit (.int .u8 0)], .agg [.lit (.int .u8 0), .lit (.int .u8 0)], .agg [.lit (.int .u8 0), .lit (.int .u8 0)], .agg [.lit (.int .u8 0), .lit (.int .u8 0)]]
/-- One of Go's own tables, pinned by name: the form's constant. -/
def laid_unicode_utf8_first : DataW Unit := Go.Pinned.utf8First

/-- 'exequaturlaw03.UriWith': WHATEVER THE INPUT: true; the input reads as it did. -/
def uriWithSpec : ChangeSpec := { name := "uriWith", fn := fun _ => fun
  | [d1, d2] => { results := [.lit (.bool true)], args := [d1, d2] }
  | _ => none }
def uriWithRow : OpenClaim := { program := "ytjagjfmkfiikaaadoor", sum := "7982a82252082e195f155bea36efe66d0d9f0c72bac21b056928f33f692f8011", func := "exequatur/exequaturlaw03.UriWith", spec := "uriWith", inPlace := ["internal/bytealg.IndexByteString", "internal/bytealg.IndexString", "internal/abi.NoEscape", "internal/bytealg.MakeNoZero"], named := ["internal/bytealg.MaxLen", "unicode/utf8.first", "unicode/utf8.acceptRanges"], apart := false, laid := [("unicode/utf8.acceptRanges", laid_unicode_utf8_acceptRanges), ("unicode/utf8.first", laid_unicode_utf8_first)] }
def UriWithSaid : Prop := uriWithRow.holds Tryd.pinned (OpenSpec.ofChange uriWithSpec)

/-- ITS FALSE NEIGHBOUR: 'it returns false'. Refute it at one input. -/
def uriWithWrong : ChangeSpec := { name := "uriWith", fn := fun _ => fun
  | [d1, d2] => { results := [.lit (.bool false)], args := [d1, d2] }
  | _ => none }
def UriWithWrongFalsely : Prop := uriWithRow.holds Tryd.pinned (OpenSpec.ofChange uriWithWrong)

/-- 'exequaturlaw03.UriBytes': WHATEVER THE INPUT: true; the input reads as it did. -/
def uriBytesSpec : ChangeSpec := { name := "uriBytes", fn := fun _ => fun
  | [d1, d2] => { results := [.lit (.bool true)], args := [d1, d2] }
  | _ => none }
def uriBytesRow : OpenClaim := { program := "ytjagjfmkfiikaaadoor", sum := "7982a82252082e195f155bea36efe66d0d9f0c72bac21b056928f33f692f8011", func := "exequatur/exequaturlaw03.UriBytes", spec := "uriBytes", inPlace := ["internal/bytealg.IndexByteString", "internal/bytealg.IndexString", "internal/abi.NoEscape", "internal/bytealg.MakeNoZero"], named := ["internal/bytealg.MaxLen", "unicode/utf8.first", "unicode/utf8.acceptRanges"], apart := false, laid := [("unicode/utf8.acceptRanges", laid_unicode_utf8_acceptRanges), ("unicode/utf8.first", laid_unicode_utf8_first)] }
def UriBytesSaid : Prop := uriBytesRow.holds Tryd.pinned (OpenSpec.ofChange uriBytesSpec)

/-- ITS FALSE NEIGHBOUR: 'it returns false'. Refute it at one input. -/
def uriBytesWrong : ChangeSpec := { name := "uriBytes", fn := fun _ => fun
  | [d1, d2] => { results := [.lit (.bool false)], args := [d1, d2] }
  | _ => none }
def UriBytesWrongFalsely : Prop := uriBytesRow.holds Tryd.pinned (OpenSpec.ofChange uriBytesWrong)

/-- 'exequaturlaw03.UriAgain': WHATEVER THE INPUT: true; the input reads as it did. -/
def uriAgainSpec : ChangeSpec := { name := "uriAgain", fn := fun _ => fun
  | [d1, d2] => { results := [.lit (.bool true)], args := [d1, d2] }
  | _ => none }
def uriAgainRow : OpenClaim := { program := "ytjagjfmkfiikaaadoor", sum := "7982a82252082e195f155bea36efe66d0d9f0c72bac21b056928f33f692f8011", func := "exequatur/exequaturlaw03.UriAgain", spec := "uriAgain", inPlace := ["internal/bytealg.IndexByteString", "internal/bytealg.IndexString", "internal/abi.NoEscape", "internal/bytealg.MakeNoZero"], named := ["internal/bytealg.MaxLen", "unicode/utf8.first", "unicode/utf8.acceptRanges"], apart := false, laid := [("unicode/utf8.acceptRanges", laid_unicode_utf8_acceptRanges), ("unicode/utf8.first", laid_unicode_utf8_first)] }
def UriAgainSaid : Prop := uriAgainRow.holds Tryd.pinned (OpenSpec.ofChange uriAgainSpec)

/-- ITS FALSE NEIGHBOUR: 'it returns false'. Refute it at one input. -/
def uriAgainWrong : ChangeSpec := { name := "uriAgain", fn := fun _ => fun
  | [d1, d2] => { results := [.lit (.bool false)], args := [d1, d2] }
  | _ => none }
def UriAgainWrongFalsely : Prop := uriAgainRow.holds Tryd.pinned (OpenSpec.ofChange uriAgainWrong)

/-- 'exequaturlaw03.UriParts': WHATEVER THE INPUT: true; the input reads as it did. -/
def uriPartsSpec : ChangeSpec := { name := "uriParts", fn := fun _ => fun
  | [d] => { results := [.lit (.bool true)], args := [d] }
  | _ => none }
def uriPartsRow : OpenClaim := { program := "ytjagjfmkfiikaaadoor", sum := "7982a82252082e195f155bea36efe66d0d9f0c72bac21b056928f33f692f8011", func := "exequatur/exequaturlaw03.UriParts", spec := "uriParts", inPlace := ["internal/bytealg.IndexByteString", "internal/bytealg.IndexString", "internal/abi.NoEscape", "internal/bytealg.MakeNoZero"], named := ["internal/bytealg.MaxLen", "unicode/utf8.first", "unicode/utf8.acceptRanges"], apart := false, laid := [("unicode/utf8.acceptRanges", laid_unicode_utf8_acceptRanges), ("unicode/utf8.first", laid_unicode_utf8_first)] }
def UriPartsSaid : Prop := uriPartsRow.holds Tryd.pinned (OpenSpec.ofChange uriPartsSpec)

/-- ITS FALSE NEIGHBOUR: 'it returns false'. Refute it at one input. -/
def uriPartsWrong : ChangeSpec := { name := "uriParts", fn := fun _ => fun
  | [d] => { results := [.lit (.bool false)], args := [d] }
  | _ => none }
def UriPartsWrongFalsely : Prop := uriPartsRow.holds Tryd.pinned (OpenSpec.ofChange uriPartsWrong)

/-- 'exequaturlaw03.UriPrint': WHATEVER THE INPUT: true; the input reads as it did. -/
def uriPrintSpec : ChangeSpec := { name := "uriPrint", fn := fun _ => fun
  | [d] => { results := [.lit (.bool true)], args := [d] }
  | _ => none }
def uriPrintRow : OpenClaim := { program := "ytjagjfmkfiikaaadoor", sum := "7982a82252082e195f155bea36efe66d0d9f0c72bac21b056928f33f692f8011", func := "exequatur/exequaturlaw03.UriPrint", spec := "uriPrint", inPlace := ["internal/bytealg.IndexByteString", "internal/bytealg.IndexString", "internal/abi.NoEscape", "internal/bytealg.MakeNoZero"], named := ["internal/bytealg.MaxLen", "unicode/utf8.first", "unicode/utf8.acceptRanges"], apart := false, laid := [("unicode/utf8.acceptRanges", laid_unicode_utf8_acceptRanges), ("unicode/utf8.first", laid_unicode_utf8_first)] }
def UriPrintSaid : Prop := uriPrintRow.holds Tryd.pinned (OpenSpec.ofChange uriPrintSpec)

/-- ITS FALSE NEIGHBOUR: 'it returns false'. Refute it at one input. -/
def uriPrintWrong : ChangeSpec := { name := "uriPrint", fn := fun _ => fun
  | [d] => { results := [.lit (.bool false)], args := [d] }
  | _ => none }
def UriPrintWrongFalsely : Prop := uriPrintRow.holds Tryd.pinned (OpenSpec.ofChange uriPrintWrong)

/- THE SECOND FORM. 'bulk': how many values and letters a reading holds, each counted each time it is reached (what is shared counts as often as it is met; a slice's spare places count too). A statement '..UptoSaid' is the law's where the arguments, and the package variables that the reading takes, are together of bulk at most 1048576: NARROWER than '..Said'. Prove '..Said' where nothing that the law and all that it calls make is longer than what came in: it says more and counts as full. Else prove '..UptoSaid'. A law counts once. -/
mutual
def uptoBulk {H : Type} : DataW H → Nat
  | .lit (.string bytes) => bytes.length + 1
  | .lit _ => 1
  | .nil => 1
  | .ptr d => uptoBulk d + 1
  | .slice elems spare => uptoBulkAll elems + uptoBulkAll spare + 1
  | .agg parts => uptoBulkAll parts + 1
  | .iface _ d => uptoBulk d + 1
  | .map entries => uptoBulkEntries entries + 1
  | .held _ => 1
def uptoBulkAll {H : Type} : List (DataW H) → Nat
  | [] => 0
  | d :: r => uptoBulk d + uptoBulkAll r
def uptoBulkEntries {H : Type} : List (Lit × DataW H) → Nat
  | [] => 0
  | x :: r => uptoBulkEntry x + uptoBulkEntries r
def uptoBulkEntry {H : Type} : Lit × DataW H → Nat
  | (.string bytes, d) => bytes.length + uptoBulk d + 1
  | (_, d) => uptoBulk d + 1
 end
def uptoSmall : (H : Type) → List (DataW H) → Bool := fun _ ds => decide (uptoBulkAll ds ≤ 1048576)
def OpenSpec.upto (s : _root_.Go.ChangeSpec) : _root_.Go.OpenSpec := { _root_.Go.OpenSpec.ofChange s with cond := some uptoSmall }

/-- 'exequaturlaw03.UriWith', WHERE WHAT IT READS IS OF BULK AT MOST 1048576: true; the input reads as it did. -/
def uriWithUptoRow : OpenClaim := { program := "ytjagjfmkfiikaaadoor", sum := "7982a82252082e195f155bea36efe66d0d9f0c72bac21b056928f33f692f8011", func := "exequatur/exequaturlaw03.UriWith", spec := "uriWith", inPlace := ["internal/bytealg.IndexByteString", "internal/bytealg.IndexString", "internal/abi.NoEscape", "internal/bytealg.MakeNoZero"], named := ["internal/bytealg.MaxLen", "unicode/utf8.first", "unicode/utf8.acceptRanges"], apart := false, laid := [("unicode/utf8.acceptRanges", laid_unicode_utf8_acceptRanges), ("unicode/utf8.first", laid_unicode_utf8_first)], narrowed := true }
def UriWithUptoSaid : Prop := uriWithUptoRow.holds Tryd.pinned (OpenSpec.upto uriWithSpec)

/-- 'exequaturlaw03.UriBytes', WHERE WHAT IT READS IS OF BULK AT MOST 1048576: true; the input reads as it did. -/
def uriBytesUptoRow : OpenClaim := { program := "ytjagjfmkfiikaaadoor", sum := "7982a82252082e195f155bea36efe66d0d9f0c72bac21b056928f33f692f8011", func := "exequatur/exequaturlaw03.UriBytes", spec := "uriBytes", inPlace := ["internal/bytealg.IndexByteString", "internal/bytealg.IndexString", "internal/abi.NoEscape", "internal/bytealg.MakeNoZero"], named := ["internal/bytealg.MaxLen", "unicode/utf8.first", "unicode/utf8.acceptRanges"], apart := false, laid := [("unicode/utf8.acceptRanges", laid_unicode_utf8_acceptRanges), ("unicode/utf8.first", laid_unicode_utf8_first)], narrowed := true }
def UriBytesUptoSaid : Prop := uriBytesUptoRow.holds Tryd.pinned (OpenSpec.upto uriBytesSpec)

/-- 'exequaturlaw03.UriAgain', WHERE WHAT IT READS IS OF BULK AT MOST 1048576: true; the input reads as it did. -/
def uriAgainUptoRow : OpenClaim := { program := "ytjagjfmkfiikaaadoor", sum := "7982a82252082e195f155bea36efe66d0d9f0c72bac21b056928f33f692f8011", func := "exequatur/exequaturlaw03.UriAgain", spec := "uriAgain", inPlace := ["internal/bytealg.IndexByteString", "internal/bytealg.IndexString", "internal/abi.NoEscape", "internal/bytealg.MakeNoZero"], named := ["internal/bytealg.MaxLen", "unicode/utf8.first", "unicode/utf8.acceptRanges"], apart := false, laid := [("unicode/utf8.acceptRanges", laid_unicode_utf8_acceptRanges), ("unicode/utf8.first", laid_unicode_utf8_first)], narrowed := true }
def UriAgainUptoSaid : Prop := uriAgainUptoRow.holds Tryd.pinned (OpenSpec.upto uriAgainSpec)

/-- 'exequaturlaw03.UriParts', WHERE WHAT IT READS IS OF BULK AT MOST 1048576: true; the input reads as it did. -/
def uriPartsUptoRow : OpenClaim := { program := "ytjagjfmkfiikaaadoor", sum := "7982a82252082e195f155bea36efe66d0d9f0c72bac21b056928f33f692f8011", func := "exequatur/exequaturlaw03.UriParts", spec := "uriParts", inPlace := ["internal/bytealg.IndexByteString", "internal/bytealg.IndexString", "internal/abi.NoEscape", "internal/bytealg.MakeNoZero"], named := ["internal/bytealg.MaxLen", "unicode/utf8.first", "unicode/utf8.acceptRanges"], apart := false, laid := [("unicode/utf8.acceptRanges", laid_unicode_utf8_acceptRanges), ("unicode/utf8.first", laid_unicode_utf8_first)], narrowed := true }
def UriPartsUptoSaid : Prop := uriPartsUptoRow.holds Tryd.pinned (OpenSpec.upto uriPartsSpec)

/-- 'exequaturlaw03.UriPrint', WHERE WHAT IT READS IS OF BULK AT MOST 1048576: true; the input reads as it did. -/
def uriPrintUptoRow : OpenClaim := { program := "ytjagjfmkfiikaaadoor", sum := "7982a82252082e195f155bea36efe66d0d9f0c72bac21b056928f33f692f8011", func := "exequatur/exequaturlaw03.UriPrint", spec := "uriPrint", inPlace := ["internal/bytealg.IndexByteString", "internal/bytealg.IndexString", "internal/abi.NoEscape", "internal/bytealg.MakeNoZero"], named := ["internal/bytealg.MaxLen", "unicode/utf8.first", "unicode/utf8.acceptRanges"], apart := false, laid := [("unicode/utf8.acceptRanges", laid_unicode_utf8_acceptRanges), ("unicode/utf8.first", laid_unicode_utf8_first)], narrowed := true }
def UriPrintUptoSaid : Prop := uriPrintUptoRow.holds Tryd.pinned (OpenSpec.upto uriPrintSpec)

end Rows
end Go.Proofs.YtjagjfmkfiikaaaDoor
