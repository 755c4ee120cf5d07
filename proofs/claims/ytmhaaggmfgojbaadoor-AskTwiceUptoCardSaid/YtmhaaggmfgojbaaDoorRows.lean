/-
  NARROWER THAN 'FOR EVERY INPUT', by the rows' own cells (each row's printed sentence says how): AskChecks: laid · AskBack: laid · AskWhole: laid · AskTwice: laid.
  DERIVED. THE GIVEN ROWS OF THIS SEAT. 4 by the template 'for every input the law returns true; each argument reads behind the call as it read before'; 0 by the template 'total and deterministic' (their statements: YtmhaaggmfgojbaaDoorTotals.lean).
  GIVEN WITH THE SEED: the statements are not yours to turn. If you find one false, say at which input.
  Laid BY PROGRAM, IN A SANDBOX (cutbox-rows.mjs): the forced cells as the released guide's own fill.sh prints them over the translation 9723fc1251b42f9b… (all of the seat's roots in one cut). By AI agents, Wed Nov 11 2026. No macro, syntax, notation, axiom, sorry.
-/
import Derived.Test.YtmhaaggmfgojbaaDoorChecked
import GoSem.PinnedTables
import GoSem.Claim
import GoSem.ClaimJoined
import GoSem.ClaimMapViews
import Derived.JoinedTies
import Derived.KernelRfl
namespace Go.Proofs.YtmhaaggmfgojbaaDoor
/- THE CELL 'sum', in the pinned program and in every row, IS THE sha256 OF THE DUMP (.gsa) THAT YtmhaaggmfgojbaaDoorProg.lean LOADS. Nothing in Lean hashes anything: it is a label: what it is worth is what the hold of that sum in a sandbox is worth. -/
noncomputable def Tryd.pinned : Pinned := { name := "ytmhaaggmfgojbaadoor", sum := "9723fc1251b42f9b7da3d1710e7c0230ce283b5b04419f3ce2329c60736ab6c2", checked := Tryd.checked }
namespace Rows
def none {H : Type} : Left H := { results := [], args := [] }

/- WHAT THE LISTED PACKAGE-LEVEL VARIABLES READ AS WHEN THE CALL BEGINS. Each datum BY PROGRAM (the guide's laid-datum.mjs) off the statement by which the dump's own 'gosem.cut.vars' lays the variable. In a bare row this is a premise. The card (YtmhaaggmfgojbaaDoorCards.lean) ties it to the program's text. -/
def laid_unicode_utf8_acceptRanges {H : Type} : DataW H := .agg [.agg [.lit (.int .u8 128), .lit (.int .u8 191)], .agg [.lit (.int .u8 160), .lit (.int .u8 191)], .agg [.lit (.int .u8 128), .lit (.int .u8 159)], .agg [.lit (.int .u8 144), .lit (.int .u8 191)], .agg [.lit (.int .u8 128), .lit (.int .u8 143)], .agg [.lit (.int .u8 0), .lit (.int .u8 0)], .agg [.lit (.int .u8 0), .lit (.int .u8 0)], .agg [.lit (.int .u8 0), .lit (.int .u8 0)], .agg [.lit (.int .u8 0), .lit (.int .u8 0)], .agg [.lit (.int .u8 0), .lit (.int .u8 0)], .agg [.lit (.int .u8 0), .lit (.int .u8 0)], .agg [.lit (.int .u8 0), .lit (.int .u8 0)], .agg [.lit (.int .u8 0), .lit (.int .u8 0)], .agg [.lit (.int .u8 0), .lit (.int .u8 0)], .agg [.lit (.int .u8 0), .lit (.int .u8 0)], .agg [.lit (.int .u8 0), .lit (.int .u8 0)]]
/-- One of Go's own tables, pinned by name: the form's constant. -/
def laid_unicode_utf8_first : DataW Unit := Go.Pinned.utf8First

/-- 'exequaturlaw17.AskChecks': WHATEVER THE INPUT: true; the input reads as it did. -/
def askChecksSpec : ChangeSpec := { name := "askChecks", fn := fun _ => fun
  | [d1, d2] => { results := [.lit (.bool true)], args := [d1, d2] }
  | _ => none }
def askChecksRow : OpenClaim := { program := "ytmhaaggmfgojbaadoor", sum := "9723fc1251b42f9b7da3d1710e7c0230ce283b5b04419f3ce2329c60736ab6c2", func := "exequatur/exequaturlaw17.AskChecks", spec := "askChecks", inPlace := ["internal/bytealg.IndexByteString", "internal/bytealg.IndexString", "internal/abi.NoEscape", "internal/bytealg.CountString"], unfollowed := true, recurses := true, named := ["unicode/utf8.first", "unicode/utf8.acceptRanges", "internal/bytealg.MaxLen"], apart := false, laid := [("unicode/utf8.acceptRanges", laid_unicode_utf8_acceptRanges), ("unicode/utf8.first", laid_unicode_utf8_first)] }
def AskChecksSaid : Prop := askChecksRow.holds Tryd.pinned (OpenSpec.ofChange askChecksSpec)

/-- ITS FALSE NEIGHBOUR: 'it returns false'. Refute it at one input. -/
def askChecksWrong : ChangeSpec := { name := "askChecks", fn := fun _ => fun
  | [d1, d2] => { results := [.lit (.bool false)], args := [d1, d2] }
  | _ => none }
def AskChecksWrongFalsely : Prop := askChecksRow.holds Tryd.pinned (OpenSpec.ofChange askChecksWrong)

/-- 'exequaturlaw17.AskBack': WHATEVER THE INPUT: true; the input reads as it did. -/
def askBackSpec : ChangeSpec := { name := "askBack", fn := fun _ => fun
  | [d1, d2] => { results := [.lit (.bool true)], args := [d1, d2] }
  | _ => none }
def askBackRow : OpenClaim := { program := "ytmhaaggmfgojbaadoor", sum := "9723fc1251b42f9b7da3d1710e7c0230ce283b5b04419f3ce2329c60736ab6c2", func := "exequatur/exequaturlaw17.AskBack", spec := "askBack", inPlace := ["internal/bytealg.IndexByteString", "internal/bytealg.IndexString", "internal/abi.NoEscape", "internal/bytealg.CountString"], unfollowed := true, recurses := true, named := ["unicode/utf8.first", "unicode/utf8.acceptRanges", "internal/bytealg.MaxLen"], apart := false, laid := [("unicode/utf8.acceptRanges", laid_unicode_utf8_acceptRanges), ("unicode/utf8.first", laid_unicode_utf8_first)] }
def AskBackSaid : Prop := askBackRow.holds Tryd.pinned (OpenSpec.ofChange askBackSpec)

/-- ITS FALSE NEIGHBOUR: 'it returns false'. Refute it at one input. -/
def askBackWrong : ChangeSpec := { name := "askBack", fn := fun _ => fun
  | [d1, d2] => { results := [.lit (.bool false)], args := [d1, d2] }
  | _ => none }
def AskBackWrongFalsely : Prop := askBackRow.holds Tryd.pinned (OpenSpec.ofChange askBackWrong)

/-- 'exequaturlaw17.AskWhole': WHATEVER THE INPUT: true; the input reads as it did. -/
def askWholeSpec : ChangeSpec := { name := "askWhole", fn := fun _ => fun
  | [d1, d2, d3, d4] => { results := [.lit (.bool true)], args := [d1, d2, d3, d4] }
  | _ => none }
def askWholeRow : OpenClaim := { program := "ytmhaaggmfgojbaadoor", sum := "9723fc1251b42f9b7da3d1710e7c0230ce283b5b04419f3ce2329c60736ab6c2", func := "exequatur/exequaturlaw17.AskWhole", spec := "askWhole", inPlace := ["internal/bytealg.IndexByteString", "internal/bytealg.IndexString", "internal/abi.NoEscape", "internal/bytealg.CountString"], unfollowed := true, recurses := true, named := ["unicode/utf8.first", "unicode/utf8.acceptRanges", "internal/bytealg.MaxLen"], apart := false, laid := [("unicode/utf8.acceptRanges", laid_unicode_utf8_acceptRanges), ("unicode/utf8.first", laid_unicode_utf8_first)] }
def AskWholeSaid : Prop := askWholeRow.holds Tryd.pinned (OpenSpec.ofChange askWholeSpec)

/-- ITS FALSE NEIGHBOUR: 'it returns false'. Refute it at one input. -/
def askWholeWrong : ChangeSpec := { name := "askWhole", fn := fun _ => fun
  | [d1, d2, d3, d4] => { results := [.lit (.bool false)], args := [d1, d2, d3, d4] }
  | _ => none }
def AskWholeWrongFalsely : Prop := askWholeRow.holds Tryd.pinned (OpenSpec.ofChange askWholeWrong)

/-- 'exequaturlaw17.AskTwice': WHATEVER THE INPUT: true; the input reads as it did. -/
def askTwiceSpec : ChangeSpec := { name := "askTwice", fn := fun _ => fun
  | [d1, d2, d3] => { results := [.lit (.bool true)], args := [d1, d2, d3] }
  | _ => none }
def askTwiceRow : OpenClaim := { program := "ytmhaaggmfgojbaadoor", sum := "9723fc1251b42f9b7da3d1710e7c0230ce283b5b04419f3ce2329c60736ab6c2", func := "exequatur/exequaturlaw17.AskTwice", spec := "askTwice", inPlace := ["internal/bytealg.IndexByteString", "internal/bytealg.IndexString", "internal/abi.NoEscape", "internal/bytealg.CountString"], unfollowed := true, recurses := true, named := ["unicode/utf8.first", "unicode/utf8.acceptRanges", "internal/bytealg.MaxLen"], apart := false, laid := [("unicode/utf8.acceptRanges", laid_unicode_utf8_acceptRanges), ("unicode/utf8.first", laid_unicode_utf8_first)] }
def AskTwiceSaid : Prop := askTwiceRow.holds Tryd.pinned (OpenSpec.ofChange askTwiceSpec)

/-- ITS FALSE NEIGHBOUR: 'it returns false'. Refute it at one input. -/
def askTwiceWrong : ChangeSpec := { name := "askTwice", fn := fun _ => fun
  | [d1, d2, d3] => { results := [.lit (.bool false)], args := [d1, d2, d3] }
  | _ => none }
def AskTwiceWrongFalsely : Prop := askTwiceRow.holds Tryd.pinned (OpenSpec.ofChange askTwiceWrong)

/- THE SECOND FORM. 'bulk': how many values and letters a reading holds, each counted each time it is reached (what is shared counts as often as it is met; a slice's spare places count too). A statement '..UptoSaid' is the law's where the arguments, and the package variables that the reading takes, are together of bulk at most 1048576: NARROWER than '..Said'. Prove '..Said' where nothing that the law and all that it calls make is longer than what came in: it says more and counts as full. Else prove '..UptoSaid'. A law counts once. -/
mutual
def uptoBulk {H : Type} : DataW H → Nat
  | .lit (.string bytes) => bytes.length + 1
  | .lit _ => 1
  | .nil => 1
  | .ptr d => uptoBulk d + 1
  | .slice elems spare => uptoBulkAll elems + uptoBulkAll spare + 1
  | .agg parts => uptoBulkAll parts + 1
  | .iface _ d => uptoBulk d + 1
  | .map entries => uptoBulkEntries entries + 1
  | .held _ => 1
def uptoBulkAll {H : Type} : List (DataW H) → Nat
  | [] => 0
  | d :: r => uptoBulk d + uptoBulkAll r
def uptoBulkEntries {H : Type} : List (Lit × DataW H) → Nat
  | [] => 0
  | x :: r => uptoBulkEntry x + uptoBulkEntries r
def uptoBulkEntry {H : Type} : Lit × DataW H → Nat
  | (.string bytes, d) => bytes.length + uptoBulk d + 1
  | (_, d) => uptoBulk d + 1
 end
def uptoSmall : (H : Type) → List (DataW H) → Bool := fun _ ds => decide (uptoBulkAll ds ≤ 1048576)
def OpenSpec.upto (s : _root_.Go.ChangeSpec) : _root_.Go.OpenSpec := { _root_.Go.OpenSpec.ofChange s with cond := some uptoSmall }

/-- 'exequaturlaw17.AskChecks', WHERE WHAT IT READS IS OF BULK AT MOST 1048576: true; the input reads as it did. -/
def askChecksUptoRow : OpenClaim := { program := "ytmhaaggmfgojbaadoor", sum := "9723fc1251b42f9b7da3d1710e7c0230ce283b5b04419f3ce2329c60736ab6c2", func := "exequatur/exequaturlaw17.AskChecks", spec := "askChecks", inPlace := ["internal/bytealg.IndexByteString", "internal/bytealg.IndexString", "internal/abi.NoEscape", "internal/bytealg.CountString"], unfollowed := true, recurses := true, named := ["unicode/utf8.first", "unicode/utf8.acceptRanges", "internal/bytealg.MaxLen"], apart := false, laid := [("unicode/utf8.acceptRanges", laid_unicode_utf8_acceptRanges), ("unicode/utf8.first", laid_unicode_utf8_first)], narrowed := true }
def AskChecksUptoSaid : Prop := askChecksUptoRow.holds Tryd.pinned (OpenSpec.upto askChecksSpec)

/-- 'exequaturlaw17.AskBack', WHERE WHAT IT READS IS OF BULK AT MOST 1048576: true; the input reads as it did. -/
def askBackUptoRow : OpenClaim := { program := "ytmhaaggmfgojbaadoor", sum := "9723fc1251b42f9b7da3d1710e7c0230ce283b5b04419f3ce2329c60736ab6c2", func := "exequatur/exequaturlaw17.AskBack", spec := "askBack", inPlace := ["internal/bytealg.IndexByteString", "internal/bytealg.IndexString", "internal/abi.NoEscape", "internal/bytealg.CountString"], unfollowed := true, recurses := true, named := ["unicode/utf8.first", "unicode/utf8.acceptRanges", "internal/bytealg.MaxLen"], apart := false, laid := [("unicode/utf8.acceptRanges", laid_unicode_utf8_acceptRanges), ("unicode/utf8.first", laid_unicode_utf8_first)], narrowed := true }
def AskBackUptoSaid : Prop := askBackUptoRow.holds Tryd.pinned (OpenSpec.upto askBackSpec)

/-- 'exequaturlaw17.AskWhole', WHERE WHAT IT READS IS OF BULK AT MOST 1048576: true; the input reads as it did. -/
def askWholeUptoRow : OpenClaim := { program := "ytmhaaggmfgojbaadoor", sum := "9723fc1251b42f9b7da3d1710e7c0230ce283b5b04419f3ce2329c60736ab6c2", func := "exequatur/exequaturlaw17.AskWhole", spec := "askWhole", inPlace := ["internal/bytealg.IndexByteString", "internal/bytealg.IndexString", "internal/abi.NoEscape", "internal/bytealg.CountString"], unfollowed := true, recurses := true, named := ["unicode/utf8.first", "unicode/utf8.acceptRanges", "internal/bytealg.MaxLen"], apart := false, laid := [("unicode/utf8.acceptRanges", laid_unicode_utf8_acceptRanges), ("unicode/utf8.first", laid_unicode_utf8_first)], narrowed := true }
def AskWholeUptoSaid : Prop := askWholeUptoRow.holds Tryd.pinned (OpenSpec.upto askWholeSpec)

/-- 'exequaturlaw17.AskTwice', WHERE WHAT IT READS IS OF BULK AT MOST 1048576: true; the input reads as it did. -/
def askTwiceUptoRow : OpenClaim := { program := "ytmhaaggmfgojbaadoor", sum := "9723fc1251b42f9b7da3d1710e7c0230ce283b5b04419f3ce2329c60736ab6c2", func := "exequatur/exequaturlaw17.AskTwice", spec := "askTwice", inPlace := ["internal/bytealg.IndexByteString", "internal/bytealg.IndexString", "internal/abi.NoEscape", "internal/bytealg.CountString"], unfollowed := true, recurses := true, named := ["unicode/utf8.first", "unicode/utf8.acceptRanges", "internal/bytealg.MaxLen"], apart := false, laid := [("unicode/utf8.acceptRanges", laid_unicode_utf8_acceptRanges), ("unicode/utf8.first", laid_unicode_utf8_first)], narrowed := true }
def AskTwiceUptoSaid : Prop := askTwiceUptoRow.holds Tryd.pinned (OpenSpec.upto askTwiceSpec)

end Rows
end Go.Proofs.YtmhaaggmfgojbaaDoor
