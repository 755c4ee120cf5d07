/-
  NARROWER THAN 'FOR EVERY INPUT', by the rows' own cells (each row's printed sentence says how): ClientAuths: laid · ClientOwn: laid · ClientRedirects: laid · ClientFinds: laid.
  DERIVED. THE GIVEN ROWS OF THIS SEAT. 4 by the template 'for every input the law returns true; each argument reads behind the call as it read before'; 0 by the template 'total and deterministic' (their statements: YtkcgalpagpgfhaaDoorTotals.lean).
  GIVEN WITH THE SEED: the statements are not yours to turn. If you find one false, say at which input.
  Laid BY PROGRAM, IN A SANDBOX (cutbox-rows.mjs): the forced cells as the released guide's own fill.sh prints them over the translation afb415d78368307d… (all of the seat's roots in one cut). By AI agents, Wed Nov 11 2026. No macro, syntax, notation, axiom, sorry.
-/
import Derived.Test.YtkcgalpagpgfhaaDoorChecked
import GoSem.PinnedTables
import GoSem.Claim
import GoSem.ClaimJoined
import GoSem.ClaimMapViews
import Derived.JoinedTies
import Derived.KernelRfl
namespace Go.Proofs.YtkcgalpagpgfhaaDoor
/- THE CELL 'sum', in the pinned program and in every row, IS THE sha256 OF THE DUMP (.gsa) THAT YtkcgalpagpgfhaaDoorProg.lean LOADS. Nothing in Lean hashes anything: it is a label: what it is worth is what the hold of that sum in a sandbox is worth. -/
noncomputable def Tryd.pinned : Pinned := { name := "ytkcgalpagpgfhaadoor", sum := "afb415d78368307d5fc23afa18554f61599fb70ffc328afcbc749028a6fdd7ec", checked := Tryd.checked }
namespace Rows
def none {H : Type} : Left H := { results := [], args := [] }

/- WHAT THE LISTED PACKAGE-LEVEL VARIABLES READ AS WHEN THE CALL BEGINS. Each datum BY PROGRAM (the guide's laid-datum.mjs) off the statement by which the dump's own 'gosem.cut.vars' lays the variable. In a bare row this is a premise. The card (YtkcgalpagpgfhaaDoorCards.lean) ties it to the program's text. -/
def laid_unicode_utf8_acceptRanges {H : Type} : DataW H := .agg [.agg [.lit (.int .u8 128), .lit (.int .u8 191)], .agg [.lit (.int .u8 160), .lit (.int .u8 191)], .agg [.lit (.int .u8 128), .lit (.int .u8 159)], .agg [.lit (.int .u8 144), .lit (.int .u8 191)], .agg [.lit (.int .u8 128), .lit (.int .u8 143)], .agg [.lit (.int .u8 0), .lit (.int .u8 0)], .agg [.lit (.int .u8 0), .lit (.int .u8 0)], .agg [.lit (.int .u8 0), .lit (.int .u8 0)], .agg [.lit (.int .u8 0), .lit (.int .u8 0)], .agg [.lit (.int .u8 0), .lit (.int .u8 0)], .agg [.lit (.int .u8 0), .lit (.int .u8 0)], .agg [.lit (.int .u8 0), .lit (.int .u8 0)], .agg [.lit (.int .u8 0), .lit (.int .u8 0)], .agg [.lit (.int .u8 0), .lit (.int .u8 0)], .agg [.lit (.int .u8 0), .lit (.int .u8 0)], .agg [.lit (.int .u8 0), .lit (.int .u8 0)]]
/-- One of Go's own tables, pinned by name: the form's constant. -/
def laid_unicode_utf8_first : DataW Unit := Go.Pinned.utf8First

/-- 'exequaturlaw16.ClientAuths': WHATEVER THE INPUT: true; the input reads as it did. -/
def clientAuthsSpec : ChangeSpec := { name := "clientAuths", fn := fun _ => fun
  | [d1, d2, d3] => { results := [.lit (.bool true)], args := [d1, d2, d3] }
  | _ => none }
def clientAuthsRow : OpenClaim := { program := "ytkcgalpagpgfhaadoor", sum := "afb415d78368307d5fc23afa18554f61599fb70ffc328afcbc749028a6fdd7ec", func := "exequatur/exequaturlaw16.ClientAuths", spec := "clientAuths", inPlace := ["internal/bytealg.IndexByteString", "internal/bytealg.IndexString", "internal/bytealg.CountString"], unfollowed := true, recurses := true, named := ["internal/bytealg.MaxLen", "unicode/utf8.first", "unicode/utf8.acceptRanges"], apart := false, laid := [("unicode/utf8.acceptRanges", laid_unicode_utf8_acceptRanges), ("unicode/utf8.first", laid_unicode_utf8_first)] }
def ClientAuthsSaid : Prop := clientAuthsRow.holds Tryd.pinned (OpenSpec.ofChange clientAuthsSpec)

/-- ITS FALSE NEIGHBOUR: 'it returns false'. Refute it at one input. -/
def clientAuthsWrong : ChangeSpec := { name := "clientAuths", fn := fun _ => fun
  | [d1, d2, d3] => { results := [.lit (.bool false)], args := [d1, d2, d3] }
  | _ => none }
def ClientAuthsWrongFalsely : Prop := clientAuthsRow.holds Tryd.pinned (OpenSpec.ofChange clientAuthsWrong)

/-- 'exequaturlaw16.ClientOwn': WHATEVER THE INPUT: true; the input reads as it did. -/
def clientOwnSpec : ChangeSpec := { name := "clientOwn", fn := fun _ => fun
  | [d1, d2] => { results := [.lit (.bool true)], args := [d1, d2] }
  | _ => none }
def clientOwnRow : OpenClaim := { program := "ytkcgalpagpgfhaadoor", sum := "afb415d78368307d5fc23afa18554f61599fb70ffc328afcbc749028a6fdd7ec", func := "exequatur/exequaturlaw16.ClientOwn", spec := "clientOwn", inPlace := ["internal/bytealg.IndexByteString", "internal/bytealg.IndexString", "internal/bytealg.CountString"], unfollowed := true, recurses := true, named := ["internal/bytealg.MaxLen", "unicode/utf8.first", "unicode/utf8.acceptRanges"], apart := false, laid := [("unicode/utf8.acceptRanges", laid_unicode_utf8_acceptRanges), ("unicode/utf8.first", laid_unicode_utf8_first)] }
def ClientOwnSaid : Prop := clientOwnRow.holds Tryd.pinned (OpenSpec.ofChange clientOwnSpec)

/-- ITS FALSE NEIGHBOUR: 'it returns false'. Refute it at one input. -/
def clientOwnWrong : ChangeSpec := { name := "clientOwn", fn := fun _ => fun
  | [d1, d2] => { results := [.lit (.bool false)], args := [d1, d2] }
  | _ => none }
def ClientOwnWrongFalsely : Prop := clientOwnRow.holds Tryd.pinned (OpenSpec.ofChange clientOwnWrong)

/-- 'exequaturlaw16.ClientRedirects': WHATEVER THE INPUT: true; the input reads as it did. -/
def clientRedirectsSpec : ChangeSpec := { name := "clientRedirects", fn := fun _ => fun
  | [d1, d2] => { results := [.lit (.bool true)], args := [d1, d2] }
  | _ => none }
def clientRedirectsRow : OpenClaim := { program := "ytkcgalpagpgfhaadoor", sum := "afb415d78368307d5fc23afa18554f61599fb70ffc328afcbc749028a6fdd7ec", func := "exequatur/exequaturlaw16.ClientRedirects", spec := "clientRedirects", inPlace := ["internal/bytealg.IndexByteString", "internal/bytealg.IndexString", "internal/bytealg.CountString"], unfollowed := true, recurses := true, named := ["internal/bytealg.MaxLen", "unicode/utf8.first", "unicode/utf8.acceptRanges"], apart := false, laid := [("unicode/utf8.acceptRanges", laid_unicode_utf8_acceptRanges), ("unicode/utf8.first", laid_unicode_utf8_first)] }
def ClientRedirectsSaid : Prop := clientRedirectsRow.holds Tryd.pinned (OpenSpec.ofChange clientRedirectsSpec)

/-- ITS FALSE NEIGHBOUR: 'it returns false'. Refute it at one input. -/
def clientRedirectsWrong : ChangeSpec := { name := "clientRedirects", fn := fun _ => fun
  | [d1, d2] => { results := [.lit (.bool false)], args := [d1, d2] }
  | _ => none }
def ClientRedirectsWrongFalsely : Prop := clientRedirectsRow.holds Tryd.pinned (OpenSpec.ofChange clientRedirectsWrong)

/-- 'exequaturlaw16.ClientFinds': WHATEVER THE INPUT: true; the input reads as it did. -/
def clientFindsSpec : ChangeSpec := { name := "clientFinds", fn := fun _ => fun
  | [d1, d2, d3] => { results := [.lit (.bool true)], args := [d1, d2, d3] }
  | _ => none }
def clientFindsRow : OpenClaim := { program := "ytkcgalpagpgfhaadoor", sum := "afb415d78368307d5fc23afa18554f61599fb70ffc328afcbc749028a6fdd7ec", func := "exequatur/exequaturlaw16.ClientFinds", spec := "clientFinds", inPlace := ["internal/bytealg.IndexByteString", "internal/bytealg.IndexString", "internal/bytealg.CountString"], unfollowed := true, recurses := true, named := ["internal/bytealg.MaxLen", "unicode/utf8.first", "unicode/utf8.acceptRanges"], apart := false, laid := [("unicode/utf8.acceptRanges", laid_unicode_utf8_acceptRanges), ("unicode/utf8.first", laid_unicode_utf8_first)] }
def ClientFindsSaid : Prop := clientFindsRow.holds Tryd.pinned (OpenSpec.ofChange clientFindsSpec)

/-- ITS FALSE NEIGHBOUR: 'it returns false'. Refute it at one input. -/
def clientFindsWrong : ChangeSpec := { name := "clientFinds", fn := fun _ => fun
  | [d1, d2, d3] => { results := [.lit (.bool false)], args := [d1, d2, d3] }
  | _ => none }
def ClientFindsWrongFalsely : Prop := clientFindsRow.holds Tryd.pinned (OpenSpec.ofChange clientFindsWrong)

/- THE SECOND FORM. 'bulk': how many values and letters a reading holds, each counted each time it is reached (what is shared counts as often as it is met; a slice's spare places count too). A statement '..UptoSaid' is the law's where the arguments, and the package variables that the reading takes, are together of bulk at most 1048576: NARROWER than '..Said'. Prove '..Said' where nothing that the law and all that it calls make is longer than what came in: it says more and counts as full. Else prove '..UptoSaid'. A law counts once. -/
mutual
def uptoBulk {H : Type} : DataW H → Nat
  | .lit (.string bytes) => bytes.length + 1
  | .lit _ => 1
  | .nil => 1
  | .ptr d => uptoBulk d + 1
  | .slice elems spare => uptoBulkAll elems + uptoBulkAll spare + 1
  | .agg parts => uptoBulkAll parts + 1
  | .iface _ d => uptoBulk d + 1
  | .map entries => uptoBulkEntries entries + 1
  | .held _ => 1
def uptoBulkAll {H : Type} : List (DataW H) → Nat
  | [] => 0
  | d :: r => uptoBulk d + uptoBulkAll r
def uptoBulkEntries {H : Type} : List (Lit × DataW H) → Nat
  | [] => 0
  | x :: r => uptoBulkEntry x + uptoBulkEntries r
def uptoBulkEntry {H : Type} : Lit × DataW H → Nat
  | (.string bytes, d) => bytes.length + uptoBulk d + 1
  | (_, d) => uptoBulk d + 1
 end
def uptoSmall : (H : Type) → List (DataW H) → Bool := fun _ ds => decide (uptoBulkAll ds ≤ 1048576)
def OpenSpec.upto (s : _root_.Go.ChangeSpec) : _root_.Go.OpenSpec := { _root_.Go.OpenSpec.ofChange s with cond := some uptoSmall }

/-- 'exequaturlaw16.ClientAuths', WHERE WHAT IT READS IS OF BULK AT MOST 1048576: true; the input reads as it did. -/
def clientAuthsUptoRow : OpenClaim := { program := "ytkcgalpagpgfhaadoor", sum := "afb415d78368307d5fc23afa18554f61599fb70ffc328afcbc749028a6fdd7ec", func := "exequatur/exequaturlaw16.ClientAuths", spec := "clientAuths", inPlace := ["internal/bytealg.IndexByteString", "internal/bytealg.IndexString", "internal/bytealg.CountString"], unfollowed := true, recurses := true, named := ["internal/bytealg.MaxLen", "unicode/utf8.first", "unicode/utf8.acceptRanges"], apart := false, laid := [("unicode/utf8.acceptRanges", laid_unicode_utf8_acceptRanges), ("unicode/utf8.first", laid_unicode_utf8_first)], narrowed := true }
def ClientAuthsUptoSaid : Prop := clientAuthsUptoRow.holds Tryd.pinned (OpenSpec.upto clientAuthsSpec)

/-- 'exequaturlaw16.ClientOwn', WHERE WHAT IT READS IS OF BULK AT MOST 1048576: true; the input reads as it did. -/
def clientOwnUptoRow : OpenClaim := { program := "ytkcgalpagpgfhaadoor", sum := "afb415d78368307d5fc23afa18554f61599fb70ffc328afcbc749028a6fdd7ec", func := "exequatur/exequaturlaw16.ClientOwn", spec := "clientOwn", inPlace := ["internal/bytealg.IndexByteString", "internal/bytealg.IndexString", "internal/bytealg.CountString"], unfollowed := true, recurses := true, named := ["internal/bytealg.MaxLen", "unicode/utf8.first", "unicode/utf8.acceptRanges"], apart := false, laid := [("unicode/utf8.acceptRanges", laid_unicode_utf8_acceptRanges), ("unicode/utf8.first", laid_unicode_utf8_first)], narrowed := true }
def ClientOwnUptoSaid : Prop := clientOwnUptoRow.holds Tryd.pinned (OpenSpec.upto clientOwnSpec)

/-- 'exequaturlaw16.ClientRedirects', WHERE WHAT IT READS IS OF BULK AT MOST 1048576: true; the input reads as it did. -/
def clientRedirectsUptoRow : OpenClaim := { program := "ytkcgalpagpgfhaadoor", sum := "afb415d78368307d5fc23afa18554f61599fb70ffc328afcbc749028a6fdd7ec", func := "exequatur/exequaturlaw16.ClientRedirects", spec := "clientRedirects", inPlace := ["internal/bytealg.IndexByteString", "internal/bytealg.IndexString", "internal/bytealg.CountString"], unfollowed := true, recurses := true, named := ["internal/bytealg.MaxLen", "unicode/utf8.first", "unicode/utf8.acceptRanges"], apart := false, laid := [("unicode/utf8.acceptRanges", laid_unicode_utf8_acceptRanges), ("unicode/utf8.first", laid_unicode_utf8_first)], narrowed := true }
def ClientRedirectsUptoSaid : Prop := clientRedirectsUptoRow.holds Tryd.pinned (OpenSpec.upto clientRedirectsSpec)

/-- 'exequaturlaw16.ClientFinds', WHERE WHAT IT READS IS OF BULK AT MOST 1048576: true; the input reads as it did. -/
def clientFindsUptoRow : OpenClaim := { program := "ytkcgalpagpgfhaadoor", sum := "afb415d78368307d5fc23afa18554f61599fb70ffc328afcbc749028a6fdd7ec", func := "exequatur/exequaturlaw16.ClientFinds", spec := "clientFinds", inPlace := ["internal/bytealg.IndexByteString", "internal/bytealg.IndexString", "internal/bytealg.CountString"], unfollowed := true, recurses := true, named := ["internal/bytealg.MaxLen", "unicode/utf8.first", "unicode/utf8.acceptRanges"], apart := false, laid := [("unicode/utf8.acceptRanges", laid_unicode_utf8_acceptRanges), ("unicode/utf8.first", laid_unicode_utf8_first)], narrowed := true }
def ClientFindsUptoSaid : Prop := clientFindsUptoRow.holds Tryd.pinned (OpenSpec.upto clientFindsSpec)

end Rows
end Go.Proofs.YtkcgalpagpgfhaaDoor
