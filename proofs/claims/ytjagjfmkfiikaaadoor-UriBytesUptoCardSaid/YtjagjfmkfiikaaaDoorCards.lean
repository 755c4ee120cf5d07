/-
  DERIVED. GIVEN WITH THE SEED: THE CARDS: each row of YtjagjfmkfiikaaaDoorRows.lean that lists a variable, with what it lists TIED to the program's text (the seventh form; the later family's looks); each row that meets fmt, with fmt's text TOLD by the authors' own Lean function (tested against real Go, not proved from fmt's source: count such statements apart). THE CARD IS WHAT COUNTS. Prove the row's statement (the work); the ties are given (YtjagjfmkfiikaaaDoorTie.lean); close each card by the builder's one call (the guide's Derived/Test/ToyasCard.lean, 'card_holds'). Laid BY PROGRAM, IN A SANDBOX (cutbox-door.mjs). By AI agents, Wed Nov 11 2026. No macro, syntax, notation, axiom, sorry.
-/
import Derived.Test.YtjagjfmkfiikaaaDoorRows
import GoSem.ClaimSeven
namespace Go.Proofs.YtjagjfmkfiikaaaDoor
namespace Rows

/-- THE TIED CARD OF 'exequaturlaw03.UriWith'. -/
def uriWithCard : Claim7 := { stood := { row := uriWithRow, standIns := [], harness := (true, "ba579d0af51c732a092b67f9e298daecb716e13c90e0a33190f77a5da91f8a85"), looks := false }, kinds := [], alts := [], laidByText := true, laidKinds := [.data, .pinned], laidTests := true, laidLooks := .later }
def UriWithCardSaid : Prop := Claim7.holds Tryd.pinned (.plain (OpenSpec.ofChange uriWithSpec)) uriWithCard

/-- THE TIED CARD OF 'exequaturlaw03.UriBytes'. -/
def uriBytesCard : Claim7 := { stood := { row := uriBytesRow, standIns := [], harness := (true, "ba579d0af51c732a092b67f9e298daecb716e13c90e0a33190f77a5da91f8a85"), looks := false }, kinds := [], alts := [], laidByText := true, laidKinds := [.data, .pinned], laidTests := true, laidLooks := .later }
def UriBytesCardSaid : Prop := Claim7.holds Tryd.pinned (.plain (OpenSpec.ofChange uriBytesSpec)) uriBytesCard

/-- THE TIED CARD OF 'exequaturlaw03.UriAgain'. -/
def uriAgainCard : Claim7 := { stood := { row := uriAgainRow, standIns := [], harness := (true, "ba579d0af51c732a092b67f9e298daecb716e13c90e0a33190f77a5da91f8a85"), looks := false }, kinds := [], alts := [], laidByText := true, laidKinds := [.data, .pinned], laidTests := true, laidLooks := .later }
def UriAgainCardSaid : Prop := Claim7.holds Tryd.pinned (.plain (OpenSpec.ofChange uriAgainSpec)) uriAgainCard

/-- THE TIED CARD OF 'exequaturlaw03.UriParts'. -/
def uriPartsCard : Claim7 := { stood := { row := uriPartsRow, standIns := [], harness := (true, "ba579d0af51c732a092b67f9e298daecb716e13c90e0a33190f77a5da91f8a85"), looks := false }, kinds := [], alts := [], laidByText := true, laidKinds := [.data, .pinned], laidTests := true, laidLooks := .later }
def UriPartsCardSaid : Prop := Claim7.holds Tryd.pinned (.plain (OpenSpec.ofChange uriPartsSpec)) uriPartsCard

/-- THE TIED CARD OF 'exequaturlaw03.UriPrint'. -/
def uriPrintCard : Claim7 := { stood := { row := uriPrintRow, standIns := [], harness := (true, "ba579d0af51c732a092b67f9e298daecb716e13c90e0a33190f77a5da91f8a85"), looks := false }, kinds := [], alts := [], laidByText := true, laidKinds := [.data, .pinned], laidTests := true, laidLooks := .later }
def UriPrintCardSaid : Prop := Claim7.holds Tryd.pinned (.plain (OpenSpec.ofChange uriPrintSpec)) uriPrintCard

/-- THE SECOND FORM's CARD OF 'exequaturlaw03.UriWith'. -/
def uriWithUptoCard : Claim7 := { stood := { row := uriWithUptoRow, standIns := [], harness := (true, "ba579d0af51c732a092b67f9e298daecb716e13c90e0a33190f77a5da91f8a85"), looks := false }, kinds := [], alts := [], laidByText := true, laidKinds := [.data, .pinned], laidTests := true, laidLooks := .later }
def UriWithUptoCardSaid : Prop := Claim7.holds Tryd.pinned (.plain (OpenSpec.upto uriWithSpec)) uriWithUptoCard

/-- THE SECOND FORM's CARD OF 'exequaturlaw03.UriBytes'. -/
def uriBytesUptoCard : Claim7 := { stood := { row := uriBytesUptoRow, standIns := [], harness := (true, "ba579d0af51c732a092b67f9e298daecb716e13c90e0a33190f77a5da91f8a85"), looks := false }, kinds := [], alts := [], laidByText := true, laidKinds := [.data, .pinned], laidTests := true, laidLooks := .later }
def UriBytesUptoCardSaid : Prop := Claim7.holds Tryd.pinned (.plain (OpenSpec.upto uriBytesSpec)) uriBytesUptoCard

/-- THE SECOND FORM's CARD OF 'exequaturlaw03.UriAgain'. -/
def uriAgainUptoCard : Claim7 := { stood := { row := uriAgainUptoRow, standIns := [], harness := (true, "ba579d0af51c732a092b67f9e298daecb716e13c90e0a33190f77a5da91f8a85"), looks := false }, kinds := [], alts := [], laidByText := true, laidKinds := [.data, .pinned], laidTests := true, laidLooks := .later }
def UriAgainUptoCardSaid : Prop := Claim7.holds Tryd.pinned (.plain (OpenSpec.upto uriAgainSpec)) uriAgainUptoCard

/-- THE SECOND FORM's CARD OF 'exequaturlaw03.UriParts'. -/
def uriPartsUptoCard : Claim7 := { stood := { row := uriPartsUptoRow, standIns := [], harness := (true, "ba579d0af51c732a092b67f9e298daecb716e13c90e0a33190f77a5da91f8a85"), looks := false }, kinds := [], alts := [], laidByText := true, laidKinds := [.data, .pinned], laidTests := true, laidLooks := .later }
def UriPartsUptoCardSaid : Prop := Claim7.holds Tryd.pinned (.plain (OpenSpec.upto uriPartsSpec)) uriPartsUptoCard

/-- THE SECOND FORM's CARD OF 'exequaturlaw03.UriPrint'. -/
def uriPrintUptoCard : Claim7 := { stood := { row := uriPrintUptoRow, standIns := [], harness := (true, "ba579d0af51c732a092b67f9e298daecb716e13c90e0a33190f77a5da91f8a85"), looks := false }, kinds := [], alts := [], laidByText := true, laidKinds := [.data, .pinned], laidTests := true, laidLooks := .later }
def UriPrintUptoCardSaid : Prop := Claim7.holds Tryd.pinned (.plain (OpenSpec.upto uriPrintSpec)) uriPrintUptoCard
end Rows
end Go.Proofs.YtjagjfmkfiikaaaDoor
