/-
  DERIVED. GIVEN WITH THE SEED: THE CARDS: each row of YtkcgalpagpgfhaaDoorRows.lean that lists a variable, with what it lists TIED to the program's text (the seventh form; the later family's looks); each row that meets fmt, with fmt's text TOLD by the authors' own Lean function (tested against real Go, not proved from fmt's source: count such statements apart). THE CARD IS WHAT COUNTS. Prove the row's statement (the work); the ties are given (YtkcgalpagpgfhaaDoorTie.lean); close each card by the builder's one call (the guide's Derived/Test/ToyasCard.lean, 'card_holds'). Laid BY PROGRAM, IN A SANDBOX (cutbox-door.mjs). By AI agents, Wed Nov 11 2026. No macro, syntax, notation, axiom, sorry.
-/
import Derived.Test.YtkcgalpagpgfhaaDoorRows
import GoSem.ClaimSeven
namespace Go.Proofs.YtkcgalpagpgfhaaDoor
namespace Rows

/-- THE TIED CARD OF 'exequaturlaw16.ClientAuths'. -/
def clientAuthsCard : Claim7 := { stood := { row := clientAuthsRow, standIns := [], harness := (true, "75b5a26916043e1567e3dcc9e76652d734c3eab16ac5f0c5b64fbda3dddab9f7"), looks := false }, kinds := [], alts := [], laidByText := true, laidKinds := [.data, .pinned], laidTests := true, laidLooks := .later }
def ClientAuthsCardSaid : Prop := Claim7.holds Tryd.pinned (.plain (OpenSpec.ofChange clientAuthsSpec)) clientAuthsCard

/-- THE TIED CARD OF 'exequaturlaw16.ClientOwn'. -/
def clientOwnCard : Claim7 := { stood := { row := clientOwnRow, standIns := [], harness := (true, "75b5a26916043e1567e3dcc9e76652d734c3eab16ac5f0c5b64fbda3dddab9f7"), looks := false }, kinds := [], alts := [], laidByText := true, laidKinds := [.data, .pinned], laidTests := true, laidLooks := .later }
def ClientOwnCardSaid : Prop := Claim7.holds Tryd.pinned (.plain (OpenSpec.ofChange clientOwnSpec)) clientOwnCard

/-- THE TIED CARD OF 'exequaturlaw16.ClientRedirects'. -/
def clientRedirectsCard : Claim7 := { stood := { row := clientRedirectsRow, standIns := [], harness := (true, "75b5a26916043e1567e3dcc9e76652d734c3eab16ac5f0c5b64fbda3dddab9f7"), looks := false }, kinds := [], alts := [], laidByText := true, laidKinds := [.data, .pinned], laidTests := true, laidLooks := .later }
def ClientRedirectsCardSaid : Prop := Claim7.holds Tryd.pinned (.plain (OpenSpec.ofChange clientRedirectsSpec)) clientRedirectsCard

/-- THE TIED CARD OF 'exequaturlaw16.ClientFinds'. -/
def clientFindsCard : Claim7 := { stood := { row := clientFindsRow, standIns := [], harness := (true, "75b5a26916043e1567e3dcc9e76652d734c3eab16ac5f0c5b64fbda3dddab9f7"), looks := false }, kinds := [], alts := [], laidByText := true, laidKinds := [.data, .pinned], laidTests := true, laidLooks := .later }
def ClientFindsCardSaid : Prop := Claim7.holds Tryd.pinned (.plain (OpenSpec.ofChange clientFindsSpec)) clientFindsCard

/-- THE SECOND FORM's CARD OF 'exequaturlaw16.ClientAuths'. -/
def clientAuthsUptoCard : Claim7 := { stood := { row := clientAuthsUptoRow, standIns := [], harness := (true, "75b5a26916043e1567e3dcc9e76652d734c3eab16ac5f0c5b64fbda3dddab9f7"), looks := false }, kinds := [], alts := [], laidByText := true, laidKinds := [.data, .pinned], laidTests := true, laidLooks := .later }
def ClientAuthsUptoCardSaid : Prop := Claim7.holds Tryd.pinned (.plain (OpenSpec.upto clientAuthsSpec)) clientAuthsUptoCard

/-- THE SECOND FORM's CARD OF 'exequaturlaw16.ClientOwn'. -/
def clientOwnUptoCard : Claim7 := { stood := { row := clientOwnUptoRow, standIns := [], harness := (true, "75b5a26916043e1567e3dcc9e76652d734c3eab16ac5f0c5b64fbda3dddab9f7"), looks := false }, kinds := [], alts := [], laidByText := true, laidKinds := [.data, .pinned], laidTests := true, laidLooks := .later }
def ClientOwnUptoCardSaid : Prop := Claim7.holds Tryd.pinned (.plain (OpenSpec.upto clientOwnSpec)) clientOwnUptoCard

/-- THE SECOND FORM's CARD OF 'exequaturlaw16.ClientRedirects'. -/
def clientRedirectsUptoCard : Claim7 := { stood := { row := clientRedirectsUptoRow, standIns := [], harness := (true, "75b5a26916043e1567e3dcc9e76652d734c3eab16ac5f0c5b64fbda3dddab9f7"), looks := false }, kinds := [], alts := [], laidByText := true, laidKinds := [.data, .pinned], laidTests := true, laidLooks := .later }
def ClientRedirectsUptoCardSaid : Prop := Claim7.holds Tryd.pinned (.plain (OpenSpec.upto clientRedirectsSpec)) clientRedirectsUptoCard

/-- THE SECOND FORM's CARD OF 'exequaturlaw16.ClientFinds'. -/
def clientFindsUptoCard : Claim7 := { stood := { row := clientFindsUptoRow, standIns := [], harness := (true, "75b5a26916043e1567e3dcc9e76652d734c3eab16ac5f0c5b64fbda3dddab9f7"), looks := false }, kinds := [], alts := [], laidByText := true, laidKinds := [.data, .pinned], laidTests := true, laidLooks := .later }
def ClientFindsUptoCardSaid : Prop := Claim7.holds Tryd.pinned (.plain (OpenSpec.upto clientFindsSpec)) clientFindsUptoCard
end Rows
end Go.Proofs.YtkcgalpagpgfhaaDoor
