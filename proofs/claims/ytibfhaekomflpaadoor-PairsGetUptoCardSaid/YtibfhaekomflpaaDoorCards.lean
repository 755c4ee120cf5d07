/-
  DERIVED. GIVEN WITH THE SEED: THE CARDS: each row of YtibfhaekomflpaaDoorRows.lean that lists a variable, with what it lists TIED to the program's text (the seventh form; the later family's looks); each row that meets fmt, with fmt's text TOLD by the authors' own Lean function (tested against real Go, not proved from fmt's source: count such statements apart). THE CARD IS WHAT COUNTS. Prove the row's statement (the work); the ties are given (YtibfhaekomflpaaDoorTie.lean); close each card by the builder's one call (the guide's Derived/Test/ToyasCard.lean, 'card_holds'). Laid BY PROGRAM, IN A SANDBOX (cutbox-door.mjs). By AI agents, Wed Nov 11 2026. No macro, syntax, notation, axiom, sorry.
-/
import Derived.Test.YtibfhaekomflpaaDoorRows
import GoSem.ClaimSeven
namespace Go.Proofs.YtibfhaekomflpaaDoor
namespace Rows

/-- THE TIED CARD OF 'exequaturlaw02.PairsParse'. -/
def pairsParseCard : Claim7 := { stood := { row := pairsParseRow, standIns := [], harness := (true, "737d42e77eb9fbff37a86f0e147735b5282e7784f4c463e3d497dcb57d6f92c6"), looks := false }, kinds := [], alts := [], laidByText := true, laidKinds := [.data, .pinned], laidTests := true, laidLooks := .later }
def PairsParseCardSaid : Prop := Claim7.holds Tryd.pinned (.plain (OpenSpec.ofChange pairsParseSpec)) pairsParseCard

/-- THE TIED CARD OF 'exequaturlaw02.PairsBack'. -/
def pairsBackCard : Claim7 := { stood := { row := pairsBackRow, standIns := [], harness := (true, "737d42e77eb9fbff37a86f0e147735b5282e7784f4c463e3d497dcb57d6f92c6"), looks := false }, kinds := [], alts := [], laidByText := true, laidKinds := [.data, .pinned], laidTests := true, laidLooks := .later }
def PairsBackCardSaid : Prop := Claim7.holds Tryd.pinned (.plain (OpenSpec.ofChange pairsBackSpec)) pairsBackCard

/-- THE TIED CARD OF 'exequaturlaw02.PairsLimits'. -/
def pairsLimitsCard : Claim7 := { stood := { row := pairsLimitsRow, standIns := [], harness := (true, "737d42e77eb9fbff37a86f0e147735b5282e7784f4c463e3d497dcb57d6f92c6"), looks := false }, kinds := [], alts := [], laidByText := true, laidKinds := [.data, .pinned], laidTests := true, laidLooks := .later }
def PairsLimitsCardSaid : Prop := Claim7.holds Tryd.pinned (.plain (OpenSpec.ofChange pairsLimitsSpec)) pairsLimitsCard

/-- THE TIED CARD OF 'exequaturlaw02.PairsEmpty'. -/
def pairsEmptyCard : Claim7 := { stood := { row := pairsEmptyRow, standIns := [], harness := (true, "737d42e77eb9fbff37a86f0e147735b5282e7784f4c463e3d497dcb57d6f92c6"), looks := false }, kinds := [], alts := [], laidByText := true, laidKinds := [.data, .pinned], laidTests := true, laidLooks := .later }
def PairsEmptyCardSaid : Prop := Claim7.holds Tryd.pinned (.plain (OpenSpec.ofChange pairsEmptySpec)) pairsEmptyCard

/-- THE TIED CARD OF 'exequaturlaw02.PairsGet'. -/
def pairsGetCard : Claim7 := { stood := { row := pairsGetRow, standIns := [], harness := (true, "737d42e77eb9fbff37a86f0e147735b5282e7784f4c463e3d497dcb57d6f92c6"), looks := false }, kinds := [], alts := [], laidByText := true, laidKinds := [.data, .pinned], laidTests := true, laidLooks := .later }
def PairsGetCardSaid : Prop := Claim7.holds Tryd.pinned (.plain (OpenSpec.ofChange pairsGetSpec)) pairsGetCard

/-- THE SECOND FORM's CARD OF 'exequaturlaw02.PairsParse'. -/
def pairsParseUptoCard : Claim7 := { stood := { row := pairsParseUptoRow, standIns := [], harness := (true, "737d42e77eb9fbff37a86f0e147735b5282e7784f4c463e3d497dcb57d6f92c6"), looks := false }, kinds := [], alts := [], laidByText := true, laidKinds := [.data, .pinned], laidTests := true, laidLooks := .later }
def PairsParseUptoCardSaid : Prop := Claim7.holds Tryd.pinned (.plain (OpenSpec.upto pairsParseSpec)) pairsParseUptoCard

/-- THE SECOND FORM's CARD OF 'exequaturlaw02.PairsBack'. -/
def pairsBackUptoCard : Claim7 := { stood := { row := pairsBackUptoRow, standIns := [], harness := (true, "737d42e77eb9fbff37a86f0e147735b5282e7784f4c463e3d497dcb57d6f92c6"), looks := false }, kinds := [], alts := [], laidByText := true, laidKinds := [.data, .pinned], laidTests := true, laidLooks := .later }
def PairsBackUptoCardSaid : Prop := Claim7.holds Tryd.pinned (.plain (OpenSpec.upto pairsBackSpec)) pairsBackUptoCard

/-- THE SECOND FORM's CARD OF 'exequaturlaw02.PairsLimits'. -/
def pairsLimitsUptoCard : Claim7 := { stood := { row := pairsLimitsUptoRow, standIns := [], harness := (true, "737d42e77eb9fbff37a86f0e147735b5282e7784f4c463e3d497dcb57d6f92c6"), looks := false }, kinds := [], alts := [], laidByText := true, laidKinds := [.data, .pinned], laidTests := true, laidLooks := .later }
def PairsLimitsUptoCardSaid : Prop := Claim7.holds Tryd.pinned (.plain (OpenSpec.upto pairsLimitsSpec)) pairsLimitsUptoCard

/-- THE SECOND FORM's CARD OF 'exequaturlaw02.PairsEmpty'. -/
def pairsEmptyUptoCard : Claim7 := { stood := { row := pairsEmptyUptoRow, standIns := [], harness := (true, "737d42e77eb9fbff37a86f0e147735b5282e7784f4c463e3d497dcb57d6f92c6"), looks := false }, kinds := [], alts := [], laidByText := true, laidKinds := [.data, .pinned], laidTests := true, laidLooks := .later }
def PairsEmptyUptoCardSaid : Prop := Claim7.holds Tryd.pinned (.plain (OpenSpec.upto pairsEmptySpec)) pairsEmptyUptoCard

/-- THE SECOND FORM's CARD OF 'exequaturlaw02.PairsGet'. -/
def pairsGetUptoCard : Claim7 := { stood := { row := pairsGetUptoRow, standIns := [], harness := (true, "737d42e77eb9fbff37a86f0e147735b5282e7784f4c463e3d497dcb57d6f92c6"), looks := false }, kinds := [], alts := [], laidByText := true, laidKinds := [.data, .pinned], laidTests := true, laidLooks := .later }
def PairsGetUptoCardSaid : Prop := Claim7.holds Tryd.pinned (.plain (OpenSpec.upto pairsGetSpec)) pairsGetUptoCard
end Rows
end Go.Proofs.YtibfhaekomflpaaDoor
