/-
  DERIVED. GIVEN WITH THE SEED: THE CARDS: each row of YtifejhbochkifaaGreatDoorRows.lean that lists a variable, with what it lists TIED to the program's text (the seventh form; the later family's looks); each row that meets fmt, with fmt's text TOLD by the authors' own Lean function (tested against real Go, not proved from fmt's source: count such statements apart). THE CARD IS WHAT COUNTS. Prove the row's statement (the work); the ties are given (YtifejhbochkifaaGreatDoorTie.lean); close each card by the builder's one call (the guide's Derived/Test/ToyasCard.lean, 'card_holds'). Laid BY PROGRAM, IN A SANDBOX (cutbox-door.mjs). By AI agents, Wed Nov 11 2026. No macro, syntax, notation, axiom, sorry.
-/
import Derived.Test.YtifejhbochkifaaGreatDoorRows
import GoSem.ClaimSeven
namespace Go.Proofs.YtifejhbochkifaaGreatDoor
namespace Rows

/-- THE TIED CARD OF 'exequaturlaw05.JsonReads'. -/
def jsonReadsCard : Claim7 := { stood := { row := jsonReadsRow, standIns := [], harness := (true, "3d540374b48d4a0b6205f6331377a1356e36cbe2d5ffb140ba4fbc3c55d0c6fb"), looks := true }, kinds := [], alts := [], laidByText := true, laidKinds := [.data, .data, .data, .data, .sentinel, .sentinel, .pinned], laidTests := true, laidLooks := .later }
def JsonReadsCardSaid : Prop := Claim7.holds Tryz.pinned (.plain (OpenSpec.ofChange jsonReadsSpec)) jsonReadsCard

/-- THE TIED CARD OF 'exequaturlaw05.JsonDeep'. -/
def jsonDeepCard : Claim7 := { stood := { row := jsonDeepRow, standIns := [], harness := (true, "3d540374b48d4a0b6205f6331377a1356e36cbe2d5ffb140ba4fbc3c55d0c6fb"), looks := true }, kinds := [], alts := [], laidByText := true, laidKinds := [.data, .data, .data, .data, .sentinel, .sentinel, .pinned], laidTests := true, laidLooks := .later }
def JsonDeepCardSaid : Prop := Claim7.holds Tryz.pinned (.plain (OpenSpec.ofChange jsonDeepSpec)) jsonDeepCard

/-- THE TIED CARD OF 'exequaturlaw05.JsonOwn'. -/
def jsonOwnCard : Claim7 := { stood := { row := jsonOwnRow, standIns := [], harness := (true, "3d540374b48d4a0b6205f6331377a1356e36cbe2d5ffb140ba4fbc3c55d0c6fb"), looks := true }, kinds := [], alts := [], laidByText := true, laidKinds := [.data, .data, .data, .data, .sentinel, .sentinel, .pinned], laidTests := true, laidLooks := .later }
def JsonOwnCardSaid : Prop := Claim7.holds Tryz.pinned (.plain (OpenSpec.ofChange jsonOwnSpec)) jsonOwnCard

/-- THE TIED CARD OF 'exequaturlaw05.JsonObject'. -/
def jsonObjectCard : Claim7 := { stood := { row := jsonObjectRow, standIns := [], harness := (true, "3d540374b48d4a0b6205f6331377a1356e36cbe2d5ffb140ba4fbc3c55d0c6fb"), looks := true }, kinds := [], alts := [], laidByText := true, laidKinds := [.data, .data, .data, .data, .sentinel, .sentinel, .pinned], laidTests := true, laidLooks := .later }
def JsonObjectCardSaid : Prop := Claim7.holds Tryz.pinned (.plain (OpenSpec.ofChange jsonObjectSpec)) jsonObjectCard

/-- THE TIED CARD OF 'exequaturlaw05.JsonBack'. -/
def jsonBackCard : Claim7 := { stood := { row := jsonBackRow, standIns := [], harness := (true, "3d540374b48d4a0b6205f6331377a1356e36cbe2d5ffb140ba4fbc3c55d0c6fb"), looks := true }, kinds := [], alts := [], laidByText := true, laidKinds := [.data, .data, .data, .data, .sentinel, .sentinel, .pinned], laidTests := true, laidLooks := .later }
def JsonBackCardSaid : Prop := Claim7.holds Tryz.pinned (.plain (OpenSpec.ofChange jsonBackSpec)) jsonBackCard

/-- THE TIED CARD OF 'exequaturlaw05.JsonFields'. -/
def jsonFieldsCard : Claim7 := { stood := { row := jsonFieldsRow, standIns := [], harness := (true, "3d540374b48d4a0b6205f6331377a1356e36cbe2d5ffb140ba4fbc3c55d0c6fb"), looks := true }, kinds := [], alts := [], laidByText := true, laidKinds := [.data, .data, .data, .data, .sentinel, .sentinel, .pinned], laidTests := true, laidLooks := .later }
def JsonFieldsCardSaid : Prop := Claim7.holds Tryz.pinned (.plain (OpenSpec.ofChange jsonFieldsSpec)) jsonFieldsCard

/-- THE SECOND FORM's CARD OF 'exequaturlaw05.JsonReads'. -/
def jsonReadsUptoCard : Claim7 := { stood := { row := jsonReadsUptoRow, standIns := [], harness := (true, "3d540374b48d4a0b6205f6331377a1356e36cbe2d5ffb140ba4fbc3c55d0c6fb"), looks := true }, kinds := [], alts := [], laidByText := true, laidKinds := [.data, .data, .data, .data, .sentinel, .sentinel, .pinned], laidTests := true, laidLooks := .later }
def JsonReadsUptoCardSaid : Prop := Claim7.holds Tryz.pinned (.plain (OpenSpec.upto jsonReadsSpec)) jsonReadsUptoCard

/-- THE SECOND FORM's CARD OF 'exequaturlaw05.JsonDeep'. -/
def jsonDeepUptoCard : Claim7 := { stood := { row := jsonDeepUptoRow, standIns := [], harness := (true, "3d540374b48d4a0b6205f6331377a1356e36cbe2d5ffb140ba4fbc3c55d0c6fb"), looks := true }, kinds := [], alts := [], laidByText := true, laidKinds := [.data, .data, .data, .data, .sentinel, .sentinel, .pinned], laidTests := true, laidLooks := .later }
def JsonDeepUptoCardSaid : Prop := Claim7.holds Tryz.pinned (.plain (OpenSpec.upto jsonDeepSpec)) jsonDeepUptoCard

/-- THE SECOND FORM's CARD OF 'exequaturlaw05.JsonOwn'. -/
def jsonOwnUptoCard : Claim7 := { stood := { row := jsonOwnUptoRow, standIns := [], harness := (true, "3d540374b48d4a0b6205f6331377a1356e36cbe2d5ffb140ba4fbc3c55d0c6fb"), looks := true }, kinds := [], alts := [], laidByText := true, laidKinds := [.data, .data, .data, .data, .sentinel, .sentinel, .pinned], laidTests := true, laidLooks := .later }
def JsonOwnUptoCardSaid : Prop := Claim7.holds Tryz.pinned (.plain (OpenSpec.upto jsonOwnSpec)) jsonOwnUptoCard

/-- THE SECOND FORM's CARD OF 'exequaturlaw05.JsonObject'. -/
def jsonObjectUptoCard : Claim7 := { stood := { row := jsonObjectUptoRow, standIns := [], harness := (true, "3d540374b48d4a0b6205f6331377a1356e36cbe2d5ffb140ba4fbc3c55d0c6fb"), looks := true }, kinds := [], alts := [], laidByText := true, laidKinds := [.data, .data, .data, .data, .sentinel, .sentinel, .pinned], laidTests := true, laidLooks := .later }
def JsonObjectUptoCardSaid : Prop := Claim7.holds Tryz.pinned (.plain (OpenSpec.upto jsonObjectSpec)) jsonObjectUptoCard

/-- THE SECOND FORM's CARD OF 'exequaturlaw05.JsonBack'. -/
def jsonBackUptoCard : Claim7 := { stood := { row := jsonBackUptoRow, standIns := [], harness := (true, "3d540374b48d4a0b6205f6331377a1356e36cbe2d5ffb140ba4fbc3c55d0c6fb"), looks := true }, kinds := [], alts := [], laidByText := true, laidKinds := [.data, .data, .data, .data, .sentinel, .sentinel, .pinned], laidTests := true, laidLooks := .later }
def JsonBackUptoCardSaid : Prop := Claim7.holds Tryz.pinned (.plain (OpenSpec.upto jsonBackSpec)) jsonBackUptoCard

/-- THE SECOND FORM's CARD OF 'exequaturlaw05.JsonFields'. -/
def jsonFieldsUptoCard : Claim7 := { stood := { row := jsonFieldsUptoRow, standIns := [], harness := (true, "3d540374b48d4a0b6205f6331377a1356e36cbe2d5ffb140ba4fbc3c55d0c6fb"), looks := true }, kinds := [], alts := [], laidByText := true, laidKinds := [.data, .data, .data, .data, .sentinel, .sentinel, .pinned], laidTests := true, laidLooks := .later }
def JsonFieldsUptoCardSaid : Prop := Claim7.holds Tryz.pinned (.plain (OpenSpec.upto jsonFieldsSpec)) jsonFieldsUptoCard
end Rows
end Go.Proofs.YtifejhbochkifaaGreatDoor
