/-
  DERIVED. GIVEN WITH THE SEED: THE CARDS: each row of YtkjheoilidpckaaDoorRows.lean that lists a variable, with what it lists TIED to the program's text (the seventh form; the later family's looks); each row that meets fmt, with fmt's text TOLD by the authors' own Lean function (tested against real Go, not proved from fmt's source: count such statements apart). THE CARD IS WHAT COUNTS. Prove the row's statement (the work); the ties are given (YtkjheoilidpckaaDoorTie.lean); close each card by the builder's one call (the guide's Derived/Test/ToyasCard.lean, 'card_holds'). Laid BY PROGRAM, IN A SANDBOX (cutbox-door.mjs). By AI agents, Wed Nov 11 2026. No macro, syntax, notation, axiom, sorry.
-/
import Derived.Test.YtkjheoilidpckaaDoorRows
import GoSem.ClaimSeven
namespace Go.Proofs.YtkjheoilidpckaaDoor
namespace Rows

/-- THE TIED CARD OF 'exequaturlaw13.RowTexts'. -/
def rowTextsCard : Claim7 := { stood := { row := rowTextsRow, standIns := [], harness := (true, "b357d4e053061c5a3869394e344471a68fea1d2c24d6e92eea9cb3ee2b593eec"), looks := true }, kinds := [], alts := [], laidByText := true, laidKinds := [.data, .data, .data, .sentinel, .sentinel], laidTests := true, laidLooks := .later }
def RowTextsCardSaid : Prop := Claim7.holds Tryd.pinned (.plain (OpenSpec.ofChange rowTextsSpec)) rowTextsCard

/-- THE TIED CARD OF 'exequaturlaw13.RowSplits'. -/
def rowSplitsCard : Claim7 := { stood := { row := rowSplitsRow, standIns := [], harness := (true, "b357d4e053061c5a3869394e344471a68fea1d2c24d6e92eea9cb3ee2b593eec"), looks := true }, kinds := [], alts := [], laidByText := true, laidKinds := [.data, .data, .data, .sentinel, .sentinel], laidTests := true, laidLooks := .later }
def RowSplitsCardSaid : Prop := Claim7.holds Tryd.pinned (.plain (OpenSpec.ofChange rowSplitsSpec)) rowSplitsCard

/-- THE TIED CARD OF 'exequaturlaw13.RowUnlike'. -/
def rowUnlikeCard : Claim7 := { stood := { row := rowUnlikeRow, standIns := [], harness := (true, "b357d4e053061c5a3869394e344471a68fea1d2c24d6e92eea9cb3ee2b593eec"), looks := true }, kinds := [], alts := [], laidByText := true, laidKinds := [.data, .data, .data, .sentinel, .sentinel], laidTests := true, laidLooks := .later }
def RowUnlikeCardSaid : Prop := Claim7.holds Tryd.pinned (.plain (OpenSpec.ofChange rowUnlikeSpec)) rowUnlikeCard

/-- THE TIED CARD OF 'exequaturlaw13.RowCodes'. -/
def rowCodesCard : Claim7 := { stood := { row := rowCodesRow, standIns := [], harness := (true, "b357d4e053061c5a3869394e344471a68fea1d2c24d6e92eea9cb3ee2b593eec"), looks := true }, kinds := [], alts := [], laidByText := true, laidKinds := [.data, .data, .data, .sentinel, .sentinel], laidTests := true, laidLooks := .later }
def RowCodesCardSaid : Prop := Claim7.holds Tryd.pinned (.plain (OpenSpec.ofChange rowCodesSpec)) rowCodesCard

/-- THE TIED CARD OF 'exequaturlaw13.RowSessions'. -/
def rowSessionsCard : Claim7 := { stood := { row := rowSessionsRow, standIns := [], harness := (true, "b357d4e053061c5a3869394e344471a68fea1d2c24d6e92eea9cb3ee2b593eec"), looks := true }, kinds := [], alts := [], laidByText := true, laidKinds := [.data, .data, .data, .sentinel, .sentinel], laidTests := true, laidLooks := .later }
def RowSessionsCardSaid : Prop := Claim7.holds Tryd.pinned (.plain (OpenSpec.ofChange rowSessionsSpec)) rowSessionsCard

/-- THE TIED CARD OF 'exequaturlaw13.RowFamilies'. -/
def rowFamiliesCard : Claim7 := { stood := { row := rowFamiliesRow, standIns := [], harness := (true, "b357d4e053061c5a3869394e344471a68fea1d2c24d6e92eea9cb3ee2b593eec"), looks := true }, kinds := [], alts := [], laidByText := true, laidKinds := [.data, .data, .data, .sentinel, .sentinel], laidTests := true, laidLooks := .later }
def RowFamiliesCardSaid : Prop := Claim7.holds Tryd.pinned (.plain (OpenSpec.ofChange rowFamiliesSpec)) rowFamiliesCard

/-- THE TIED CARD OF 'exequaturlaw13.RowWrong'. -/
def rowWrongCard : Claim7 := { stood := { row := rowWrongRow, standIns := [], harness := (true, "b357d4e053061c5a3869394e344471a68fea1d2c24d6e92eea9cb3ee2b593eec"), looks := true }, kinds := [], alts := [], laidByText := true, laidKinds := [.data, .data, .data, .sentinel, .sentinel], laidTests := true, laidLooks := .later }
def RowWrongCardSaid : Prop := Claim7.holds Tryd.pinned (.plain (OpenSpec.ofChange rowWrongSpec)) rowWrongCard

/-- THE SECOND FORM's CARD OF 'exequaturlaw13.RowTexts'. -/
def rowTextsUptoCard : Claim7 := { stood := { row := rowTextsUptoRow, standIns := [], harness := (true, "b357d4e053061c5a3869394e344471a68fea1d2c24d6e92eea9cb3ee2b593eec"), looks := true }, kinds := [], alts := [], laidByText := true, laidKinds := [.data, .data, .data, .sentinel, .sentinel], laidTests := true, laidLooks := .later }
def RowTextsUptoCardSaid : Prop := Claim7.holds Tryd.pinned (.plain (OpenSpec.upto rowTextsSpec)) rowTextsUptoCard

/-- THE SECOND FORM's CARD OF 'exequaturlaw13.RowSplits'. -/
def rowSplitsUptoCard : Claim7 := { stood := { row := rowSplitsUptoRow, standIns := [], harness := (true, "b357d4e053061c5a3869394e344471a68fea1d2c24d6e92eea9cb3ee2b593eec"), looks := true }, kinds := [], alts := [], laidByText := true, laidKinds := [.data, .data, .data, .sentinel, .sentinel], laidTests := true, laidLooks := .later }
def RowSplitsUptoCardSaid : Prop := Claim7.holds Tryd.pinned (.plain (OpenSpec.upto rowSplitsSpec)) rowSplitsUptoCard

/-- THE SECOND FORM's CARD OF 'exequaturlaw13.RowUnlike'. -/
def rowUnlikeUptoCard : Claim7 := { stood := { row := rowUnlikeUptoRow, standIns := [], harness := (true, "b357d4e053061c5a3869394e344471a68fea1d2c24d6e92eea9cb3ee2b593eec"), looks := true }, kinds := [], alts := [], laidByText := true, laidKinds := [.data, .data, .data, .sentinel, .sentinel], laidTests := true, laidLooks := .later }
def RowUnlikeUptoCardSaid : Prop := Claim7.holds Tryd.pinned (.plain (OpenSpec.upto rowUnlikeSpec)) rowUnlikeUptoCard

/-- THE SECOND FORM's CARD OF 'exequaturlaw13.RowCodes'. -/
def rowCodesUptoCard : Claim7 := { stood := { row := rowCodesUptoRow, standIns := [], harness := (true, "b357d4e053061c5a3869394e344471a68fea1d2c24d6e92eea9cb3ee2b593eec"), looks := true }, kinds := [], alts := [], laidByText := true, laidKinds := [.data, .data, .data, .sentinel, .sentinel], laidTests := true, laidLooks := .later }
def RowCodesUptoCardSaid : Prop := Claim7.holds Tryd.pinned (.plain (OpenSpec.upto rowCodesSpec)) rowCodesUptoCard

/-- THE SECOND FORM's CARD OF 'exequaturlaw13.RowSessions'. -/
def rowSessionsUptoCard : Claim7 := { stood := { row := rowSessionsUptoRow, standIns := [], harness := (true, "b357d4e053061c5a3869394e344471a68fea1d2c24d6e92eea9cb3ee2b593eec"), looks := true }, kinds := [], alts := [], laidByText := true, laidKinds := [.data, .data, .data, .sentinel, .sentinel], laidTests := true, laidLooks := .later }
def RowSessionsUptoCardSaid : Prop := Claim7.holds Tryd.pinned (.plain (OpenSpec.upto rowSessionsSpec)) rowSessionsUptoCard

/-- THE SECOND FORM's CARD OF 'exequaturlaw13.RowFamilies'. -/
def rowFamiliesUptoCard : Claim7 := { stood := { row := rowFamiliesUptoRow, standIns := [], harness := (true, "b357d4e053061c5a3869394e344471a68fea1d2c24d6e92eea9cb3ee2b593eec"), looks := true }, kinds := [], alts := [], laidByText := true, laidKinds := [.data, .data, .data, .sentinel, .sentinel], laidTests := true, laidLooks := .later }
def RowFamiliesUptoCardSaid : Prop := Claim7.holds Tryd.pinned (.plain (OpenSpec.upto rowFamiliesSpec)) rowFamiliesUptoCard

/-- THE SECOND FORM's CARD OF 'exequaturlaw13.RowWrong'. -/
def rowWrongUptoCard : Claim7 := { stood := { row := rowWrongUptoRow, standIns := [], harness := (true, "b357d4e053061c5a3869394e344471a68fea1d2c24d6e92eea9cb3ee2b593eec"), looks := true }, kinds := [], alts := [], laidByText := true, laidKinds := [.data, .data, .data, .sentinel, .sentinel], laidTests := true, laidLooks := .later }
def RowWrongUptoCardSaid : Prop := Claim7.holds Tryd.pinned (.plain (OpenSpec.upto rowWrongSpec)) rowWrongUptoCard
end Rows
end Go.Proofs.YtkjheoilidpckaaDoor
