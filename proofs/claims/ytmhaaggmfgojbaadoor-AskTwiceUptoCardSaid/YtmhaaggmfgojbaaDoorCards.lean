/-
  DERIVED. GIVEN WITH THE SEED: THE CARDS: each row of YtmhaaggmfgojbaaDoorRows.lean that lists a variable, with what it lists TIED to the program's text (the seventh form; the later family's looks); each row that meets fmt, with fmt's text TOLD by the authors' own Lean function (tested against real Go, not proved from fmt's source: count such statements apart). THE CARD IS WHAT COUNTS. Prove the row's statement (the work); the ties are given (YtmhaaggmfgojbaaDoorTie.lean); close each card by the builder's one call (the guide's Derived/Test/ToyasCard.lean, 'card_holds'). Laid BY PROGRAM, IN A SANDBOX (cutbox-door.mjs). By AI agents, Wed Nov 11 2026. No macro, syntax, notation, axiom, sorry.
-/
import Derived.Test.YtmhaaggmfgojbaaDoorRows
import GoSem.ClaimSeven
namespace Go.Proofs.YtmhaaggmfgojbaaDoor
namespace Rows

/-- THE TIED CARD OF 'exequaturlaw17.AskChecks'. -/
def askChecksCard : Claim7 := { stood := { row := askChecksRow, standIns := [], harness := (true, "cff99be09bc29cf36cec0f840cfbc85a4e6c3b1e74881237ea003caff46683f3"), looks := false }, kinds := [], alts := [], laidByText := true, laidKinds := [.data, .pinned], laidTests := true, laidLooks := .later }
def AskChecksCardSaid : Prop := Claim7.holds Tryd.pinned (.plain (OpenSpec.ofChange askChecksSpec)) askChecksCard

/-- THE TIED CARD OF 'exequaturlaw17.AskBack'. -/
def askBackCard : Claim7 := { stood := { row := askBackRow, standIns := [], harness := (true, "cff99be09bc29cf36cec0f840cfbc85a4e6c3b1e74881237ea003caff46683f3"), looks := false }, kinds := [], alts := [], laidByText := true, laidKinds := [.data, .pinned], laidTests := true, laidLooks := .later }
def AskBackCardSaid : Prop := Claim7.holds Tryd.pinned (.plain (OpenSpec.ofChange askBackSpec)) askBackCard

/-- THE TIED CARD OF 'exequaturlaw17.AskWhole'. -/
def askWholeCard : Claim7 := { stood := { row := askWholeRow, standIns := [], harness := (true, "cff99be09bc29cf36cec0f840cfbc85a4e6c3b1e74881237ea003caff46683f3"), looks := false }, kinds := [], alts := [], laidByText := true, laidKinds := [.data, .pinned], laidTests := true, laidLooks := .later }
def AskWholeCardSaid : Prop := Claim7.holds Tryd.pinned (.plain (OpenSpec.ofChange askWholeSpec)) askWholeCard

/-- THE TIED CARD OF 'exequaturlaw17.AskTwice'. -/
def askTwiceCard : Claim7 := { stood := { row := askTwiceRow, standIns := [], harness := (true, "cff99be09bc29cf36cec0f840cfbc85a4e6c3b1e74881237ea003caff46683f3"), looks := false }, kinds := [], alts := [], laidByText := true, laidKinds := [.data, .pinned], laidTests := true, laidLooks := .later }
def AskTwiceCardSaid : Prop := Claim7.holds Tryd.pinned (.plain (OpenSpec.ofChange askTwiceSpec)) askTwiceCard

/-- THE SECOND FORM's CARD OF 'exequaturlaw17.AskChecks'. -/
def askChecksUptoCard : Claim7 := { stood := { row := askChecksUptoRow, standIns := [], harness := (true, "cff99be09bc29cf36cec0f840cfbc85a4e6c3b1e74881237ea003caff46683f3"), looks := false }, kinds := [], alts := [], laidByText := true, laidKinds := [.data, .pinned], laidTests := true, laidLooks := .later }
def AskChecksUptoCardSaid : Prop := Claim7.holds Tryd.pinned (.plain (OpenSpec.upto askChecksSpec)) askChecksUptoCard

/-- THE SECOND FORM's CARD OF 'exequaturlaw17.AskBack'. -/
def askBackUptoCard : Claim7 := { stood := { row := askBackUptoRow, standIns := [], harness := (true, "cff99be09bc29cf36cec0f840cfbc85a4e6c3b1e74881237ea003caff46683f3"), looks := false }, kinds := [], alts := [], laidByText := true, laidKinds := [.data, .pinned], laidTests := true, laidLooks := .later }
def AskBackUptoCardSaid : Prop := Claim7.holds Tryd.pinned (.plain (OpenSpec.upto askBackSpec)) askBackUptoCard

/-- THE SECOND FORM's CARD OF 'exequaturlaw17.AskWhole'. -/
def askWholeUptoCard : Claim7 := { stood := { row := askWholeUptoRow, standIns := [], harness := (true, "cff99be09bc29cf36cec0f840cfbc85a4e6c3b1e74881237ea003caff46683f3"), looks := false }, kinds := [], alts := [], laidByText := true, laidKinds := [.data, .pinned], laidTests := true, laidLooks := .later }
def AskWholeUptoCardSaid : Prop := Claim7.holds Tryd.pinned (.plain (OpenSpec.upto askWholeSpec)) askWholeUptoCard

/-- THE SECOND FORM's CARD OF 'exequaturlaw17.AskTwice'. -/
def askTwiceUptoCard : Claim7 := { stood := { row := askTwiceUptoRow, standIns := [], harness := (true, "cff99be09bc29cf36cec0f840cfbc85a4e6c3b1e74881237ea003caff46683f3"), looks := false }, kinds := [], alts := [], laidByText := true, laidKinds := [.data, .pinned], laidTests := true, laidLooks := .later }
def AskTwiceUptoCardSaid : Prop := Claim7.holds Tryd.pinned (.plain (OpenSpec.upto askTwiceSpec)) askTwiceUptoCard
end Rows
end Go.Proofs.YtmhaaggmfgojbaaDoor
