/-
  DERIVED. GIVEN WITH THE SEED: THE CARDS: each row of YtfpnmkkjieddaaaDoorRows.lean that lists a variable, with what it lists TIED to the program's text (the seventh form; the later family's looks); each row that meets fmt, with fmt's text TOLD by the authors' own Lean function (tested against real Go, not proved from fmt's source: count such statements apart). THE CARD IS WHAT COUNTS. Prove the row's statement (the work); the ties are given (YtfpnmkkjieddaaaDoorTie.lean); close each card by the builder's one call (the guide's Derived/Test/ToyasCard.lean, 'card_holds'). Laid BY PROGRAM, IN A SANDBOX (cutbox-door.mjs). By AI agents, Wed Nov 11 2026. No macro, syntax, notation, axiom, sorry.
-/
import Derived.Test.YtfpnmkkjieddaaaDoorRows
import GoSem.ClaimSeven
namespace Go.Proofs.YtfpnmkkjieddaaaDoor
namespace Rows

/-- THE TIED CARD OF 'quintetlaw20.StudyCells'. -/
def studyCellsCard : Claim7 := { stood := { row := studyCellsRow, standIns := [], harness := (true, "da46a0142e54a3b3c4574391e5cb5c3b99413cbe4a704992271089acd001e4f7"), looks := false }, kinds := [], alts := [], laidByText := true, laidKinds := [.data], laidTests := true, laidLooks := .later }
def StudyCellsCardSaid : Prop := Claim7.holds Tryd.pinned (.plain (OpenSpec.ofChange studyCellsSpec)) studyCellsCard

/-- THE TIED CARD OF 'quintetlaw20.StudyShadows'. -/
def studyShadowsCard : Claim7 := { stood := { row := studyShadowsRow, standIns := [], harness := (true, "da46a0142e54a3b3c4574391e5cb5c3b99413cbe4a704992271089acd001e4f7"), looks := false }, kinds := [], alts := [], laidByText := true, laidKinds := [.data], laidTests := true, laidLooks := .later }
def StudyShadowsCardSaid : Prop := Claim7.holds Tryd.pinned (.plain (OpenSpec.ofChange studyShadowsSpec)) studyShadowsCard

/-- THE TIED CARD OF 'quintetlaw20.StudyDiffers'. -/
def studyDiffersCard : Claim7 := { stood := { row := studyDiffersRow, standIns := [], harness := (true, "da46a0142e54a3b3c4574391e5cb5c3b99413cbe4a704992271089acd001e4f7"), looks := false }, kinds := [], alts := [], laidByText := true, laidKinds := [.data], laidTests := true, laidLooks := .later }
def StudyDiffersCardSaid : Prop := Claim7.holds Tryd.pinned (.plain (OpenSpec.ofChange studyDiffersSpec)) studyDiffersCard

/-- THE TIED CARD OF 'quintetlaw20.StudyBehind'. -/
def studyBehindCard : Claim7 := { stood := { row := studyBehindRow, standIns := [], harness := (true, "da46a0142e54a3b3c4574391e5cb5c3b99413cbe4a704992271089acd001e4f7"), looks := false }, kinds := [], alts := [], laidByText := true, laidKinds := [.data], laidTests := true, laidLooks := .later }
def StudyBehindCardSaid : Prop := Claim7.holds Tryd.pinned (.plain (OpenSpec.ofChange studyBehindSpec)) studyBehindCard

/-- THE TIED CARD OF 'quintetlaw20.StudyLeaves'. -/
def studyLeavesCard : Claim7 := { stood := { row := studyLeavesRow, standIns := [], harness := (true, "da46a0142e54a3b3c4574391e5cb5c3b99413cbe4a704992271089acd001e4f7"), looks := false }, kinds := [], alts := [], laidByText := true, laidKinds := [.data], laidTests := true, laidLooks := .later }
def StudyLeavesCardSaid : Prop := Claim7.holds Tryd.pinned (.plain (OpenSpec.ofChange studyLeavesSpec)) studyLeavesCard

/-- THE TIED CARD OF 'quintetlaw20.StudyDecides'. -/
def studyDecidesCard : Claim7 := { stood := { row := studyDecidesRow, standIns := [], harness := (true, "da46a0142e54a3b3c4574391e5cb5c3b99413cbe4a704992271089acd001e4f7"), looks := false }, kinds := [], alts := [], laidByText := true, laidKinds := [.data], laidTests := true, laidLooks := .later }
def StudyDecidesCardSaid : Prop := Claim7.holds Tryd.pinned (.plain (OpenSpec.ofChange studyDecidesSpec)) studyDecidesCard

/-- THE TIED CARD OF 'quintetlaw20.StudySees'. -/
def studySeesCard : Claim7 := { stood := { row := studySeesRow, standIns := [], harness := (true, "da46a0142e54a3b3c4574391e5cb5c3b99413cbe4a704992271089acd001e4f7"), looks := false }, kinds := [], alts := [], laidByText := true, laidKinds := [.data], laidTests := true, laidLooks := .later }
def StudySeesCardSaid : Prop := Claim7.holds Tryd.pinned (.plain (OpenSpec.ofChange studySeesSpec)) studySeesCard

/-- THE SECOND FORM's CARD OF 'quintetlaw20.StudyCells'. -/
def studyCellsUptoCard : Claim7 := { stood := { row := studyCellsUptoRow, standIns := [], harness := (true, "da46a0142e54a3b3c4574391e5cb5c3b99413cbe4a704992271089acd001e4f7"), looks := false }, kinds := [], alts := [], laidByText := true, laidKinds := [.data], laidTests := true, laidLooks := .later }
def StudyCellsUptoCardSaid : Prop := Claim7.holds Tryd.pinned (.plain (OpenSpec.upto studyCellsSpec)) studyCellsUptoCard

/-- THE SECOND FORM's CARD OF 'quintetlaw20.StudyShadows'. -/
def studyShadowsUptoCard : Claim7 := { stood := { row := studyShadowsUptoRow, standIns := [], harness := (true, "da46a0142e54a3b3c4574391e5cb5c3b99413cbe4a704992271089acd001e4f7"), looks := false }, kinds := [], alts := [], laidByText := true, laidKinds := [.data], laidTests := true, laidLooks := .later }
def StudyShadowsUptoCardSaid : Prop := Claim7.holds Tryd.pinned (.plain (OpenSpec.upto studyShadowsSpec)) studyShadowsUptoCard

/-- THE SECOND FORM's CARD OF 'quintetlaw20.StudyDiffers'. -/
def studyDiffersUptoCard : Claim7 := { stood := { row := studyDiffersUptoRow, standIns := [], harness := (true, "da46a0142e54a3b3c4574391e5cb5c3b99413cbe4a704992271089acd001e4f7"), looks := false }, kinds := [], alts := [], laidByText := true, laidKinds := [.data], laidTests := true, laidLooks := .later }
def StudyDiffersUptoCardSaid : Prop := Claim7.holds Tryd.pinned (.plain (OpenSpec.upto studyDiffersSpec)) studyDiffersUptoCard

/-- THE SECOND FORM's CARD OF 'quintetlaw20.StudyBehind'. -/
def studyBehindUptoCard : Claim7 := { stood := { row := studyBehindUptoRow, standIns := [], harness := (true, "da46a0142e54a3b3c4574391e5cb5c3b99413cbe4a704992271089acd001e4f7"), looks := false }, kinds := [], alts := [], laidByText := true, laidKinds := [.data], laidTests := true, laidLooks := .later }
def StudyBehindUptoCardSaid : Prop := Claim7.holds Tryd.pinned (.plain (OpenSpec.upto studyBehindSpec)) studyBehindUptoCard

/-- THE SECOND FORM's CARD OF 'quintetlaw20.StudyLeaves'. -/
def studyLeavesUptoCard : Claim7 := { stood := { row := studyLeavesUptoRow, standIns := [], harness := (true, "da46a0142e54a3b3c4574391e5cb5c3b99413cbe4a704992271089acd001e4f7"), looks := false }, kinds := [], alts := [], laidByText := true, laidKinds := [.data], laidTests := true, laidLooks := .later }
def StudyLeavesUptoCardSaid : Prop := Claim7.holds Tryd.pinned (.plain (OpenSpec.upto studyLeavesSpec)) studyLeavesUptoCard

/-- THE SECOND FORM's CARD OF 'quintetlaw20.StudyDecides'. -/
def studyDecidesUptoCard : Claim7 := { stood := { row := studyDecidesUptoRow, standIns := [], harness := (true, "da46a0142e54a3b3c4574391e5cb5c3b99413cbe4a704992271089acd001e4f7"), looks := false }, kinds := [], alts := [], laidByText := true, laidKinds := [.data], laidTests := true, laidLooks := .later }
def StudyDecidesUptoCardSaid : Prop := Claim7.holds Tryd.pinned (.plain (OpenSpec.upto studyDecidesSpec)) studyDecidesUptoCard

/-- THE SECOND FORM's CARD OF 'quintetlaw20.StudySees'. -/
def studySeesUptoCard : Claim7 := { stood := { row := studySeesUptoRow, standIns := [], harness := (true, "da46a0142e54a3b3c4574391e5cb5c3b99413cbe4a704992271089acd001e4f7"), looks := false }, kinds := [], alts := [], laidByText := true, laidKinds := [.data], laidTests := true, laidLooks := .later }
def StudySeesUptoCardSaid : Prop := Claim7.holds Tryd.pinned (.plain (OpenSpec.upto studySeesSpec)) studySeesUptoCard
end Rows
end Go.Proofs.YtfpnmkkjieddaaaDoor
