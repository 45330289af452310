/-
  DERIVED. GIVEN WITH THE SEED: THE CARDS: each row of YtlicijcedakieaaDoorRows.lean that lists a variable, with what it lists TIED to the program's text (the seventh form; the later family's looks); each row that meets fmt, with fmt's text TOLD by the authors' own Lean function (tested against real Go, not proved from fmt's source: count such statements apart). THE CARD IS WHAT COUNTS. Prove the row's statement (the work); the ties are given (YtlicijcedakieaaDoorTie.lean); close each card by the builder's one call (the guide's Derived/Test/ToyasCard.lean, 'card_holds'). Laid BY PROGRAM, IN A SANDBOX (cutbox-door.mjs). By AI agents, Wed Nov 11 2026. No macro, syntax, notation, axiom, sorry.
-/
import Derived.Test.YtlicijcedakieaaDoorRows
import GoSem.ClaimSeven
namespace Go.Proofs.YtlicijcedakieaaDoor
namespace Rows

/-- THE TIED CARD OF 'quintetlaw21.ThinNeedless'. -/
def thinNeedlessCard : Claim7 := { stood := { row := thinNeedlessRow, standIns := [], harness := (true, "fabd1e4f178bf2256137142c66c15162f10e2a3db769056cd537571406deed02"), looks := false }, kinds := [], alts := [], laidByText := true, laidKinds := [.data], laidTests := true, laidLooks := .later }
def ThinNeedlessCardSaid : Prop := Claim7.holds Tryd.pinned (.plain (OpenSpec.ofChange thinNeedlessSpec)) thinNeedlessCard

/-- THE TIED CARD OF 'quintetlaw21.ThinDecides'. -/
def thinDecidesCard : Claim7 := { stood := { row := thinDecidesRow, standIns := [], harness := (true, "fabd1e4f178bf2256137142c66c15162f10e2a3db769056cd537571406deed02"), looks := false }, kinds := [], alts := [], laidByText := true, laidKinds := [.data], laidTests := true, laidLooks := .later }
def ThinDecidesCardSaid : Prop := Claim7.holds Tryd.pinned (.plain (OpenSpec.ofChange thinDecidesSpec)) thinDecidesCard

/-- THE TIED CARD OF 'quintetlaw21.ThinLast'. -/
def thinLastCard : Claim7 := { stood := { row := thinLastRow, standIns := [], harness := (true, "fabd1e4f178bf2256137142c66c15162f10e2a3db769056cd537571406deed02"), looks := false }, kinds := [], alts := [], laidByText := true, laidKinds := [.data], laidTests := true, laidLooks := .later }
def ThinLastCardSaid : Prop := Claim7.holds Tryd.pinned (.plain (OpenSpec.ofChange thinLastSpec)) thinLastCard

/-- THE TIED CARD OF 'quintetlaw21.ThinGoes'. -/
def thinGoesCard : Claim7 := { stood := { row := thinGoesRow, standIns := [], harness := (true, "fabd1e4f178bf2256137142c66c15162f10e2a3db769056cd537571406deed02"), looks := false }, kinds := [], alts := [], laidByText := true, laidKinds := [.data], laidTests := true, laidLooks := .later }
def ThinGoesCardSaid : Prop := Claim7.holds Tryd.pinned (.plain (OpenSpec.ofChange thinGoesSpec)) thinGoesCard

/-- THE SECOND FORM's CARD OF 'quintetlaw21.ThinNeedless'. -/
def thinNeedlessUptoCard : Claim7 := { stood := { row := thinNeedlessUptoRow, standIns := [], harness := (true, "fabd1e4f178bf2256137142c66c15162f10e2a3db769056cd537571406deed02"), looks := false }, kinds := [], alts := [], laidByText := true, laidKinds := [.data], laidTests := true, laidLooks := .later }
def ThinNeedlessUptoCardSaid : Prop := Claim7.holds Tryd.pinned (.plain (OpenSpec.upto thinNeedlessSpec)) thinNeedlessUptoCard

/-- THE SECOND FORM's CARD OF 'quintetlaw21.ThinDecides'. -/
def thinDecidesUptoCard : Claim7 := { stood := { row := thinDecidesUptoRow, standIns := [], harness := (true, "fabd1e4f178bf2256137142c66c15162f10e2a3db769056cd537571406deed02"), looks := false }, kinds := [], alts := [], laidByText := true, laidKinds := [.data], laidTests := true, laidLooks := .later }
def ThinDecidesUptoCardSaid : Prop := Claim7.holds Tryd.pinned (.plain (OpenSpec.upto thinDecidesSpec)) thinDecidesUptoCard

/-- THE SECOND FORM's CARD OF 'quintetlaw21.ThinLast'. -/
def thinLastUptoCard : Claim7 := { stood := { row := thinLastUptoRow, standIns := [], harness := (true, "fabd1e4f178bf2256137142c66c15162f10e2a3db769056cd537571406deed02"), looks := false }, kinds := [], alts := [], laidByText := true, laidKinds := [.data], laidTests := true, laidLooks := .later }
def ThinLastUptoCardSaid : Prop := Claim7.holds Tryd.pinned (.plain (OpenSpec.upto thinLastSpec)) thinLastUptoCard

/-- THE SECOND FORM's CARD OF 'quintetlaw21.ThinGoes'. -/
def thinGoesUptoCard : Claim7 := { stood := { row := thinGoesUptoRow, standIns := [], harness := (true, "fabd1e4f178bf2256137142c66c15162f10e2a3db769056cd537571406deed02"), looks := false }, kinds := [], alts := [], laidByText := true, laidKinds := [.data], laidTests := true, laidLooks := .later }
def ThinGoesUptoCardSaid : Prop := Claim7.holds Tryd.pinned (.plain (OpenSpec.upto thinGoesSpec)) thinGoesUptoCard
end Rows
end Go.Proofs.YtlicijcedakieaaDoor
