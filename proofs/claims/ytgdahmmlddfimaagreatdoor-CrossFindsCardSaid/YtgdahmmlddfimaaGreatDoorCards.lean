/-
  DERIVED. GIVEN WITH THE SEED: THE CARDS: each row of YtgdahmmlddfimaaGreatDoorRows.lean that lists a variable, with what it lists TIED to the program's text (the seventh form; the later family's looks); each row that meets fmt, with fmt's text TOLD by the authors' own Lean function (tested against real Go, not proved from fmt's source: count such statements apart). THE CARD IS WHAT COUNTS. Prove the row's statement (the work); the ties are given (YtgdahmmlddfimaaGreatDoorTie.lean); close each card by the builder's one call (the guide's Derived/Test/ToyasCard.lean, 'card_holds'). Laid BY PROGRAM, IN A SANDBOX (cutbox-door.mjs). By AI agents, Wed Nov 11 2026. No macro, syntax, notation, axiom, sorry.
-/
import Derived.Test.YtgdahmmlddfimaaGreatDoorRows
import GoSem.ClaimSeven
namespace Go.Proofs.YtgdahmmlddfimaaGreatDoor
namespace Rows

/-- THE TIED CARD OF 'flowpipelaw41.CrossTurned'. -/
def crossTurnedCard : Claim7 := { stood := { row := crossTurnedRow, standIns := [], harness := (true, "07126c01bcae7d2d6f43fa1f3d673604c177044526f427b8da7baed0d6a01bbc"), looks := false }, kinds := [], alts := [], laidByText := true, laidKinds := [.data], laidTests := true, laidLooks := .later }
def CrossTurnedCardSaid : Prop := Claim7.holds Tryz.pinned (.plain (OpenSpec.ofChange crossTurnedSpec)) crossTurnedCard

/-- THE TIED CARD OF 'flowpipelaw41.CrossFinds'. -/
def crossFindsCard : Claim7 := { stood := { row := crossFindsRow, standIns := [], harness := (true, "07126c01bcae7d2d6f43fa1f3d673604c177044526f427b8da7baed0d6a01bbc"), looks := false }, kinds := [], alts := [], laidByText := true, laidKinds := [.data], laidTests := true, laidLooks := .later }
def CrossFindsCardSaid : Prop := Claim7.holds Tryz.pinned (.plain (OpenSpec.ofChange crossFindsSpec)) crossFindsCard

/-- THE TIED CARD OF 'flowpipelaw29.StepRuns'. -/
def stepRunsCard : Claim7 := { stood := { row := stepRunsRow, standIns := [], harness := (true, "07126c01bcae7d2d6f43fa1f3d673604c177044526f427b8da7baed0d6a01bbc"), looks := false }, kinds := [], alts := [], laidByText := true, laidKinds := [.data], laidTests := true, laidLooks := .later }
def StepRunsCardSaid : Prop := Claim7.holds Tryz.pinned (.plain (OpenSpec.ofChange stepRunsSpec)) stepRunsCard

/-- THE TIED CARD OF 'flowpipelaw30.ControlChooses'. -/
def controlChoosesCard : Claim7 := { stood := { row := controlChoosesRow, standIns := [], harness := (true, "07126c01bcae7d2d6f43fa1f3d673604c177044526f427b8da7baed0d6a01bbc"), looks := false }, kinds := [], alts := [], laidByText := true, laidKinds := [.data], laidTests := true, laidLooks := .later }
def ControlChoosesCardSaid : Prop := Claim7.holds Tryz.pinned (.plain (OpenSpec.ofChange controlChoosesSpec)) controlChoosesCard

/-- THE SECOND FORM's CARD OF 'flowpipelaw41.CrossTurned'. -/
def crossTurnedUptoCard : Claim7 := { stood := { row := crossTurnedUptoRow, standIns := [], harness := (true, "07126c01bcae7d2d6f43fa1f3d673604c177044526f427b8da7baed0d6a01bbc"), looks := false }, kinds := [], alts := [], laidByText := true, laidKinds := [.data], laidTests := true, laidLooks := .later }
def CrossTurnedUptoCardSaid : Prop := Claim7.holds Tryz.pinned (.plain (OpenSpec.upto crossTurnedSpec)) crossTurnedUptoCard

/-- THE SECOND FORM's CARD OF 'flowpipelaw41.CrossFinds'. -/
def crossFindsUptoCard : Claim7 := { stood := { row := crossFindsUptoRow, standIns := [], harness := (true, "07126c01bcae7d2d6f43fa1f3d673604c177044526f427b8da7baed0d6a01bbc"), looks := false }, kinds := [], alts := [], laidByText := true, laidKinds := [.data], laidTests := true, laidLooks := .later }
def CrossFindsUptoCardSaid : Prop := Claim7.holds Tryz.pinned (.plain (OpenSpec.upto crossFindsSpec)) crossFindsUptoCard

/-- THE SECOND FORM's CARD OF 'flowpipelaw29.StepRuns'. -/
def stepRunsUptoCard : Claim7 := { stood := { row := stepRunsUptoRow, standIns := [], harness := (true, "07126c01bcae7d2d6f43fa1f3d673604c177044526f427b8da7baed0d6a01bbc"), looks := false }, kinds := [], alts := [], laidByText := true, laidKinds := [.data], laidTests := true, laidLooks := .later }
def StepRunsUptoCardSaid : Prop := Claim7.holds Tryz.pinned (.plain (OpenSpec.upto stepRunsSpec)) stepRunsUptoCard

/-- THE SECOND FORM's CARD OF 'flowpipelaw30.ControlChooses'. -/
def controlChoosesUptoCard : Claim7 := { stood := { row := controlChoosesUptoRow, standIns := [], harness := (true, "07126c01bcae7d2d6f43fa1f3d673604c177044526f427b8da7baed0d6a01bbc"), looks := false }, kinds := [], alts := [], laidByText := true, laidKinds := [.data], laidTests := true, laidLooks := .later }
def ControlChoosesUptoCardSaid : Prop := Claim7.holds Tryz.pinned (.plain (OpenSpec.upto controlChoosesSpec)) controlChoosesUptoCard
end Rows
end Go.Proofs.YtgdahmmlddfimaaGreatDoor
