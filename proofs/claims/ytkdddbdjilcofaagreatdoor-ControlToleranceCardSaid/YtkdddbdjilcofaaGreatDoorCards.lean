/-
  DERIVED. GIVEN WITH THE SEED: THE CARDS: each row of YtkdddbdjilcofaaGreatDoorRows.lean that lists a variable, with what it lists TIED to the program's text (the seventh form; the later family's looks); each row that meets fmt, with fmt's text TOLD by the authors' own Lean function (tested against real Go, not proved from fmt's source: count such statements apart). THE CARD IS WHAT COUNTS. Prove the row's statement (the work); the ties are given (YtkdddbdjilcofaaGreatDoorTie.lean); close each card by the builder's one call (the guide's Derived/Test/ToyasCard.lean, 'card_holds'). Laid BY PROGRAM, IN A SANDBOX (cutbox-door.mjs). By AI agents, Wed Nov 11 2026. No macro, syntax, notation, axiom, sorry.
-/
import Derived.Test.YtkdddbdjilcofaaGreatDoorRows
import GoSem.ClaimSeven
namespace Go.Proofs.YtkdddbdjilcofaaGreatDoor
namespace Rows

/-- THE TIED CARD OF 'flowpipelaw30.ControlChooses'. -/
def controlChoosesCard : Claim7 := { stood := { row := controlChoosesRow, standIns := [], harness := (true, "3a493a2b23f25e8efceef76a3028d970bb9133ffc50b1e95a95af74ac3f9943f"), looks := false }, kinds := [], alts := [], laidByText := true, laidKinds := [.data], laidTests := true, laidLooks := .later }
def ControlChoosesCardSaid : Prop := Claim7.holds Tryz.pinned (.plain (OpenSpec.ofChange controlChoosesSpec)) controlChoosesCard

/-- THE TIED CARD OF 'flowpipelaw30.ControlFair'. -/
def controlFairCard : Claim7 := { stood := { row := controlFairRow, standIns := [], harness := (true, "3a493a2b23f25e8efceef76a3028d970bb9133ffc50b1e95a95af74ac3f9943f"), looks := false }, kinds := [], alts := [], laidByText := true, laidKinds := [.data], laidTests := true, laidLooks := .later }
def ControlFairCardSaid : Prop := Claim7.holds Tryz.pinned (.plain (OpenSpec.ofChange controlFairSpec)) controlFairCard

/-- THE TIED CARD OF 'flowpipelaw30.ControlTolerance'. -/
def controlToleranceCard : Claim7 := { stood := { row := controlToleranceRow, standIns := [], harness := (true, "3a493a2b23f25e8efceef76a3028d970bb9133ffc50b1e95a95af74ac3f9943f"), looks := false }, kinds := [], alts := [], laidByText := true, laidKinds := [.data], laidTests := true, laidLooks := .later }
def ControlToleranceCardSaid : Prop := Claim7.holds Tryz.pinned (.plain (OpenSpec.ofChange controlToleranceSpec)) controlToleranceCard

/-- THE SECOND FORM's CARD OF 'flowpipelaw30.ControlChooses'. -/
def controlChoosesUptoCard : Claim7 := { stood := { row := controlChoosesUptoRow, standIns := [], harness := (true, "3a493a2b23f25e8efceef76a3028d970bb9133ffc50b1e95a95af74ac3f9943f"), looks := false }, kinds := [], alts := [], laidByText := true, laidKinds := [.data], laidTests := true, laidLooks := .later }
def ControlChoosesUptoCardSaid : Prop := Claim7.holds Tryz.pinned (.plain (OpenSpec.upto controlChoosesSpec)) controlChoosesUptoCard

/-- THE SECOND FORM's CARD OF 'flowpipelaw30.ControlFair'. -/
def controlFairUptoCard : Claim7 := { stood := { row := controlFairUptoRow, standIns := [], harness := (true, "3a493a2b23f25e8efceef76a3028d970bb9133ffc50b1e95a95af74ac3f9943f"), looks := false }, kinds := [], alts := [], laidByText := true, laidKinds := [.data], laidTests := true, laidLooks := .later }
def ControlFairUptoCardSaid : Prop := Claim7.holds Tryz.pinned (.plain (OpenSpec.upto controlFairSpec)) controlFairUptoCard

/-- THE SECOND FORM's CARD OF 'flowpipelaw30.ControlTolerance'. -/
def controlToleranceUptoCard : Claim7 := { stood := { row := controlToleranceUptoRow, standIns := [], harness := (true, "3a493a2b23f25e8efceef76a3028d970bb9133ffc50b1e95a95af74ac3f9943f"), looks := false }, kinds := [], alts := [], laidByText := true, laidKinds := [.data], laidTests := true, laidLooks := .later }
def ControlToleranceUptoCardSaid : Prop := Claim7.holds Tryz.pinned (.plain (OpenSpec.upto controlToleranceSpec)) controlToleranceUptoCard
end Rows
end Go.Proofs.YtkdddbdjilcofaaGreatDoor
