/-
  DERIVED. GIVEN WITH THE SEED: THE CARDS: each row of YthalchiobglflaaGreatDoorRows.lean that lists a variable, with what it lists TIED to the program's text (the seventh form; the later family's looks); each row that meets fmt, with fmt's text TOLD by the authors' own Lean function (tested against real Go, not proved from fmt's source: count such statements apart). THE CARD IS WHAT COUNTS. Prove the row's statement (the work); the ties are given (YthalchiobglflaaGreatDoorTie.lean); close each card by the builder's one call (the guide's Derived/Test/ToyasCard.lean, 'card_holds'). Laid BY PROGRAM, IN A SANDBOX (cutbox-door.mjs). By AI agents, Wed Nov 11 2026. No macro, syntax, notation, axiom, sorry.
-/
import Derived.Test.YthalchiobglflaaGreatDoorRows
import GoSem.ClaimSeven
namespace Go.Proofs.YthalchiobglflaaGreatDoor
namespace Rows

/-- THE TIED CARD OF 'flowpipelaw29.StepAt'. -/
def stepAtCard : Claim7 := { stood := { row := stepAtRow, standIns := [], harness := (true, "0db40072544524a6e2bbf3f206775f8bc15def3aa6c7c63af4d2597fba7837f8"), looks := false }, kinds := [], alts := [], laidByText := true, laidKinds := [.data], laidTests := true, laidLooks := .later }
def StepAtCardSaid : Prop := Claim7.holds Tryz.pinned (.plain (OpenSpec.ofChange stepAtSpec)) stepAtCard

/-- THE SECOND FORM's CARD OF 'flowpipelaw29.StepAt'. -/
def stepAtUptoCard : Claim7 := { stood := { row := stepAtUptoRow, standIns := [], harness := (true, "0db40072544524a6e2bbf3f206775f8bc15def3aa6c7c63af4d2597fba7837f8"), looks := false }, kinds := [], alts := [], laidByText := true, laidKinds := [.data], laidTests := true, laidLooks := .later }
def StepAtUptoCardSaid : Prop := Claim7.holds Tryz.pinned (.plain (OpenSpec.upto stepAtSpec)) stepAtUptoCard
end Rows
end Go.Proofs.YthalchiobglflaaGreatDoor
