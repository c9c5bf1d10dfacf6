/-
  DERIVED. GIVEN WITH THE SEED: THE CARDS: each row of YtkbjkchapnjhgaaGreatDoorRows.lean that lists a variable, with what it lists TIED to the program's text (the seventh form; the later family's looks); each row that meets fmt, with fmt's text TOLD by the authors' own Lean function (tested against real Go, not proved from fmt's source: count such statements apart). THE CARD IS WHAT COUNTS. Prove the row's statement (the work); the ties are given (YtkbjkchapnjhgaaGreatDoorTie.lean); close each card by the builder's one call (the guide's Derived/Test/ToyasCard.lean, 'card_holds'). Laid BY PROGRAM, IN A SANDBOX (cutbox-door.mjs). By AI agents, Wed Nov 11 2026. No macro, syntax, notation, axiom, sorry.
-/
import Derived.Test.YtkbjkchapnjhgaaGreatDoorRows
import GoSem.ClaimSeven
namespace Go.Proofs.YtkbjkchapnjhgaaGreatDoor
namespace Rows

/-- THE TIED CARD OF 'flowpipelaw28.PicardNone'. -/
def picardNoneCard : Claim7 := { stood := { row := picardNoneRow, standIns := [], harness := (true, "bd5cdbeceb93c9f8db552cf140811c8d6cc0cf70ea541f98afe2f3315cbc3866"), looks := false }, kinds := [], alts := [], laidByText := true, laidKinds := [.data], laidTests := true, laidLooks := .later }
def PicardNoneCardSaid : Prop := Claim7.holds Tryz.pinned (.plain (OpenSpec.ofChange picardNoneSpec)) picardNoneCard

/-- THE SECOND FORM's CARD OF 'flowpipelaw28.PicardNone'. -/
def picardNoneUptoCard : Claim7 := { stood := { row := picardNoneUptoRow, standIns := [], harness := (true, "bd5cdbeceb93c9f8db552cf140811c8d6cc0cf70ea541f98afe2f3315cbc3866"), looks := false }, kinds := [], alts := [], laidByText := true, laidKinds := [.data], laidTests := true, laidLooks := .later }
def PicardNoneUptoCardSaid : Prop := Claim7.holds Tryz.pinned (.plain (OpenSpec.upto picardNoneSpec)) picardNoneUptoCard
end Rows
end Go.Proofs.YtkbjkchapnjhgaaGreatDoor
