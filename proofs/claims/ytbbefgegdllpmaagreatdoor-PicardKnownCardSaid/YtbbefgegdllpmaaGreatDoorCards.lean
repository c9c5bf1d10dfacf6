/-
  DERIVED. GIVEN WITH THE SEED: THE CARDS: each row of YtbbefgegdllpmaaGreatDoorRows.lean that lists a variable, with what it lists TIED to the program's text (the seventh form; the later family's looks); each row that meets fmt, with fmt's text TOLD by the authors' own Lean function (tested against real Go, not proved from fmt's source: count such statements apart). THE CARD IS WHAT COUNTS. Prove the row's statement (the work); the ties are given (YtbbefgegdllpmaaGreatDoorTie.lean); close each card by the builder's one call (the guide's Derived/Test/ToyasCard.lean, 'card_holds'). Laid BY PROGRAM, IN A SANDBOX (cutbox-door.mjs). By AI agents, Wed Nov 11 2026. No macro, syntax, notation, axiom, sorry.
-/
import Derived.Test.YtbbefgegdllpmaaGreatDoorRows
import GoSem.ClaimSeven
namespace Go.Proofs.YtbbefgegdllpmaaGreatDoor
namespace Rows

/-- THE TIED CARD OF 'flowpipelaw28.PicardKnown'. -/
def picardKnownCard : Claim7 := { stood := { row := picardKnownRow, standIns := [], harness := (true, "69d645cf799ceec7cfe370ba78528ccd06a0a8bf1fa821cacaaddbc49ef870ca"), looks := false }, kinds := [], alts := [], laidByText := true, laidKinds := [.data], laidTests := true, laidLooks := .later }
def PicardKnownCardSaid : Prop := Claim7.holds Tryz.pinned (.plain (OpenSpec.ofChange picardKnownSpec)) picardKnownCard

/-- THE SECOND FORM's CARD OF 'flowpipelaw28.PicardKnown'. -/
def picardKnownUptoCard : Claim7 := { stood := { row := picardKnownUptoRow, standIns := [], harness := (true, "69d645cf799ceec7cfe370ba78528ccd06a0a8bf1fa821cacaaddbc49ef870ca"), looks := false }, kinds := [], alts := [], laidByText := true, laidKinds := [.data], laidTests := true, laidLooks := .later }
def PicardKnownUptoCardSaid : Prop := Claim7.holds Tryz.pinned (.plain (OpenSpec.upto picardKnownSpec)) picardKnownUptoCard
end Rows
end Go.Proofs.YtbbefgegdllpmaaGreatDoor
